/- Contracts of the statements' own helpers on a stack: do, awake. -/
import Derived.Test.YtjfbiganijldfaaDoorPath
namespace Go.Proofs.YtjfbiganijldfaaDoor
open Go.RowKit
set_option linter.unusedVariables false
set_option linter.unusedSimpArgs false
set_option linter.unnecessarySimpa false

theorem StkPost.pre {w W w' : World} {b : Nat} {v r : Value} {L : List Nd} {e : Ending} (hk : Keeps NoBlk w W) (h : StkPost W b v r L e w') : StkPost w b v r L e w' := by
  obtain ⟨v', h1, h2, h3, h4⟩ := h
  exact ⟨v', h1, h2, hk.mono (fun _ _ h => h.elim) |>.trans h3 (fun _ _ h => h), fun k hk' => (h4 k hk').imp_right (fun h => Nat.le_trans hk.size h)⟩

theorem TabOK.keeps {w w' : World} (h : TabOK w) (hk : Keeps NoBlk w w') : TabOK w' := fun j hj => hk.cell (fun h => h) (h j hj)

/-- what a step does -/
def doN (L : List Nd) (d i a b : Int) : Bool × List Nd :=
  if d = 0 then openN L a b else if d = 1 then ((takeN L).2.1, (takeN L).2.2) else if d = 2 then closeN L else if d = 3 then insertN L i a else (false, L)

set_option maxHeartbeats 400000 in
theorem do_any (w : World) (bs : Nat) (v : Value) (L : List Nd) (d i a b : Int) (h : StackAt w bs v L) (hok : StkOk L) (hT : TabOK w)
    (ha : 0 ≤ a ∧ a < 18446744073709551616) (hb : 0 ≤ b ∧ b < 18446744073709551616) :
    Calls Tryd.prog 8 #[.pointer (some ⟨bs, 0, none⟩), .agg #[.int .i64 d, .int .i64 i, .int .u64 a, .int .u64 b]] w (StkPost w bs v (.bool (doN L d i a b).1) (doN L d i a b).2) := by
  have hk : ∀ o, Keeps NoBlk w (w.alloc o) := fun o => (Keeps.refl _ _).alloc o
  by_cases d0 : d = 0
  · subst d0
    rw [show doN L 0 i a b = openN L a b by simp [doN]]
    have HC := Lib.hid (fun o => open_any (w.alloc o) bs v L a b (h.alloc o) hok (hT.keeps (hk o)) ha hb)
    have HK := Lib.hid hk
    clear h hok hT hk
    go_enter Tryd.func8, Tryd.ntmps8
    go_wp2_with (go_at_call 14; refine (HC.out _).mono ?_; rintro e w' ⟨v', rfl, h1, h2, h3⟩)
    go_ret
    exact StkPost.pre (HK.out _) ⟨v', rfl, h1, h2, h3⟩
  · by_cases d1 : d = 1
    · subst d1
      rw [show doN L 1 i a b = ((takeN L).2.1, (takeN L).2.2) by simp [doN]]
      have HC := Lib.hid (fun o => take_any (w.alloc o) bs v L (h.alloc o) hok (hT.keeps (hk o)))
      have HK := Lib.hid hk
      clear h hok hT hk
      go_enter Tryd.func8, Tryd.ntmps8
      go_wp2_with (go_at_call 16; refine (HC.out _).mono ?_; rintro e w' ⟨v', rfl, h1, h2, h3⟩)
      go_ret
      exact StkPost.pre (HK.out _) ⟨v', rfl, h1, h2, h3⟩
    · by_cases d2 : d = 2
      · subst d2
        rw [show doN L 2 i a b = closeN L by simp [doN]]
        have HC := Lib.hid (fun o => close_any (w.alloc o) bs v L (h.alloc o) hok)
        have HK := Lib.hid hk
        clear h hok hT hk
        go_enter Tryd.func8, Tryd.ntmps8
        go_wp2_with (go_at_call 18; refine (HC.out _).mono ?_; rintro e w' ⟨v', rfl, h1, h2, h3⟩)
        go_ret
        exact StkPost.pre (HK.out _) ⟨v', rfl, h1, h2, h3⟩
      · by_cases d3 : d = 3
        · subst d3
          rw [show doN L 3 i a b = insertN L i a by simp [doN]]
          have HC := Lib.hid (fun o => insert_any (w.alloc o) bs v L i a (h.alloc o) hok (hT.keeps (hk o)) ha)
          have HK := Lib.hid hk
          clear h hok hT hk
          go_enter Tryd.func8, Tryd.ntmps8
          go_wp2_with (go_at_call 20; refine (HC.out _).mono ?_; rintro e w' ⟨v', rfl, h1, h2, h3⟩)
          go_ret
          exact StkPost.pre (HK.out _) ⟨v', rfl, h1, h2, h3⟩
        · rw [show doN L d i a b = (false, L) by simp [doN, d0, d1, d2, d3]]
          have e0 : (d == 0) = false := by rw [beq_eq_false_iff_ne]; exact d0
          have e1 : (d == 1) = false := by rw [beq_eq_false_iff_ne]; exact d1
          have e2 : (d == 2) = false := by rw [beq_eq_false_iff_ne]; exact d2
          have e3 : (d == 3) = false := by rw [beq_eq_false_iff_ne]; exact d3
          have HS := Lib.hid (fun o => stk_same (h.alloc o) (.bool false) 0)
          have HK := Lib.hid hk
          clear h hok hT hk d0 d1 d2 d3
          go_enter Tryd.func8, Tryd.ntmps8
          go_wp2
          go_ret
          exact StkPost.pre (HK.out _) (HS.out _)

set_option maxHeartbeats 400000 in
theorem awake_any (w : World) (hT : TabOK w) :
    Calls Tryd.prog 6 #[] w fun e w' => e = .returned (.bool true) ∧ Keeps NoBlk w w' := by
  have h0 := StackAt.fresh w
  have hk : Keeps NoBlk w (w.alloc (.cells #[.slice none 0 0] 50 (0, 0))) := (Keeps.refl _ _).alloc _
  have HC := Lib.hid (open_any _ w.heap.size _ [] 0 1 h0 ⟨by decide, by simp⟩ (hT.keeps hk) (by decide) (by decide))
  have ho : openN [] 0 1 = (true, [openNd 0 1]) := by simp [openN, topOpen]
  rw [ho] at HC
  have HK := Lib.hid hk
  clear h0 hk hT ho
  go_enter Tryd.func6, Tryd.ntmps6
  go_wp2_with (first | (go_at_call 7; refine (stkNew_any _).mono ?_; rintro e w' ⟨rfl, rfl⟩) | (go_at_call 14; refine HC.out.mono ?_; rintro e w1 ⟨v', rfl, h1, h2, h3⟩; have H1 := Lib.hid h1; have H2 := Lib.hid h2; clear h1 h2 h3) | (go_at_call 9; refine (stkLen_any _ _ _ _ (by exact H1.out)).mono ?_; rintro e w' ⟨rfl, rfl⟩))
  go_ret
  refine ⟨rfl, HK.out.trans H2.out ?_⟩
  rintro k hk (rfl | h)
  · omega
  · simp [Value.ownBlock] at h
end Go.Proofs.YtjfbiganijldfaaDoor
