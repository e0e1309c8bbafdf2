/- The law's shown. -/
import Derived.Test.YtmkfpkficmmlgaaJ38
namespace Go.Proofs.Ytmkfpkficmmlgaa
open Go.RowKit
set_option linter.unusedVariables false
set_option linter.unusedSimpArgs false
set_option linter.unnecessarySimpa false

def noTags : Tags := fun _ => none
set_option maxRecDepth 20000 in
set_option maxHeartbeats 4000000 in
theorem shown_any (w : World) : Calls Try.prog 5 #[] w fun e w' => e = .returned (.bool true) ∧ Keeps NoBlk w w' := by
  go_enter Try.func5, Try.ntmps5
  go_upto_region 2 with fail
  have hk : Keeps NoBlk w ((((w.alloc (.cells #[.int .i64 5] 3)).alloc (.cells #[.int .i64 23, .int .i64 0, .int .i64 0, .int .i64 0, .int .i64 23, .int .i64 0, .int .i64 0, .int .i64 0, .int .i64 29, .int .i64 0, .int .i64 0, .int .i64 0] 48)).alloc (.cells #[.int .i64 1, .slice (some ⟨w.heap.size + 1, 0, none⟩) 3 3] 51)).alloc (.cells #[.slice (some ⟨w.heap.size, 0, none⟩) 1 1, .int .i64 0, .slice (some ⟨w.heap.size + 1 + 1, 0, none⟩) 1 1] 25)) := ((((Keeps.refl _ _).alloc _).alloc _).alloc _).alloc _
  have r0 : RowAt ((((w.alloc (.cells #[.int .i64 5] 3)).alloc (.cells #[.int .i64 23, .int .i64 0, .int .i64 0, .int .i64 0, .int .i64 23, .int .i64 0, .int .i64 0, .int .i64 0, .int .i64 29, .int .i64 0, .int .i64 0, .int .i64 0] 48)).alloc (.cells #[.int .i64 1, .slice (some ⟨w.heap.size + 1, 0, none⟩) 3 3] 51)).alloc (.cells #[.slice (some ⟨w.heap.size, 0, none⟩) 1 1, .int .i64 0, .slice (some ⟨w.heap.size + 1 + 1, 0, none⟩) 1 1] 25)) w.heap.size [.int .i64 5] := (((RowAt.ofBlock (heap_alloc_new w _)).alloc _).alloc _).alloc _
  have r1 : RowAt ((((w.alloc (.cells #[.int .i64 5] 3)).alloc (.cells #[.int .i64 23, .int .i64 0, .int .i64 0, .int .i64 0, .int .i64 23, .int .i64 0, .int .i64 0, .int .i64 0, .int .i64 29, .int .i64 0, .int .i64 0, .int .i64 0] 48)).alloc (.cells #[.int .i64 1, .slice (some ⟨w.heap.size + 1, 0, none⟩) 3 3] 51)).alloc (.cells #[.slice (some ⟨w.heap.size, 0, none⟩) 1 1, .int .i64 0, .slice (some ⟨w.heap.size + 1 + 1, 0, none⟩) 1 1] 25)) (w.heap.size + 1) (insCells [⟨23, 0, 0, 0⟩, ⟨23, 0, 0, 0⟩, ⟨29, 0, 0, 0⟩]) := ((RowAt.ofBlock (heap_alloc2 w _ _)).alloc _).alloc _
  have r2 : RowAt ((((w.alloc (.cells #[.int .i64 5] 3)).alloc (.cells #[.int .i64 23, .int .i64 0, .int .i64 0, .int .i64 0, .int .i64 23, .int .i64 0, .int .i64 0, .int .i64 0, .int .i64 29, .int .i64 0, .int .i64 0, .int .i64 0] 48)).alloc (.cells #[.int .i64 1, .slice (some ⟨w.heap.size + 1, 0, none⟩) 3 3] 51)).alloc (.cells #[.slice (some ⟨w.heap.size, 0, none⟩) 1 1, .int .i64 0, .slice (some ⟨w.heap.size + 1 + 1, 0, none⟩) 1 1] 25)) (w.heap.size + 1 + 1) [.int .i64 1, .slice (some ⟨w.heap.size + 1, 0, none⟩) 3 3] := (RowAt.ofBlock (by have h := heap_alloc2 (w.alloc (.cells #[.int .i64 5] 3)) (.cells #[.int .i64 23, .int .i64 0, .int .i64 0, .int .i64 0, .int .i64 23, .int .i64 0, .int .i64 0, .int .i64 0, .int .i64 29, .int .i64 0, .int .i64 0, .int .i64 0] 48) (.cells #[.int .i64 1, .slice (some ⟨w.heap.size + 1, 0, none⟩) 3 3] 51); simpa using h)).alloc _
  have r3 : RowAt ((((w.alloc (.cells #[.int .i64 5] 3)).alloc (.cells #[.int .i64 23, .int .i64 0, .int .i64 0, .int .i64 0, .int .i64 23, .int .i64 0, .int .i64 0, .int .i64 0, .int .i64 29, .int .i64 0, .int .i64 0, .int .i64 0] 48)).alloc (.cells #[.int .i64 1, .slice (some ⟨w.heap.size + 1, 0, none⟩) 3 3] 51)).alloc (.cells #[.slice (some ⟨w.heap.size, 0, none⟩) 1 1, .int .i64 0, .slice (some ⟨w.heap.size + 1 + 1, 0, none⟩) 1 1] 25)) (w.heap.size + 1 + 1 + 1) [.slice (some ⟨w.heap.size, 0, none⟩) 1 1, .int .i64 0, .slice (some ⟨w.heap.size + 1 + 1, 0, none⟩) 1 1] := RowAt.ofBlock (by have h := heap_alloc_new (((w.alloc (.cells #[.int .i64 5] 3)).alloc (.cells #[.int .i64 23, .int .i64 0, .int .i64 0, .int .i64 0, .int .i64 23, .int .i64 0, .int .i64 0, .int .i64 0, .int .i64 29, .int .i64 0, .int .i64 0, .int .i64 0] 48)).alloc (.cells #[.int .i64 1, .slice (some ⟨w.heap.size + 1, 0, none⟩) 3 3] 51)) (.cells #[.slice (some ⟨w.heap.size, 0, none⟩) 1 1, .int .i64 0, .slice (some ⟨w.heap.size + 1 + 1, 0, none⟩) 1 1] 25); simpa using h)
  generalize ((((w.alloc (.cells #[.int .i64 5] 3)).alloc (.cells #[.int .i64 23, .int .i64 0, .int .i64 0, .int .i64 0, .int .i64 23, .int .i64 0, .int .i64 0, .int .i64 0, .int .i64 29, .int .i64 0, .int .i64 0, .int .i64 0] 48)).alloc (.cells #[.int .i64 1, .slice (some ⟨w.heap.size + 1, 0, none⟩) 3 3] 51)).alloc (.cells #[.slice (some ⟨w.heap.size, 0, none⟩) 1 1, .int .i64 0, .slice (some ⟨w.heap.size + 1 + 1, 0, none⟩) 1 1] 25)) = G at hk r0 r1 r2 r3 ⊢
  generalize w.heap.size + 1 + 1 + 1 = z3 at r3 ⊢
  generalize w.heap.size + 1 + 1 = z2 at r2 r3 ⊢
  generalize w.heap.size + 1 = z1 at r1 r2 ⊢
  generalize w.heap.size = z0 at r0 r3 ⊢
  have HK := Lib.hid hk
  have HI : ImgR G (.slice (some ⟨z0, 0, none⟩) 1 1) (.slice (some ⟨z2, 0, none⟩) 1 1) shownX := by
    refine ⟨⟨_, 1, rfl, fun _ => ⟨z0, 0, rfl, r0.rng⟩⟩, _, 1, rfl, fun i hi => ?_⟩
    have hi0 : i = 0 := by have : i < 1 := hi; omega
    subst hi0
    exact ⟨z2, 0, .slice (some ⟨z1, 0, none⟩) 3 3, rfl, r2.cell (k := 0) rfl, r2.cell (k := 1) rfl, _, 3, rfl, fun _ => ⟨z1, 0, rfl, r1.rng⟩⟩
  have HNEW := Lib.hid (vnew_ok G noTags 0 _ _ shownX HI shown_right (fun k y e => by cases e) (fun k y e => by cases e))
  have x0 := r3.cell (k := 0) (v := .slice (some ⟨z0, 0, none⟩) 1 1) rfl
  have x1 := r3.cell (k := 1) (v := .int .i64 0) rfl
  have x2 := r3.cell (k := 2) (v := .slice (some ⟨z2, 0, none⟩) 1 1) rfl
  clear hk r0 r1 r2 r3 HI
  go_upto_region 5 with (go_at_call 8; refine HNEW.out.mono ?_; rintro e w1 ⟨b, gf, cf, T', rfl, hv, hx, hk⟩; have HV := Lib.hid hv; have HX := Lib.hid hx; have K1 := Lib.hid hk; clear hv hx hk)
  have hg0 := newN_good shown_right
  have HV0 : Hid (VmAt w1 T' 0 b gf cf shownX shown0) := by show VmAt _ _ _ _ _ _ _ _; rw [← shown_new]; exact HV.out
  have HG0 : Hid (VGood shownX shown0) := by show VGood _ _; rw [← shown_new]; exact hg0
  have HG1 : Hid (VGood shownX shown1) := by have h := stepR_good 0 HG0.out; rw [shown_step0] at h; exact h
  have HG2 : Hid (VGood shownX shown2) := by have h := stepR_good 0 HG1.out; rw [shown_step1] at h; exact h
  have KO : Hid (∀ (W W' : World), G.heap.size ≤ W.heap.size → Keeps (Own T' 0) W W' → Keeps (fun q => G.heap.size ≤ q) W W') := fun W W' _ h => h.mono (fun q _ hq => by
    obtain ⟨t, e, _⟩ := hq
    rcases HX.out.2 q _ e with h1 | h1
    · cases h1
    · exact h1.1)
  have ST0 : Hid (∀ W, VmAt W T' 0 b gf cf shownX shown0 → Calls Try.prog 14 #[.pointer (some ⟨b, 0, none⟩), .int .i64 0] W fun e w' => e = .returned (.tuple #[.agg #[.int .i64 0, .int .i64 3, .int .i64 0, .int .i64 5, .int .i64 0], .int .i64 0]) ∧ VmAt w' T' 0 b gf cf shownX shown1 ∧ Keeps (Own T' 0) W w') := fun W hW => by
    have h := vstep_any W T' 0 b gf cf shownX shown0 0 hW HG0.out
    rw [shown_step0] at h
    exact h
  have ST1 : Hid (∀ W, VmAt W T' 0 b gf cf shownX shown1 → Calls Try.prog 14 #[.pointer (some ⟨b, 0, none⟩), .int .i64 0] W fun e w' => e = .returned (.tuple #[.agg #[.int .i64 0, .int .i64 3, .int .i64 0, .int .i64 5, .int .i64 0], .int .i64 0]) ∧ VmAt w' T' 0 b gf cf shownX shown2 ∧ Keeps (Own T' 0) W w') := fun W hW => by
    have h := vstep_any W T' 0 b gf cf shownX shown1 0 hW HG1.out
    rw [shown_step1] at h
    exact h
  have ST2 : Hid (∀ W, VmAt W T' 0 b gf cf shownX shown2 → Calls Try.prog 14 #[.pointer (some ⟨b, 0, none⟩), .int .i64 1] W fun e w' => e = .returned (.tuple #[.agg #[.int .i64 0, .int .i64 0, .int .i64 0, .int .i64 0, .int .i64 0], .int .i64 2]) ∧ VmAt w' T' 0 b gf cf shownX shown2 ∧ Keeps (Own T' 0) W w') := fun W hW => by
    have h := vstep_any W T' 0 b gf cf shownX shown2 1 hW HG2.out
    rw [shown_step2] at h
    exact h
  have VS : Hid (∀ W, VmAt W T' 0 b gf cf shownX shown2 → Calls Try.prog 17 #[.pointer (some ⟨b, 0, none⟩)] W (StaEnd W shownX shown2)) := fun W hW => vstate_any W T' 0 b gf cf shownX shown2 hW HG2.out
  clear HNEW hg0 x0 x1 x2 HV
  go_upto_region 6 with (go_at_call 14; refine (ST0.out _ HV0.out).mono ?_; rintro e w2 ⟨rfl, hv, hk⟩; have HV1 := Lib.hid hv; have K2 := Lib.hid hk; clear hv hk)
  have L2 : Hid (Keeps (fun q => G.heap.size ≤ q) G w2) := (K1.out.mono (fun _ _ h => h.elim)).trans (KO.out _ _ K1.out.size K2.out) (fun _ _ h => h)
  generalize hWA : w2.alloc (.cells #[.int .i64 0, .int .i64 3, .int .i64 0, .int .i64 5, .int .i64 0] 40) = wA
  have KA : Hid (Keeps NoBlk w2 wA) := by rw [← hWA]; exact (Keeps.refl _ _).alloc _
  have K2S : Hid (w1.heap.size ≤ w2.heap.size) := K2.out.size
  clear hWA K2
  go_upto_region 7 with (go_at_call 14; refine (ST1.out _ (HV1.out.keeps KA.out (fun _ _ h => h))).mono ?_; rintro e w3 ⟨rfl, hv, hk⟩; have HV2 := Lib.hid hv; have K3 := Lib.hid hk; clear hv hk)
  obtain ⟨y6, hy6⟩ : ∃ z, z = w3.heap.size := ⟨_, rfl⟩
  have L3 : Hid (Keeps (fun q => G.heap.size ≤ q) G w3) := (L2.out.trans (KA.out.mono (S := fun q => G.heap.size ≤ q) (fun _ _ h => h.elim)) (fun _ _ h => h)).trans (KO.out _ _ (Nat.le_trans L2.out.size KA.out.size) K3.out) (fun _ _ h => h)
  have HTB : Hid (∀ q, Own T' 0 q → q < w1.heap.size) := fun q hq => by obtain ⟨t, e, _⟩ := hq; exact HV0.out.ok q _ e
  have h16 : w1.heap.size ≤ w3.heap.size := by have h1 := K3.out.size; have h2 := KA.out.size; have h3 := HV1.out.ok; have h4 := K2S.out; omega
  have HY6 : Hid (w1.heap.size ≤ y6) := by show _ ≤ _; rw [hy6]; exact h16
  have hr6 : RowAt (w3.alloc (.cells #[.int .i64 0, .int .i64 3, .int .i64 0, .int .i64 5, .int .i64 0] 40)) y6 [.int .i64 0, .int .i64 3, .int .i64 0, .int .i64 5, .int .i64 0] := by rw [hy6]; exact RowAt.ofBlock (heap_alloc_new w3 _)
  have hkB : Keeps NoBlk w3 (w3.alloc (.cells #[.int .i64 0, .int .i64 3, .int .i64 0, .int .i64 5, .int .i64 0] 40)) := (Keeps.refl _ _).alloc _
  rw [← hy6]
  generalize w3.alloc (.cells #[.int .i64 0, .int .i64 3, .int .i64 0, .int .i64 5, .int .i64 0] 40) = wB at hr6 hkB ⊢
  have R6 := Lib.hid hr6
  have KB := Lib.hid hkB
  clear hr6 hkB hy6 h16
  go_upto_region 8 with (go_at_call 17; refine (VS.out _ (HV2.out.keeps KB.out (fun _ _ h => h))).mono ?_; rintro e w4 ⟨t1, t2, d3, d4, rfl, hs⟩; have S4 := Lib.hid hs; obtain ⟨t3, u3, e3⟩ := hs.sts.form; obtain ⟨t4, u4, e4⟩ := hs.next.form; subst e3 e4; clear hs)
  obtain ⟨y8, hy8⟩ : ∃ z, z = w4.heap.size := ⟨_, rfl⟩
  have hc4 : ∃ g, t1 = some ⟨g, 0, none⟩ ∧ wB.heap.size ≤ g ∧ w4.cell? ⟨g, 0, none⟩ = some (.int .i64 10) := by
    obtain ⟨ad, cap, e, _, _, h1⟩ := S4.out.cells
    cases e
    obtain ⟨g, e, h2, h3⟩ := h1 (by decide)
    exact ⟨g, e, h2, h3.cell (k := 0) rfl⟩
  obtain ⟨g8, rfl, hg8, hc8⟩ := hc4
  have hr8 : RowAt (w4.alloc (.cells #[.slice (some ⟨g8, 0, none⟩) 1 1, .slice t2 0 0, .slice t3 1 u3, .slice t4 1 u4] 54)) y8 [.slice (some ⟨g8, 0, none⟩) 1 1, .slice t2 0 0, .slice t3 1 u3, .slice t4 1 u4] := by rw [hy8]; exact RowAt.ofBlock (heap_alloc_new w4 _)
  have hk8 : Keeps NoBlk w4 (w4.alloc (.cells #[.slice (some ⟨g8, 0, none⟩) 1 1, .slice t2 0 0, .slice t3 1 u3, .slice t4 1 u4] 54)) := (Keeps.refl _ _).alloc _
  change Code.wp _ _ _ _ (w4.alloc (.cells #[.slice (some ⟨g8, 0, none⟩) 1 1, .slice t2 0 0, .slice t3 1 u3, .slice t4 1 u4] 54))
  rw [← hy8]
  generalize w4.alloc (.cells #[.slice (some ⟨g8, 0, none⟩) 1 1, .slice t2 0 0, .slice t3 1 u3, .slice t4 1 u4] 54) = wC at hr8 hk8 ⊢
  have KC : Hid (Keeps NoBlk wB wC) := S4.out.keeps.trans0 hk8
  have hbB : w1.heap.size ≤ wB.heap.size := by have h1 := HY6.out; have h2 := R6.out.lt (by simp); omega
  have R6C := Lib.hid (R6.out.keeps KC.out (fun h => h))
  have R8 := Lib.hid hr8
  have HC8 : Hid (wC.cell? ⟨g8, 0, none⟩ = some (.int .i64 10)) := hk8.cell (p := ⟨g8, 0, none⟩) (fun h => h) hc8
  have HN8 : Hid (w1.heap.size ≤ y8 ∧ w1.heap.size ≤ g8) := ⟨by have h1 := S4.out.keeps.size; omega, by omega⟩
  clear hr8 hk8 hy8 hg8 hc8 hbB S4 R6
  go_upto_region 9 with (go_at_call 14; refine (ST2.out _ ((HV2.out.keeps KB.out (fun _ _ h => h)).keeps KC.out (fun _ _ h => h))).mono ?_; rintro e w5 ⟨rfl, _, hk⟩; have K5 := Lib.hid hk; clear hk)
  have hn : ∀ q, w1.heap.size ≤ q → ¬ Own T' 0 q := fun q hq ho => by have := HTB.out q ho; omega
  have k5 : Keeps (Own T' 0) wC (w5.alloc (.cells #[.int .i64 0, .int .i64 0, .int .i64 0, .int .i64 0, .int .i64 0] 40)) := K5.out.alloc _
  have hfin : Keeps NoBlk w (w5.alloc (.cells #[.int .i64 0, .int .i64 0, .int .i64 0, .int .i64 0, .int .i64 0] 40)) := by
    refine HK.out.trans (S' := fun q => G.heap.size ≤ q) ?_ (fun q hq e => by have h1 := HK.out.size; have e' : G.heap.size ≤ q := e; omega)
    refine ((L3.out.trans ((KB.out.trans0 KC.out).mono (S := fun q => G.heap.size ≤ q) (fun _ _ h => h.elim)) (fun _ _ h => h)).trans (KO.out _ _ (Nat.le_trans L3.out.size (KB.out.trans0 KC.out).size) K5.out) (fun _ _ h => h)).alloc _
  change Code.wp _ _ _ _ (w5.alloc (.cells #[.int .i64 0, .int .i64 0, .int .i64 0, .int .i64 0, .int .i64 0] 40))
  generalize w5.alloc (.cells #[.int .i64 0, .int .i64 0, .int .i64 0, .int .i64 0, .int .i64 0] 40) = wD at k5 hfin ⊢
  have HF := Lib.hid hfin
  have r6 := R6C.out.keeps k5 (hn y6 HY6.out)
  have e0 := r6.cell (k := 0) (v := .int .i64 0) rfl
  have e1 := r6.cell (k := 1) (v := .int .i64 3) rfl
  have e2 := r6.cell (k := 2) (v := .int .i64 0) rfl
  have e3 := r6.cell (k := 3) (v := .int .i64 5) rfl
  have e4 := r6.cell (k := 4) (v := .int .i64 0) rfl
  have f0 := (R8.out.keeps k5 (hn y8 HN8.out.1)).cell (k := 0) (v := .slice (some ⟨g8, 0, none⟩) 1 1) rfl
  have f1 := k5.cell (p := ⟨g8, 0, none⟩) (hn g8 HN8.out.2) HC8.out
  clear hn k5 hfin r6
  go_wp2_with fail
  go_ret
  exact ⟨rfl, HF.out⟩
end Go.Proofs.Ytmkfpkficmmlgaa
