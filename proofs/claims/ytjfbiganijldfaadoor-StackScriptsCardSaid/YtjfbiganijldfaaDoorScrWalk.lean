/- The walk of StackScripts. -/
import Derived.Test.YtjfbiganijldfaaDoorScr
namespace Go.Proofs.YtjfbiganijldfaaDoor
open Go.RowKit
set_option linter.unusedVariables false
set_option linter.unusedSimpArgs false
set_option linter.unnecessarySimpa false

set_option maxRecDepth 4000 in
set_option maxHeartbeats 2000000 in
theorem scripts_walk (w0 : World) (sv : Value) (n : Nat) (ss : Nat → Stp) (hs : ScriptAt w0 sv n ss) (hT : TabOK w0) :
    Calls Tryd.prog 5 #[sv] w0 fun e w' => e = .returned (.bool true) ∧ Below w0.heap.size w0 w' := by
  obtain ⟨ad, cap, rfl, hnm, hcell⟩ := hs
  unfold maxLen at hnm
  have HT := Lib.hid hT
  have HA := Lib.hid (awake_any w0 hT)
  have HC := Lib.hid hcell
  clear hT hcell
  go_enter Tryd.func5, Tryd.ntmps5
  go_wp2_with (first | (go_at_call 6; refine HA.out.mono ?_; rintro e w1 ⟨rfl, h1⟩; have H1 := Lib.hid h1; clear h1) | (go_at_call 7; refine (stkNew_any _).mono ?_; rintro e w2 ⟨rfl, hw2⟩; have H2 := Lib.hid hw2; clear hw2))
  have HR : Hid (ScrRel w0 w1.heap.size (.slice none 0 0) w2) := by
    have h1 := H1.out
    have hk2 : Keeps NoBlk w1 w2 := by rw [H2.out]; exact (Keeps.refl _ _).alloc _
    have hst : StackAt w2 w1.heap.size (.slice none 0 0) [] := by rw [H2.out]; exact StackAt.fresh w1
    have hb := (h1.trans hk2 (fun _ _ h => h)).below (B := w0.heap.size) (fun _ _ h => h.elim) (Nat.le_refl _)
    refine ⟨_, [], ⟨hst, World.ownsRow_nil _ _ _ _, ?_, fun k e => by simp [Value.ownBlock] at e, fun k _ e => by simp [Value.ownBlock] at e, hb.size⟩, tidy_nil, hb⟩
    rintro k (rfl | e)
    · exact h1.size
    · simp [Value.ownBlock] at e
  clear H1 H2 HA
  generalize w1.heap.size = bs at *
  go_loopw [5, 6] (fun l i wr => ∃ (k : Nat) (lv : Value), k ≤ n ∧ i = .int .i64 k ∧ lv = l ∧ Hid (ScrRel w0 bs lv wr)) (fun _ i _ => n - (intOf i).toNat)
  case atStart => exact ⟨0, _, Nat.zero_le _, rfl, rfl, HR⟩
  case round =>
    obtain ⟨k, lv, hk, rfl, rfl, hR⟩ := hrel
    clear HR
    by_cases hlt : k < n
    · obtain ⟨v, L, hI, hTd, hB⟩ := hR.out
      have hBH := Lib.hid hB
      obtain ⟨hok, g, o, e, k0, k1, k2, k3⟩ := HC.out k hlt
      subst e
      have ht0 := tidy_scr hTd (ss k).d (ss k).i (ss k).a (ss k).b
      obtain ⟨⟨d, i, a, b⟩, hx⟩ : ∃ x : Stp, x = ss k := ⟨_, rfl⟩
      rw [← hx] at k0 k1 k2 k3 ht0 hok
      dsimp only at k0 k1 k2 k3 ht0
      have hab : (0 ≤ a ∧ a < 18446744073709551616) ∧ (0 ≤ b ∧ b < 18446744073709551616) := ⟨hok.1, hok.2⟩
      have HAB := Lib.hid hab
      have HTd := Lib.hid hTd
      have HT2 := Lib.hid ht0
      have q1 : g < w0.heap.size := World.block_lt_of_cell? w0 _ k0
      have c0 := (hB.cell (p := ⟨g, o + k * 4, none⟩) q1).trans k0
      have c1 := (hB.cell (p := ⟨g, o + k * 4 + 1, none⟩) q1).trans k1
      have c2 := (hB.cell (p := ⟨g, o + k * 4 + 2, none⟩) q1).trans k2
      have c3 := (hB.cell (p := ⟨g, o + k * 4 + 3, none⟩) q1).trans k3
      have i1 : (0 : Int) ≤ k := by omega
      have i2 : (k : Int) < (n : Int) := by omega
      have hba : Below wr.heap.size wr (wr.alloc (.cells #[.int .i64 d, .int .i64 i, .int .u64 a, .int .u64 b] 30)) := (Below.refl _ _).alloc (Nat.le_refl _) _
      have HI : Hid (ScrTwo w0.heap.size (wr.alloc (.cells #[.int .i64 d, .int .i64 i, .int .u64 a, .int .u64 b] 30)) bs v lv L L) := hI.below hba
      have HB1 : Hid (Below w0.heap.size w0 (wr.alloc (.cells #[.int .i64 d, .int .i64 i, .int .u64 a, .int .u64 b] 30))) := hB.trans (hba.mono hB.size)
      have HY : Hid ((wr.alloc (.cells #[.int .i64 d, .int .i64 i, .int .u64 a, .int .u64 b] 30)).heap[wr.heap.size]? = some (.cells #[.int .i64 d, .int .i64 i, .int .u64 a, .int .u64 b] 30 (0, 0))) := heap_alloc_new wr _
      have HN : Hid (¬ OwnS bs v wr.heap.size) := fun h => Nat.lt_irrefl _ (OwnS.lt hI.stk _ h)
      clear hx hB hR hI hTd hok hab ht0 hba k0 k1 k2 k3
      by_cases d0 : d = 0
      · subst d0
        have ed : doN L 0 i a b = openN L a b := by simp [doN]
        rw [ed] at HT2
        go_wp2_with fail
        refine (open_any _ bs v L a b HI.out.stk HTd.out.ok (HT.out.below' HB1.out) HAB.out.1 HAB.out.2).mono ?_
        rintro e w3 ⟨v', rfl, g1, g2, g3⟩
        have S3 := Lib.hid (HI.out.stkStep g1 g2 g3)
        have HY3 := Lib.hid (g2.heap HN.out HY.out)
        have HB3 : Hid (Below w0.heap.size w0 w3) := HB1.out.trans S3.out.2
        clear g1 g2 g3
        have y0 : w3.cell? ⟨wr.heap.size, 0, none⟩ = _ := cell_of_row w3 wr.heap.size 0 _ _ _ HY3.out
        have y1 : w3.cell? ⟨wr.heap.size, 1, none⟩ = _ := cell_of_row w3 wr.heap.size 1 _ _ _ HY3.out
        have y2 : w3.cell? ⟨wr.heap.size, 2, none⟩ = _ := cell_of_row w3 wr.heap.size 2 _ _ _ HY3.out
        have y3 : w3.cell? ⟨wr.heap.size, 3, none⟩ = _ := cell_of_row w3 wr.heap.size 3 _ _ _ HY3.out
        simp only [List.getElem?_toArray, List.getElem?_cons_zero, List.getElem?_cons_succ] at y0 y1 y2 y3
        go_wp2_with fail
        refine (ropen_any w3 lv L a b S3.out.1.ref HTd.out.ok HAB.out.1 HAB.out.2).mono ?_
        rintro e w4 ⟨lv', rfl, g1, g2, g3⟩
        have S4 := Lib.hid (S3.out.1.refStep g1 g2 g3)
        have HB4 : Hid (Below w0.heap.size w0 w4) := HB3.out.trans S4.out.2
        clear g1 g2 g3 y0 y1 y2 y3
        obtain ⟨r, er⟩ : ∃ r, r = (openN L a b).1 := ⟨_, rfl⟩
        rw [← er]
        have err : (r != r) = false := by simp
        go_wp2_with fail
        refine (same_any w4 bs v' _ _ _ S4.out.1 HT2.out).mono ?_
        rintro e w5 ⟨rfl, hb5⟩
        have hR5 : Hid (ScrRel w0 bs lv' w5) := ⟨v', _, S4.out.1.below hb5, HT2.out, HB4.out.trans (hb5.mono HB4.out.size)⟩
        clear hb5
        go_wp2
        exact ⟨⟨k + 1, _, by omega, by go_num, rfl, hR5⟩, by simp [intOf]; omega⟩
      by_cases d1 : d = 1
      · subst d1
        have ed : doN L 1 i a b = ((takeN L).2.1, (takeN L).2.2) := by simp [doN]
        rw [ed] at HT2
        go_wp2_with fail
        refine (take_any _ bs v L HI.out.stk HTd.out.ok (HT.out.below' HB1.out)).mono ?_
        rintro e w3 ⟨v', rfl, g1, g2, g3⟩
        have S3 := Lib.hid (HI.out.stkStep g1 g2 g3)
        have HY3 := Lib.hid (g2.heap HN.out HY.out)
        have HB3 : Hid (Below w0.heap.size w0 w3) := HB1.out.trans S3.out.2
        clear g1 g2 g3
        have y0 : w3.cell? ⟨wr.heap.size, 0, none⟩ = _ := cell_of_row w3 wr.heap.size 0 _ _ _ HY3.out
        have y1 : w3.cell? ⟨wr.heap.size, 1, none⟩ = _ := cell_of_row w3 wr.heap.size 1 _ _ _ HY3.out
        have y2 : w3.cell? ⟨wr.heap.size, 2, none⟩ = _ := cell_of_row w3 wr.heap.size 2 _ _ _ HY3.out
        have y3 : w3.cell? ⟨wr.heap.size, 3, none⟩ = _ := cell_of_row w3 wr.heap.size 3 _ _ _ HY3.out
        simp only [List.getElem?_toArray, List.getElem?_cons_zero, List.getElem?_cons_succ] at y0 y1 y2 y3
        go_wp2_with fail
        refine (rtake_any w3 lv L S3.out.1.ref HTd.out.ok).mono ?_
        rintro e w4 ⟨rfl, g1, g2, g3⟩
        have S4 := Lib.hid (S3.out.1.refStep g1 g2 g3)
        have HB4 : Hid (Below w0.heap.size w0 w4) := HB3.out.trans S4.out.2
        clear g1 g2 g3 y0 y1 y2 y3
        obtain ⟨r, er⟩ : ∃ r, r = (takeN L).2.1 := ⟨_, rfl⟩
        obtain ⟨t, et⟩ : ∃ r, r = (takeN L).1 := ⟨_, rfl⟩
        rw [← er, ← et]
        have err : (r != r) = false := by simp
        have ett : (t != t) = false := by simp
        go_wp2_with fail
        refine (same_any w4 bs v' _ _ _ S4.out.1 HT2.out).mono ?_
        rintro e w5 ⟨rfl, hb5⟩
        have hR5 : Hid (ScrRel w0 bs lv w5) := ⟨v', _, S4.out.1.below hb5, HT2.out, HB4.out.trans (hb5.mono HB4.out.size)⟩
        clear hb5
        go_wp2
        exact ⟨⟨k + 1, _, by omega, by go_num, rfl, hR5⟩, by simp [intOf]; omega⟩
      by_cases d2 : d = 2
      · subst d2
        have ed : doN L 2 i a b = closeN L := by simp [doN]
        rw [ed] at HT2
        go_wp2_with fail
        refine (close_any _ bs v L HI.out.stk HTd.out.ok).mono ?_
        rintro e w3 ⟨v', rfl, g1, g2, g3⟩
        have S3 := Lib.hid (HI.out.stkStep g1 g2 g3)
        have HY3 := Lib.hid (g2.heap HN.out HY.out)
        have HB3 : Hid (Below w0.heap.size w0 w3) := HB1.out.trans S3.out.2
        clear g1 g2 g3
        have y0 : w3.cell? ⟨wr.heap.size, 0, none⟩ = _ := cell_of_row w3 wr.heap.size 0 _ _ _ HY3.out
        have y1 : w3.cell? ⟨wr.heap.size, 1, none⟩ = _ := cell_of_row w3 wr.heap.size 1 _ _ _ HY3.out
        have y2 : w3.cell? ⟨wr.heap.size, 2, none⟩ = _ := cell_of_row w3 wr.heap.size 2 _ _ _ HY3.out
        have y3 : w3.cell? ⟨wr.heap.size, 3, none⟩ = _ := cell_of_row w3 wr.heap.size 3 _ _ _ HY3.out
        simp only [List.getElem?_toArray, List.getElem?_cons_zero, List.getElem?_cons_succ] at y0 y1 y2 y3
        go_wp2_with fail
        refine (rclose_any w3 lv L S3.out.1.ref HTd.out.ok HTd.out.row).mono ?_
        rintro e w4 ⟨lv', rfl, g1, g2, g3⟩
        have S4 := Lib.hid (S3.out.1.refStep g1 g2 g3)
        have HB4 : Hid (Below w0.heap.size w0 w4) := HB3.out.trans S4.out.2
        clear g1 g2 g3 y0 y1 y2 y3
        obtain ⟨r, er⟩ : ∃ r, r = (closeN L).1 := ⟨_, rfl⟩
        rw [← er]
        have err : (r != r) = false := by simp
        go_wp2_with fail
        refine (same_any w4 bs v' _ _ _ S4.out.1 HT2.out).mono ?_
        rintro e w5 ⟨rfl, hb5⟩
        have hR5 : Hid (ScrRel w0 bs lv' w5) := ⟨v', _, S4.out.1.below hb5, HT2.out, HB4.out.trans (hb5.mono HB4.out.size)⟩
        clear hb5
        go_wp2
        exact ⟨⟨k + 1, _, by omega, by go_num, rfl, hR5⟩, by simp [intOf]; omega⟩
      by_cases d3 : d = 3
      · subst d3
        have ed : doN L 3 i a b = insertN L i a := by simp [doN]
        rw [ed] at HT2
        go_wp2_with fail
        refine (insert_any _ bs v L i a HI.out.stk HTd.out.ok (HT.out.below' HB1.out) HAB.out.1).mono ?_
        rintro e w3 ⟨v', rfl, g1, g2, g3⟩
        have S3 := Lib.hid (HI.out.stkStep g1 g2 g3)
        have HY3 := Lib.hid (g2.heap HN.out HY.out)
        have HB3 : Hid (Below w0.heap.size w0 w3) := HB1.out.trans S3.out.2
        clear g1 g2 g3
        have y0 : w3.cell? ⟨wr.heap.size, 0, none⟩ = _ := cell_of_row w3 wr.heap.size 0 _ _ _ HY3.out
        have y1 : w3.cell? ⟨wr.heap.size, 1, none⟩ = _ := cell_of_row w3 wr.heap.size 1 _ _ _ HY3.out
        have y2 : w3.cell? ⟨wr.heap.size, 2, none⟩ = _ := cell_of_row w3 wr.heap.size 2 _ _ _ HY3.out
        have y3 : w3.cell? ⟨wr.heap.size, 3, none⟩ = _ := cell_of_row w3 wr.heap.size 3 _ _ _ HY3.out
        simp only [List.getElem?_toArray, List.getElem?_cons_zero, List.getElem?_cons_succ] at y0 y1 y2 y3
        go_wp2_with fail
        refine (rins_any w3 lv L i a S3.out.1.ref HTd.out.ok HAB.out.1).mono ?_
        rintro e w4 ⟨rfl, g1, g2, g3⟩
        have S4 := Lib.hid (S3.out.1.refStep g1 g2 g3)
        have HB4 : Hid (Below w0.heap.size w0 w4) := HB3.out.trans S4.out.2
        clear g1 g2 g3 y0 y1 y2 y3
        obtain ⟨r, er⟩ : ∃ r, r = (insertN L i a).1 := ⟨_, rfl⟩
        rw [← er]
        have err : (r != r) = false := by simp
        go_wp2_with fail
        refine (same_any w4 bs v' _ _ _ S4.out.1 HT2.out).mono ?_
        rintro e w5 ⟨rfl, hb5⟩
        have hR5 : Hid (ScrRel w0 bs lv w5) := ⟨v', _, S4.out.1.below hb5, HT2.out, HB4.out.trans (hb5.mono HB4.out.size)⟩
        clear hb5
        go_wp2
        exact ⟨⟨k + 1, _, by omega, by go_num, rfl, hR5⟩, by simp [intOf]; omega⟩
      have ed : doN L d i a b = (false, L) := by simp [doN, d0, d1, d2, d3]
      have e0 : (d == 0) = false := by rw [beq_eq_false_iff_ne]; exact d0
      have e1 : (d == 1) = false := by rw [beq_eq_false_iff_ne]; exact d1
      have e2 : (d == 2) = false := by rw [beq_eq_false_iff_ne]; exact d2
      have e3 : (d == 3) = false := by rw [beq_eq_false_iff_ne]; exact d3
      clear d0 d1 d2 d3 ed
      go_wp2_with fail
      refine (same_any _ bs v lv L _ HI.out HTd.out).mono ?_
      rintro e w5 ⟨rfl, hb5⟩
      have hR5 : Hid (ScrRel w0 bs lv w5) := ⟨v, L, HI.out.below hb5, HTd.out, HB1.out.trans (hb5.mono HB1.out.size)⟩
      clear hb5
      go_wp2
      exact ⟨⟨k + 1, _, by omega, by go_num, rfl, hR5⟩, by simp [intOf]; omega⟩
    · have hkn : k = n := by omega
      subst hkn
      obtain ⟨v, L, hI, hTd, hB⟩ := hR.out
      have HB := Lib.hid hB
      clear hI hTd hB hR hlt
      go_wp2
      go_ret
      exact ⟨rfl, HB.out⟩
end Go.Proofs.YtjfbiganijldfaaDoor
