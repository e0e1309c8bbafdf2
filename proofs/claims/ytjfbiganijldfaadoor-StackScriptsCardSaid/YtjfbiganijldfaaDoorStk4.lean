/- Contracts of the methods of package stack: Insert. -/
import Derived.Test.YtjfbiganijldfaaDoorStk3
namespace Go.Proofs.YtjfbiganijldfaaDoor
open Go.RowKit
set_option linter.unusedVariables false
set_option linter.unusedSimpArgs false
set_option linter.unnecessarySimpa false

theorem StkPost.alloc {w w' : World} {b : Nat} {v r : Value} {L : List Nd} {e : Ending} (h : StkPost w b v r L e w') (o : Obj) : StkPost w b v r L e (w'.alloc o) := by
  obtain ⟨v', h1, h2, h3, h4⟩ := h
  exact ⟨v', h1, h2.alloc o, h3.alloc o, h4⟩
theorem StkPost.drew {w w' : World} {b : Nat} {v r : Value} {L : List Nd} {e : Ending} (h : StkPost w b v r L e w') : StkPost w b v r L e w'.drew := by
  obtain ⟨v', h1, h2, h3, h4⟩ := h
  exact ⟨v', h1, h2.drewN 1, h3.drew, h4⟩

section
variable (b g n cap : Nat) (sl bk dn t ini at_ : Int) (w : World)

set_option maxHeartbeats 400000 in
theorem insert_raw_none (h : Calls Tryd.prog 31 #[.pointer (some ⟨b, 0, none⟩), .int .i64 at_] w fun e w' => e = .returned (.tuple #[.agg #[.int .u64 0, .int .u64 0, .int .u64 0, .int .i64 0], .bool false]) ∧ Below w.heap.size w w') :
    Calls Tryd.prog 20 #[.pointer (some ⟨b, 0, none⟩), .int .i64 at_, .int .u64 ini] w fun e w' => e = .returned (.bool false) ∧ Below w.heap.size w w' := by
  have H := Lib.hid h
  clear h
  go_enter Tryd.func20, Tryd.ntmps20
  go_wp2_with (go_at_call 31; refine H.out.mono ?_; rintro e w1 ⟨rfl, hb⟩)
  go_ret
  exact ⟨rfl, hb.alloc hb.size _⟩

set_option maxHeartbeats 4000000 in
theorem insert_raw_some (i : Nat) (hi : i < n) (hn : n ≤ 61) (hgb : g ≠ b) (hv : w.cell? ⟨b, 0, none⟩ = some (.slice (some ⟨g, 0, none⟩) n cap))
    (h0 : w.cell? ⟨g, i * 4, none⟩ = some (.int .u64 sl)) (h1 : w.cell? ⟨g, i * 4 + 1, none⟩ = some (.int .u64 bk)) (h2 : w.cell? ⟨g, i * 4 + 2, none⟩ = some (.int .u64 dn)) (h3 : w.cell? ⟨g, i * 4 + 3, none⟩ = some (.int .i64 t))
    (hfg : ∀ j, w.frozen? ⟨g, j, none⟩ = false) (hini : 0 ≤ ini ∧ ini < 18446744073709551616) (hT : TabOK w)
    (L' : List Nd) (bk' : Int)
    (hR : ∀ W k, Keeps NoBlk w W → StkPost w b (.slice (some ⟨g, 0, none⟩) n cap) (.bool (bk' != bk)) L' (.returned (.bool (bk' != bk))) (((((W.setCell ⟨g, i * 4, none⟩ (.int .u64 sl)).setCell ⟨g, i * 4 + 1, none⟩ (.int .u64 bk')).setCell ⟨g, i * 4 + 2, none⟩ (.int .u64 dn)).setCell ⟨g, i * 4 + 3, none⟩ (.int .i64 t)).drewN k))
    (hbk : bk' = if bits .and .u64 (ini % 256) (bits .or .u64 bk sl) = 0 then putN bk (leastN ini) else bk)
    (h : Calls Tryd.prog 31 #[.pointer (some ⟨b, 0, none⟩), .int .i64 i] w fun e w' => e = .returned (.tuple #[.agg #[.int .u64 sl, .int .u64 bk, .int .u64 dn, .int .i64 t], .bool true]) ∧ Below w.heap.size w w') :
    Calls Tryd.prog 20 #[.pointer (some ⟨b, 0, none⟩), .int .i64 i, .int .u64 ini] w (StkPost w b (.slice (some ⟨g, 0, none⟩) n cap) (.bool (bk' != bk)) L') := by
  have H := Lib.hid h
  have HR := Lib.hid hR
  have HT := Lib.hid hT
  have q1 : b < w.heap.size := World.block_lt_of_cell? w _ hv
  have q2 : g < w.heap.size := World.block_lt_of_cell? w _ h0
  have e2 := and255 ini hini
  have i1 : (0 : Int) ≤ i := by omega
  have i2 : (i : Int) < n := by omega
  clear h hT hR
  by_cases hc : bits .and .u64 (ini % 256) (bits .or .u64 bk sl) = 0
  · rw [if_pos hc] at hbk
    have hc' : (bits .and .u64 (ini % 256) (bits .or .u64 bk sl) == 0) = true := by rw [hc]; rfl
    clear hc
    by_cases hE : putN bk (leastN ini) = bk
    · have hbk2 : bk' = bk := hbk.trans hE
      clear hbk
      subst hbk2
      have key : (bk' != bk') = false := by simp
      have HR2 := HR.out
      rw [key] at HR2 ⊢
      have HR3 := Lib.hid HR2
      clear HR HR2 key
      go_enter Tryd.func20, Tryd.ntmps20
      go_wp2_with (go_at_call 31; refine H.out.mono ?_; rintro e W ⟨rfl, hb⟩; have hs := hb.size; obtain ⟨hcl, hfr⟩ := bcell hb; have hv1 := (hcl b 0 q1).trans hv; have k0 := (hcl g (i * 4) q2).trans h0; have k1 := (hcl g (i * 4 + 1) q2).trans h1; have k2 := (hcl g (i * 4 + 2) q2).trans h2; have k3 := (hcl g (i * 4 + 3) q2).trans h3; have f0 := (hfr g (i * 4) q2).trans (hfg _); have f1 := (hfr g (i * 4 + 1) q2).trans (hfg _); have f2 := (hfr g (i * 4 + 2) q2).trans (hfg _); have f3 := (hfr g (i * 4 + 3) q2).trans (hfg _); have q3 : b ≠ W.heap.size := (by omega); have q4 : g ≠ W.heap.size := (by omega); have q5 : b ≠ W.heap.size + 1 := (by omega); have q6 : g ≠ W.heap.size + 1 := (by omega); have q7 : b < W.heap.size := (by omega); have q8 : g < W.heap.size := (by omega); have HBl := Lib.hid hb; clear hcl hfr hv h0 h1 h2 h3 hfg hb)
      have HT2 : ∀ o o' : Obj, TabOK ((W.alloc o).alloc o').drew := fun o o' j hj => by
        have h1 := HT.out j hj
        have h2 := HBl.out.cell (p := ⟨1, j, none⟩) (World.block_lt_of_cell? w _ h1)
        rw [← h1, ← h2]
        have h3 := World.block_lt_of_cell? W _ (h2.trans h1)
        exact World.cell?_of_block ((Below.heap_alloc (W.alloc o) o' _ (by simp; omega)).trans (Below.heap_alloc _ _ _ h3))
      have HT3 := Lib.hid HT2
      clear HT2
      go_region_with (first | (go_at_call 28; refine (put_any _ _ _).mono ?_; rintro e w' ⟨rfl, rfl⟩) | (go_at_call 29; refine (least_any _ _ hini (by exact HT3.out _ _)).mono ?_; rintro e w' ⟨rfl, rfl⟩))
      all_goals (
        go_wp2
        go_region
        go_wp2
        all_goals (
          go_ret
          (repeat (first | apply StkPost.drew | apply StkPost.alloc))
          exact HR3.out _ 0 (Keeps.ofBelow HBl.out _)))
    · have key : (bk' != bk) = true := by rw [bne_iff_ne, hbk]; exact hE
      have HR2 := HR.out
      rw [key] at HR2 ⊢
      rw [hbk] at HR2
      have HR3 := Lib.hid HR2
      clear HR HR2 key hbk
      go_enter Tryd.func20, Tryd.ntmps20
      go_wp2_with (go_at_call 31; refine H.out.mono ?_; rintro e W ⟨rfl, hb⟩; have hs := hb.size; obtain ⟨hcl, hfr⟩ := bcell hb; have hv1 := (hcl b 0 q1).trans hv; have k0 := (hcl g (i * 4) q2).trans h0; have k1 := (hcl g (i * 4 + 1) q2).trans h1; have k2 := (hcl g (i * 4 + 2) q2).trans h2; have k3 := (hcl g (i * 4 + 3) q2).trans h3; have f0 := (hfr g (i * 4) q2).trans (hfg _); have f1 := (hfr g (i * 4 + 1) q2).trans (hfg _); have f2 := (hfr g (i * 4 + 2) q2).trans (hfg _); have f3 := (hfr g (i * 4 + 3) q2).trans (hfg _); have q3 : b ≠ W.heap.size := (by omega); have q4 : g ≠ W.heap.size := (by omega); have q5 : b ≠ W.heap.size + 1 := (by omega); have q6 : g ≠ W.heap.size + 1 := (by omega); have q7 : b < W.heap.size := (by omega); have q8 : g < W.heap.size := (by omega); have HBl := Lib.hid hb; clear hcl hfr hv h0 h1 h2 h3 hfg hb)
      have HT2 : ∀ o o' : Obj, TabOK ((W.alloc o).alloc o').drew := fun o o' j hj => by
        have h1 := HT.out j hj
        have h2 := HBl.out.cell (p := ⟨1, j, none⟩) (World.block_lt_of_cell? w _ h1)
        rw [← h1, ← h2]
        have h3 := World.block_lt_of_cell? W _ (h2.trans h1)
        exact World.cell?_of_block ((Below.heap_alloc (W.alloc o) o' _ (by simp; omega)).trans (Below.heap_alloc _ _ _ h3))
      have HT3 := Lib.hid HT2
      clear HT2
      go_region_with (first | (go_at_call 28; refine (put_any _ _ _).mono ?_; rintro e w' ⟨rfl, rfl⟩) | (go_at_call 29; refine (least_any _ _ hini (by exact HT3.out _ _)).mono ?_; rintro e w' ⟨rfl, rfl⟩))
      all_goals (
        go_wp2
        go_region
        go_wp2
        all_goals (
          go_ret
          (repeat (first | apply StkPost.drew | apply StkPost.alloc))
          exact HR3.out _ 0 (Keeps.ofBelow HBl.out _)))
  · rw [if_neg hc] at hbk
    have hc' : (bits .and .u64 (ini % 256) (bits .or .u64 bk sl) == 0) = false := by rw [beq_eq_false_iff_ne]; exact hc
    subst hbk
    have key : (bk' != bk') = false := by simp
    have HR2 := HR.out
    rw [key] at HR2 ⊢
    have HR3 := Lib.hid HR2
    clear hc HR HR2 HT key
    go_enter Tryd.func20, Tryd.ntmps20
    go_wp2_with (go_at_call 31; refine H.out.mono ?_; rintro e W ⟨rfl, hb⟩; have hs := hb.size; obtain ⟨hcl, hfr⟩ := bcell hb; have hv1 := (hcl b 0 q1).trans hv; have k0 := (hcl g (i * 4) q2).trans h0; have k1 := (hcl g (i * 4 + 1) q2).trans h1; have k2 := (hcl g (i * 4 + 2) q2).trans h2; have k3 := (hcl g (i * 4 + 3) q2).trans h3; have f0 := (hfr g (i * 4) q2).trans (hfg _); have f1 := (hfr g (i * 4 + 1) q2).trans (hfg _); have f2 := (hfr g (i * 4 + 2) q2).trans (hfg _); have f3 := (hfr g (i * 4 + 3) q2).trans (hfg _); have q3 : b ≠ W.heap.size := (by omega); have q4 : g ≠ W.heap.size := (by omega); have q5 : b ≠ W.heap.size + 1 := (by omega); have q6 : g ≠ W.heap.size + 1 := (by omega); have q7 : b < W.heap.size := (by omega); have q8 : g < W.heap.size := (by omega); have HBl := Lib.hid hb; clear hcl hfr hv h0 h1 h2 h3 hfg hb)
    go_region
    go_wp2
    all_goals (
      go_ret
      (repeat (first | apply StkPost.drew | apply StkPost.alloc))
      exact HR3.out _ 0 (Keeps.ofBelow HBl.out _))
end

end Go.Proofs.YtjfbiganijldfaaDoor
