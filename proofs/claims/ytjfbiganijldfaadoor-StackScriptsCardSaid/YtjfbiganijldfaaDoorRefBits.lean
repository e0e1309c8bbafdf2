/- Contracts of the reference functions on sets as lists of eight: Bits. -/
import Derived.Test.YtjfbiganijldfaaDoorLeft
namespace Go.Proofs.YtjfbiganijldfaaDoor
open Go.RowKit
set_option linter.unusedVariables false
set_option linter.unusedSimpArgs false
set_option linter.unnecessarySimpa false

/-- the eight of a set -/
def bitsN (s : Int) : List Bool := (List.range 8).map fun i => s.toNat.testBit i
/-- the eight while they are filled -/
def bitsRow (s : Int) (k : Nat) : List Bool := (List.range 8).map fun i => decide (i < k) && s.toNat.testBit i
theorem bitsRow_len (s : Int) (k : Nat) : (bitsRow s k).length = 8 := by simp [bitsRow]
theorem bitsRow_zero (s : Int) : bitsRow s 0 = [false, false, false, false, false, false, false, false] := rfl
theorem bitsRow_all (s : Int) : bitsRow s 8 = bitsN s := by
  unfold bitsRow bitsN
  apply List.map_congr_left
  intro i hi
  have : i < 8 := by simpa using hi
  simp [this]
theorem bitsRow_set (s : Int) (k : Nat) (hk : k < 8) : (bitsRow s k).set k (s.toNat.testBit k) = bitsRow s (k + 1) := by
  apply List.ext_getElem
  · simp [bitsRow]
  · intro i h1 h2
    have hi : i < 8 := by simpa [bitsRow] using h2
    rw [List.getElem_set]
    simp only [bitsRow, List.getElem_map, List.getElem_range]
    by_cases e : k = i
    · subst e; simp
    · have : decide (i < k + 1) = decide (i < k) := by rw [decide_eq_decide]; omega
      simp [e, this]

theorem test_bit (s : Int) (k : Nat) (hs : 0 ≤ s ∧ s < 18446744073709551616) : (bits .and .u64 (s / 2 ^ k) 1 == 1) = s.toNat.testBit k := by
  obtain ⟨x, rfl⟩ := Int.eq_ofNat_of_zero_le hs.1
  have e1 : ((x : Int) / 2 ^ k) = ((x / 2 ^ k : Nat) : Int) := by norm_cast
  have hx : x / 2 ^ k ≤ x := Nat.div_le_self _ _
  have hy : (0 : Int) ≤ ((x / 2 ^ k : Nat) : Int) ∧ ((x / 2 ^ k : Nat) : Int) < 18446744073709551616 := by
    generalize x / 2 ^ k = y at hx
    omega
  rw [e1, u64_and _ 1 hy.1 hy.2 (by decide) (by decide)]
  rw [Int.toNat_natCast, Int.toNat_natCast, show (1 : Int).toNat = 1 from rfl, Nat.testBit_eq_decide_div_mod_eq, Nat.and_one_is_mod]
-- (by omega) (by decide) (by decide)]
  rcases Nat.mod_two_eq_zero_or_one (x / 2 ^ k) with h | h <;> rw [h] <;> rfl

/-- eight cells of one block -/
theorem eight_cells {w : World} {g : Nat} {t : TypeId} {fr : Nat × Nat} {L : List Bool} (hl : L.length = 8) (h : w.heap[g]? = some (.cells (L.map Value.bool).toArray t fr)) :
    ∃ b0 b1 b2 b3 b4 b5 b6 b7, L = [b0, b1, b2, b3, b4, b5, b6, b7] ∧ w.cell? ⟨g, 0, none⟩ = some (.bool b0) ∧ w.cell? ⟨g, 1, none⟩ = some (.bool b1) ∧ w.cell? ⟨g, 2, none⟩ = some (.bool b2) ∧ w.cell? ⟨g, 3, none⟩ = some (.bool b3) ∧ w.cell? ⟨g, 4, none⟩ = some (.bool b4) ∧ w.cell? ⟨g, 5, none⟩ = some (.bool b5) ∧ w.cell? ⟨g, 6, none⟩ = some (.bool b6) ∧ w.cell? ⟨g, 7, none⟩ = some (.bool b7) := by
  match L, hl with
  | [b0, b1, b2, b3, b4, b5, b6, b7], _ =>
    exact ⟨b0, b1, b2, b3, b4, b5, b6, b7, rfl, cell_of_row w g 0 _ _ _ h, cell_of_row w g 1 _ _ _ h, cell_of_row w g 2 _ _ _ h, cell_of_row w g 3 _ _ _ h, cell_of_row w g 4 _ _ _ h, cell_of_row w g 5 _ _ _ h, cell_of_row w g 6 _ _ _ h, cell_of_row w g 7 _ _ _ h⟩

set_option maxHeartbeats 400000 in
theorem rbits_any (s : Int) (w : World) (hs : 0 ≤ s ∧ s < 18446744073709551616) :
    Calls Tryd.prog 30 #[.int .u64 s] w fun e w' => e = .returned (.agg ((bitsN s).map Value.bool).toArray) ∧ Below w.heap.size w w' := by
  go_enter Tryd.func30, Tryd.ntmps30
  go_wp2
  go_loopw [4] (fun i wr => ∃ k : Nat, k ≤ 8 ∧ i = .int .i64 k ∧ Hid (wr.heap[w.heap.size + 1]? = some (.cells ((bitsRow s k).map Value.bool).toArray 59 (0, 0))) ∧ Hid (Below w.heap.size w wr) ∧ Hid (wr.heap[w.heap.size]? = some (.cells ((bitsRow 0 0).map Value.bool).toArray 59 (0, 0)))) (fun i _ => 8 - (intOf i).toNat)
  case atStart =>
    refine ⟨0, Nat.zero_le _, rfl, heap_alloc2 _ _ _, ?_, ?_⟩
    · exact ((Below.refl _ _).alloc (Nat.le_refl _) _).alloc (by simp) _
    · exact (Below.heap_alloc _ _ _ (by simp)).trans (heap_alloc_new _ _)
  case round =>
    obtain ⟨k, hk, rfl, hr, hb, hz⟩ := hrel
    by_cases hlt : k < 8
    · have i1 : (0 : Int) ≤ k := by omega
      have i3 : (k : Int) < 8 := by omega
      have q3 : w.heap.size ≤ wr.heap.size := hb.out.size
      have q4 : w.heap.size + 1 < wr.heap.size := lt_of_block hr.out
      have hcell : ∃ v, wr.cell? ⟨w.heap.size + 1, k, none⟩ = some v := by
        have := cell_of_row wr (w.heap.size + 1) k _ _ (0, 0) hr.out
        rw [this]
        exact ⟨_, Array.getElem?_eq_getElem (by simp [bitsRow_len]; omega)⟩
      obtain ⟨v, hcell⟩ := hcell
      have hfree : wr.frozen? ⟨w.heap.size + 1, k, none⟩ = false := frozen_of_row wr (w.heap.size + 1) k _ _ hr.out
      have ht := test_bit s k hs
      have hset := bitsRow_set s k hlt
      have hfin : Hid ((wr.setCell ⟨w.heap.size + 1, k, none⟩ (.bool (s.toNat.testBit k))).heap[w.heap.size + 1]? = some (.cells ((bitsRow s (k + 1)).map Value.bool).toArray 59 (0, 0))) := by
        show _ = _
        rw [heap_setCell_same wr (w.heap.size + 1) k _ _ _ hr.out, ← hset]
        simp [List.map_set]
      have HT := Lib.hid ht
      clear hset ht
      go_wp2
      refine ⟨⟨k + 1, by omega, by go_num, ?_, (hb.out.setCell (by simp) _), (Below.heap_setCell _ _ _ _ (by simp)).trans hz.out⟩, by simp [intOf]; omega⟩
      rw [HT.out]
      exact hfin
    · have hkn : k = 8 := by omega
      subst hkn
      have h8 := hr.out
      rw [bitsRow_all] at h8
      obtain ⟨b0, b1, b2, b3, b4, b5, b6, b7, hbits, c0, c1, c2, c3, c4, c5, c6, c7⟩ := eight_cells (by simp [bitsN]) h8
      have q4 : w.heap.size + 1 < wr.heap.size := lt_of_block hr.out
      have HB := Lib.hid hbits
      have z := cell_of_row wr w.heap.size
      have d0 : wr.cell? ⟨w.heap.size, 0, none⟩ = some (.bool false) := z 0 _ _ _ hz.out
      have d1 : wr.cell? ⟨w.heap.size, 1, none⟩ = some (.bool false) := z 1 _ _ _ hz.out
      have d2 : wr.cell? ⟨w.heap.size, 2, none⟩ = some (.bool false) := z 2 _ _ _ hz.out
      have d3 : wr.cell? ⟨w.heap.size, 3, none⟩ = some (.bool false) := z 3 _ _ _ hz.out
      have d4 : wr.cell? ⟨w.heap.size, 4, none⟩ = some (.bool false) := z 4 _ _ _ hz.out
      have d5 : wr.cell? ⟨w.heap.size, 5, none⟩ = some (.bool false) := z 5 _ _ _ hz.out
      have d6 : wr.cell? ⟨w.heap.size, 6, none⟩ = some (.bool false) := z 6 _ _ _ hz.out
      have d7 : wr.cell? ⟨w.heap.size, 7, none⟩ = some (.bool false) := z 7 _ _ _ hz.out
      have hfz : ∀ j, wr.frozen? ⟨w.heap.size, j, none⟩ = false := fun j => frozen_of_row wr w.heap.size j _ _ hz.out
      have f0 := hfz 0
      have f1 := hfz 1
      have f2 := hfz 2
      have f3 := hfz 3
      have f4 := hfz 4
      have f5 := hfz 5
      have f6 := hfz 6
      have f7 := hfz 7
      clear z hfz hz
      clear h8 hr hlt hbits
      go_wp2
      have hbe : Below w.heap.size w ((((((((wr.setCell ⟨w.heap.size, 0, none⟩ (.bool b0)).setCell ⟨w.heap.size, 1, none⟩ (.bool b1)).setCell ⟨w.heap.size, 2, none⟩ (.bool b2)).setCell ⟨w.heap.size, 3, none⟩ (.bool b3)).setCell ⟨w.heap.size, 4, none⟩ (.bool b4)).setCell ⟨w.heap.size, 5, none⟩ (.bool b5)).setCell ⟨w.heap.size, 6, none⟩ (.bool b6)).setCell ⟨w.heap.size, 7, none⟩ (.bool b7)) := (((((((hb.out.setCell (by simp) _).setCell (by simp) _).setCell (by simp) _).setCell (by simp) _).setCell (by simp) _).setCell (by simp) _).setCell (by simp) _).setCell (by simp) _
      have k0 : (((((((((wr.setCell ⟨w.heap.size, 0, none⟩ (.bool b0)).setCell ⟨w.heap.size, 1, none⟩ (.bool b1)).setCell ⟨w.heap.size, 2, none⟩ (.bool b2)).setCell ⟨w.heap.size, 3, none⟩ (.bool b3)).setCell ⟨w.heap.size, 4, none⟩ (.bool b4)).setCell ⟨w.heap.size, 5, none⟩ (.bool b5)).setCell ⟨w.heap.size, 6, none⟩ (.bool b6)).setCell ⟨w.heap.size, 7, none⟩ (.bool b7))).cell? ⟨w.heap.size, 0, none⟩ = some (.bool b0) := by go_simp
      have k1 : (((((((((wr.setCell ⟨w.heap.size, 0, none⟩ (.bool b0)).setCell ⟨w.heap.size, 1, none⟩ (.bool b1)).setCell ⟨w.heap.size, 2, none⟩ (.bool b2)).setCell ⟨w.heap.size, 3, none⟩ (.bool b3)).setCell ⟨w.heap.size, 4, none⟩ (.bool b4)).setCell ⟨w.heap.size, 5, none⟩ (.bool b5)).setCell ⟨w.heap.size, 6, none⟩ (.bool b6)).setCell ⟨w.heap.size, 7, none⟩ (.bool b7))).cell? ⟨w.heap.size, 1, none⟩ = some (.bool b1) := by go_simp
      have k2 : (((((((((wr.setCell ⟨w.heap.size, 0, none⟩ (.bool b0)).setCell ⟨w.heap.size, 1, none⟩ (.bool b1)).setCell ⟨w.heap.size, 2, none⟩ (.bool b2)).setCell ⟨w.heap.size, 3, none⟩ (.bool b3)).setCell ⟨w.heap.size, 4, none⟩ (.bool b4)).setCell ⟨w.heap.size, 5, none⟩ (.bool b5)).setCell ⟨w.heap.size, 6, none⟩ (.bool b6)).setCell ⟨w.heap.size, 7, none⟩ (.bool b7))).cell? ⟨w.heap.size, 2, none⟩ = some (.bool b2) := by go_simp
      have k3 : (((((((((wr.setCell ⟨w.heap.size, 0, none⟩ (.bool b0)).setCell ⟨w.heap.size, 1, none⟩ (.bool b1)).setCell ⟨w.heap.size, 2, none⟩ (.bool b2)).setCell ⟨w.heap.size, 3, none⟩ (.bool b3)).setCell ⟨w.heap.size, 4, none⟩ (.bool b4)).setCell ⟨w.heap.size, 5, none⟩ (.bool b5)).setCell ⟨w.heap.size, 6, none⟩ (.bool b6)).setCell ⟨w.heap.size, 7, none⟩ (.bool b7))).cell? ⟨w.heap.size, 3, none⟩ = some (.bool b3) := by go_simp
      have k4 : (((((((((wr.setCell ⟨w.heap.size, 0, none⟩ (.bool b0)).setCell ⟨w.heap.size, 1, none⟩ (.bool b1)).setCell ⟨w.heap.size, 2, none⟩ (.bool b2)).setCell ⟨w.heap.size, 3, none⟩ (.bool b3)).setCell ⟨w.heap.size, 4, none⟩ (.bool b4)).setCell ⟨w.heap.size, 5, none⟩ (.bool b5)).setCell ⟨w.heap.size, 6, none⟩ (.bool b6)).setCell ⟨w.heap.size, 7, none⟩ (.bool b7))).cell? ⟨w.heap.size, 4, none⟩ = some (.bool b4) := by go_simp
      have k5 : (((((((((wr.setCell ⟨w.heap.size, 0, none⟩ (.bool b0)).setCell ⟨w.heap.size, 1, none⟩ (.bool b1)).setCell ⟨w.heap.size, 2, none⟩ (.bool b2)).setCell ⟨w.heap.size, 3, none⟩ (.bool b3)).setCell ⟨w.heap.size, 4, none⟩ (.bool b4)).setCell ⟨w.heap.size, 5, none⟩ (.bool b5)).setCell ⟨w.heap.size, 6, none⟩ (.bool b6)).setCell ⟨w.heap.size, 7, none⟩ (.bool b7))).cell? ⟨w.heap.size, 5, none⟩ = some (.bool b5) := by go_simp
      have k6 : (((((((((wr.setCell ⟨w.heap.size, 0, none⟩ (.bool b0)).setCell ⟨w.heap.size, 1, none⟩ (.bool b1)).setCell ⟨w.heap.size, 2, none⟩ (.bool b2)).setCell ⟨w.heap.size, 3, none⟩ (.bool b3)).setCell ⟨w.heap.size, 4, none⟩ (.bool b4)).setCell ⟨w.heap.size, 5, none⟩ (.bool b5)).setCell ⟨w.heap.size, 6, none⟩ (.bool b6)).setCell ⟨w.heap.size, 7, none⟩ (.bool b7))).cell? ⟨w.heap.size, 6, none⟩ = some (.bool b6) := by go_simp
      have k7 : (((((((((wr.setCell ⟨w.heap.size, 0, none⟩ (.bool b0)).setCell ⟨w.heap.size, 1, none⟩ (.bool b1)).setCell ⟨w.heap.size, 2, none⟩ (.bool b2)).setCell ⟨w.heap.size, 3, none⟩ (.bool b3)).setCell ⟨w.heap.size, 4, none⟩ (.bool b4)).setCell ⟨w.heap.size, 5, none⟩ (.bool b5)).setCell ⟨w.heap.size, 6, none⟩ (.bool b6)).setCell ⟨w.heap.size, 7, none⟩ (.bool b7))).cell? ⟨w.heap.size, 7, none⟩ = some (.bool b7) := by go_simp
      generalize ((((((((wr.setCell ⟨w.heap.size, 0, none⟩ (.bool b0)).setCell ⟨w.heap.size, 1, none⟩ (.bool b1)).setCell ⟨w.heap.size, 2, none⟩ (.bool b2)).setCell ⟨w.heap.size, 3, none⟩ (.bool b3)).setCell ⟨w.heap.size, 4, none⟩ (.bool b4)).setCell ⟨w.heap.size, 5, none⟩ (.bool b5)).setCell ⟨w.heap.size, 6, none⟩ (.bool b6)).setCell ⟨w.heap.size, 7, none⟩ (.bool b7)) = W at *
      refine bodyPost_ret (v := .agg #[.bool b0, .bool b1, .bool b2, .bool b3, .bool b4, .bool b5, .bool b6, .bool b7]) (by simp [results, Tryd.results30, go_sem, k0, k1, k2, k3, k4, k5, k6, k7]) rfl ?_
      exact ⟨by rw [HB.out]; rfl, hbe⟩
end Go.Proofs.YtjfbiganijldfaaDoor
