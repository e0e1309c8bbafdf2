/- Contracts of the reference functions on sets as lists of eight: Len, Least, Number. -/
import Derived.Test.YtjfbiganijldfaaDoorRefBits
namespace Go.Proofs.YtjfbiganijldfaaDoor
open Go.RowKit
set_option linter.unusedVariables false
set_option linter.unusedSimpArgs false
set_option linter.unnecessarySimpa false

/-- how many of a list hold -/
def trueN (L : List Bool) : Nat := (L.filter id).length
theorem trueN_succ (L : List Bool) (k : Nat) (b : Bool) (h : L[k]? = some b) : trueN (L.take (k + 1)) = trueN (L.take k) + if b then 1 else 0 := by
  unfold trueN
  obtain ⟨hk, rfl⟩ := List.getElem?_eq_some_iff.1 h
  rw [List.take_succ_eq_append_getElem hk, List.filter_append, List.length_append]
  cases hb : L[k] <;> simp
/-- the cells of a list of eight in a new block -/
theorem new_cell (L : List Bool) (w : World) (t : TypeId) (k : Nat) (b : Bool) (h : L[k]? = some b) : (w.alloc (.cells (L.map Value.bool).toArray t)).cell? ⟨w.heap.size, k, none⟩ = some (.bool b) := by
  rw [cell_of_row _ w.heap.size k _ _ _ (heap_alloc_new w _)]
  simp [h]

set_option maxHeartbeats 400000 in
theorem rlen_any (L : List Bool) (w : World) (hl : L.length = 8) :
    Calls Tryd.prog 41 #[.agg (L.map Value.bool).toArray] w fun e w' => e = .returned (.int .i64 (trueN L)) ∧ Below w.heap.size w w' := by
  have HN := fun k b h => new_cell L w 59 k b h
  have HN := Lib.hid HN
  go_enter Tryd.func41, Tryd.ntmps41
  go_wp2
  obtain ⟨W, hW⟩ : ∃ W, W = w.alloc (.cells (L.map Value.bool).toArray 59) := ⟨_, rfl⟩
  rw [← hW] at HN ⊢
  have hbe : Hid (Below w.heap.size w W) := by rw [hW]; exact (Below.refl _ _).alloc (Nat.le_refl _) _
  clear hW
  go_loopw [3, 4] (fun n i wr => ∃ k : Nat, k ≤ 8 ∧ i = .int .i64 k ∧ n = .int .i64 (trueN (L.take k)) ∧ wr = W) (fun _ i _ => 8 - (intOf i).toNat)
  case atStart => exact ⟨0, Nat.zero_le _, rfl, rfl, rfl⟩
  case round =>
    obtain ⟨k, hk, rfl, rfl, rfl⟩ := hrel
    by_cases hlt : k < 8
    · have i1 : (0 : Int) ≤ k := by omega
      have i3 : (k : Int) < 8 := by omega
      obtain ⟨b, hb⟩ : ∃ b, L[k]? = some b := ⟨_, List.getElem?_eq_getElem (by omega)⟩
      have hc := HN.out k b hb
      have hs := trueN_succ L k b hb
      have hm : trueN (L.take k) ≤ 8 := Nat.le_trans (List.length_filter_le _ _) (by rw [List.length_take]; omega)
      have H := Lib.hid hs
      clear hs hb
      generalize trueN (L.take k) = m at *
      cases b with
      | true =>
        go_wp2
        exact ⟨⟨k + 1, by omega, by go_num, by rw [H.out]; go_num, trivial⟩, by simp [intOf]; omega⟩
      | false =>
        go_wp2
        exact ⟨⟨k + 1, by omega, by go_num, by rw [H.out]; rfl, trivial⟩, by simp [intOf]; omega⟩
    · have hkn : k = 8 := by omega
      subst hkn
      rw [List.take_of_length_le (by omega)]
      go_wp2
      go_ret
      exact ⟨rfl, hbe.out⟩

/-- the first of a list that holds -/
def firstN (L : List Bool) : Int := match L.findIdx? id with | some i => i | none => -1
theorem firstN_here (L : List Bool) (k : Nat) (hp : trueN (L.take k) = 0) (h : L[k]? = some true) : firstN L = k := by
  unfold firstN
  have : L.findIdx? id = some k := by
    obtain ⟨hk, e⟩ := List.getElem?_eq_some_iff.1 h
    rw [List.findIdx?_eq_some_iff_getElem]
    refine ⟨hk, e, fun j hj => ?_⟩
    have h1 : (L.take k).filter id = [] := List.eq_nil_of_length_eq_zero hp
    rw [List.filter_eq_nil_iff] at h1
    have := h1 (L[j]) (by rw [List.mem_take_iff_getElem]; exact ⟨j, by omega, rfl⟩)
    simpa using this
  rw [this]
theorem firstN_no (L : List Bool) (hp : trueN L = 0) : firstN L = -1 := by
  unfold firstN
  have : L.findIdx? id = none := by
    rw [List.findIdx?_eq_none_iff]
    intro x hx
    have h1 : L.filter id = [] := List.eq_nil_of_length_eq_zero hp
    rw [List.filter_eq_nil_iff] at h1
    simpa using h1 x hx
  rw [this]

set_option maxHeartbeats 400000 in
theorem rleast_any (L : List Bool) (w : World) (hl : L.length = 8) :
    Calls Tryd.prog 32 #[.agg (L.map Value.bool).toArray] w fun e w' => e = .returned (.int .i64 (firstN L)) ∧ Below w.heap.size w w' := by
  have HN := fun k b h => new_cell L w 59 k b h
  have HN := Lib.hid HN
  go_enter Tryd.func32, Tryd.ntmps32
  go_wp2
  obtain ⟨W, hW⟩ : ∃ W, W = w.alloc (.cells (L.map Value.bool).toArray 59) := ⟨_, rfl⟩
  rw [← hW] at HN ⊢
  have hbe : Hid (Below w.heap.size w W) := by rw [hW]; exact (Below.refl _ _).alloc (Nat.le_refl _) _
  clear hW
  go_loopw [3] (fun i wr => ∃ k : Nat, k ≤ 8 ∧ i = .int .i64 k ∧ Hid (trueN (L.take k) = 0) ∧ wr = W) (fun i _ => 8 - (intOf i).toNat)
  case atStart => exact ⟨0, Nat.zero_le _, rfl, rfl, rfl⟩
  case round =>
    obtain ⟨k, hk, rfl, H0, rfl⟩ := hrel
    by_cases hlt : k < 8
    · have i1 : (0 : Int) ≤ k := by omega
      have i3 : (k : Int) < 8 := by omega
      obtain ⟨b, hb⟩ : ∃ b, L[k]? = some b := ⟨_, List.getElem?_eq_getElem (by omega)⟩
      have hc := HN.out k b hb
      have H := Lib.hid (trueN_succ L k b hb)
      have HH := Lib.hid (firstN_here L k H0.out)
      have HB := Lib.hid hb
      clear hb
      cases b with
      | true =>
        go_wp2
        go_ret
        exact ⟨by rw [HH.out HB.out]; rfl, hbe.out⟩
      | false =>
        go_wp2
        exact ⟨⟨k + 1, by omega, by go_num, by show _ = _; rw [H.out, H0.out]; rfl, trivial⟩, by simp [intOf]; omega⟩
    · have hkn : k = 8 := by omega
      subst hkn
      have H1 := H0.out
      rw [List.take_of_length_le (by omega)] at H1
      have H2 := Lib.hid (firstN_no L H1)
      clear H1
      go_wp2
      go_ret
      exact ⟨by rw [H2.out]; rfl, hbe.out⟩

/-- the number whose bits a list is -/
def numN (L : List Bool) : Nat := L.foldr (fun b n => n * 2 + if b then 1 else 0) 0
theorem numN_lt (L : List Bool) : numN L < 2 ^ L.length := by
  induction L with
  | nil => decide
  | cons b L ih =>
    show numN L * 2 + _ < _
    rw [List.length_cons, Nat.pow_succ]
    cases b <;> simp <;> omega
theorem numN_drop (L : List Bool) (k : Nat) (b : Bool) (h : L[k]? = some b) : numN (L.drop k) = numN (L.drop (k + 1)) * 2 + if b then 1 else 0 := by
  obtain ⟨hk, rfl⟩ := List.getElem?_eq_some_iff.1 h
  rw [List.drop_eq_getElem_cons hk]
  rfl

set_option maxHeartbeats 400000 in
theorem rnum_any (L : List Bool) (w : World) (hl : L.length = 8) :
    Calls Tryd.prog 33 #[.agg (L.map Value.bool).toArray] w fun e w' => e = .returned (.int .u64 (numN L)) ∧ Below w.heap.size w w' := by
  have HN := fun k b h => new_cell L w 59 k b h
  have HN := Lib.hid HN
  go_enter Tryd.func33, Tryd.ntmps33
  go_wp2
  obtain ⟨W, hW⟩ : ∃ W, W = w.alloc (.cells (L.map Value.bool).toArray 59) := ⟨_, rfl⟩
  rw [← hW] at HN ⊢
  have hbe : Hid (Below w.heap.size w W) := by rw [hW]; exact (Below.refl _ _).alloc (Nat.le_refl _) _
  clear hW
  go_loopw [3, 4] (fun n i wr => ∃ k : Nat, k ≤ 8 ∧ i = .int .i64 ((k : Int) - 1) ∧ n = .int .u64 (numN (L.drop k)) ∧ wr = W) (fun _ i _ => (intOf i + 1).toNat)
  case atStart => exact ⟨8, Nat.le_refl _, rfl, by rw [List.drop_of_length_le (by omega)]; rfl, rfl⟩
  case round =>
    obtain ⟨k, hk, rfl, rfl, rfl⟩ := hrel
    cases k with
    | succ k =>
      have i0 : (((k + 1 : Nat) : Int) - 1) = k := by omega
      rw [i0]
      have i1 : (0 : Int) ≤ k := by omega
      have i3 : (k : Int) < 8 := by omega
      obtain ⟨b, hb⟩ : ∃ b, L[k]? = some b := ⟨_, List.getElem?_eq_getElem (by omega)⟩
      have hc := HN.out k b hb
      have H := Lib.hid (numN_drop L k b hb)
      have hm : numN (L.drop (k + 1)) < 128 := Nat.lt_of_lt_of_le (numN_lt _) (by rw [List.length_drop, hl]; exact Nat.pow_le_pow_right (by decide) (show 8 - (k + 1) ≤ 7 by omega))
      clear hb
      generalize numN (L.drop (k + 1)) = m at *
      have i4 : IntKind.i64.wrap ((k : Int) - 1) = (k : Int) - 1 := IntWalk.i64_in _ (by omega)
      cases b with
      | true =>
        go_wp2
        exact ⟨⟨k, by omega, by go_num, by rw [H.out]; go_num, trivial⟩, by simp [intOf]⟩
      | false =>
        go_wp2
        exact ⟨⟨k, by omega, by go_num, by rw [H.out]; go_num, trivial⟩, by simp [intOf]⟩
    | zero =>
      rw [List.drop_zero]
      go_wp2
      go_ret
      exact ⟨rfl, hbe.out⟩

theorem numN_bits (s : Int) (hs : 0 ≤ s ∧ s < 256) : (numN (bitsN s) : Int) = s := by
  have h : ∀ k : Fin 256, (numN (bitsN k.val) : Int) = k.val := by decide +kernel
  have := h ⟨s.toNat, by omega⟩
  have e : ((s.toNat : Nat) : Int) = s := by omega
  simp only [e] at this
  exact this
theorem firstN_bits (s : Int) : firstN (bitsN s) = leastN s := by
  unfold firstN leastN bitsN
  generalize s.toNat.testBit = f
  have e : List.range 8 = [0, 1, 2, 3, 4, 5, 6, 7] := rfl
  rw [e]
  simp only [List.map_cons, List.map_nil, List.find?_cons, List.find?_nil]
  generalize f 0 = b0
  generalize f 1 = b1
  generalize f 2 = b2
  generalize f 3 = b3
  generalize f 4 = b4
  generalize f 5 = b5
  generalize f 6 = b6
  generalize f 7 = b7
  revert b0 b1 b2 b3 b4 b5 b6 b7
  decide
theorem trueN_bits (s : Int) : (trueN (bitsN s) : Int) = lenN s := by
  unfold trueN bitsN lenN
  rw [List.filter_map, List.length_map]
  rfl
end Go.Proofs.YtjfbiganijldfaaDoor
