/- The reference's rows of nodes. -/
import Derived.Test.YtjfbiganijldfaaDoorRefLen
namespace Go.Proofs.YtjfbiganijldfaaDoor
open Go.RowKit
set_option linter.unusedVariables false
set_option linter.unusedSimpArgs false
set_option linter.unnecessarySimpa false

theorem bitsN_len (s : Int) : (bitsN s).length = 8 := by simp [bitsN]
theorem bitsN_get (s : Int) (k : Nat) (hk : k < 8) : (bitsN s)[k]? = some (s.toNat.testBit k) := by simp [bitsN, hk]
/-- the cells of a node of the reference: three lists of eight, the thread -/
def Nd.rcells (x : Nd) : List Value := (bitsN x.sleep).map Value.bool ++ ((bitsN x.back).map Value.bool ++ ((bitsN x.done).map Value.bool ++ [.int .i64 x.thread]))
theorem rd_len (x : Nd) : x.rcells.length = 25 := by simp [Nd.rcells, bitsN_len]
def rdCells (L : List Nd) : List Value := L.flatMap Nd.rcells
theorem rdCells_len (L : List Nd) : (rdCells L).length = L.length * 25 := length_cells _ 25 rd_len L
theorem rcells_sleep (x : Nd) (k : Nat) (hk : k < 8) : x.rcells[k]? = some (.bool (x.sleep.toNat.testBit k)) := by
  unfold Nd.rcells
  rw [List.getElem?_append_left (by simp [bitsN_len]; exact hk), List.getElem?_map, bitsN_get _ k hk]; rfl
theorem rcells_back (x : Nd) (k : Nat) (hk : k < 8) : x.rcells[8 + k]? = some (.bool (x.back.toNat.testBit k)) := by
  unfold Nd.rcells
  rw [List.getElem?_append_right (by simp [bitsN_len]), List.length_map, bitsN_len, Nat.add_sub_cancel_left,
    List.getElem?_append_left (by simp [bitsN_len]; exact hk), List.getElem?_map, bitsN_get _ k hk]; rfl
theorem rcells_done (x : Nd) (k : Nat) (hk : k < 8) : x.rcells[16 + k]? = some (.bool (x.done.toNat.testBit k)) := by
  unfold Nd.rcells
  rw [List.getElem?_append_right (by simp [bitsN_len]; omega), List.length_map, bitsN_len, show 16 + k - 8 = 8 + k by omega,
    List.getElem?_append_right (by simp [bitsN_len]), List.length_map, bitsN_len, Nat.add_sub_cancel_left,
    List.getElem?_append_left (by simp [bitsN_len]; exact hk), List.getElem?_map, bitsN_get _ k hk]; rfl
theorem rcells_thread (x : Nd) : x.rcells[24]? = some (.int .i64 x.thread) := by
  unfold Nd.rcells
  rw [List.getElem?_append_right (by simp [bitsN_len]), List.length_map, bitsN_len,
    List.getElem?_append_right (by simp [bitsN_len]), List.length_map, bitsN_len,
    List.getElem?_append_right (by simp [bitsN_len]), List.length_map, bitsN_len]; rfl

/-- an owned row of the reference's nodes -/
def RefAt (w : World) (v : Value) (L : List Nd) : Prop := w.ownsRow 0 61 25 v L.length (rdCells L)

theorem RefAt.keeps {S : Nat → Prop} {w w' : World} {v : Value} {L : List Nd} (h : RefAt w v L) (hk : Keeps S w w') (hn : ∀ k, v.ownBlock = some k → ¬ S k) : RefAt w' v L := ownsRow_keeps h hk hn
theorem RefAt.shape {w : World} {v : Value} {L : List Nd} (h : RefAt w v L) : (v = .slice none 0 0 ∧ L = []) ∨ ∃ g cap, v = .slice (some ⟨g, 0, none⟩) L.length cap ∧ L.length ≤ cap ∧ cap ≤ maxLen := by
  rcases h.2 with ⟨h1, h2⟩ | ⟨g, cap, cur, hv, _, _, hn, hm, _⟩
  · exact .inl ⟨h1, List.eq_nil_of_length_eq_zero h2⟩
  · exact .inr ⟨g, cap, hv, hn, hm⟩
theorem RefAt.cells {w : World} {g cap : Nat} {L : List Nd} (h : RefAt w (.slice (some ⟨g, 0, none⟩) L.length cap) L) {i : Nat} {x : Nd} (hx : L[i]? = some x) (j : Nat) (hj : j < 25) :
    w.cell? ⟨g, i * 25 + j, none⟩ = x.rcells[j]? := by
  have hi : i < L.length := (List.getElem?_eq_some_iff.1 hx).1
  rw [World.ownsRow.cellAt h (i * 25 + j) (by omega)]
  show (L.flatMap Nd.rcells)[i * 25 + j]? = _
  rw [get_cells _ 25 rd_len L i j hj, hx]; rfl
theorem RefAt.sleep {w : World} {g cap : Nat} {L : List Nd} (h : RefAt w (.slice (some ⟨g, 0, none⟩) L.length cap) L) {i : Nat} {x : Nd} (hx : L[i]? = some x) (k : Nat) (hk : k < 8) :
    w.cell? ⟨g, i * 25 + k, none⟩ = some (.bool (x.sleep.toNat.testBit k)) := by rw [h.cells hx k (by omega), rcells_sleep x k hk]
theorem RefAt.back {w : World} {g cap : Nat} {L : List Nd} (h : RefAt w (.slice (some ⟨g, 0, none⟩) L.length cap) L) {i : Nat} {x : Nd} (hx : L[i]? = some x) (k : Nat) (hk : k < 8) :
    w.cell? ⟨g, i * 25 + 8 + k, none⟩ = some (.bool (x.back.toNat.testBit k)) := by rw [Nat.add_assoc, h.cells hx (8 + k) (by omega), rcells_back x k hk]
theorem RefAt.done {w : World} {g cap : Nat} {L : List Nd} (h : RefAt w (.slice (some ⟨g, 0, none⟩) L.length cap) L) {i : Nat} {x : Nd} (hx : L[i]? = some x) (k : Nat) (hk : k < 8) :
    w.cell? ⟨g, i * 25 + 16 + k, none⟩ = some (.bool (x.done.toNat.testBit k)) := by rw [Nat.add_assoc, h.cells hx (16 + k) (by omega), rcells_done x k hk]
theorem RefAt.thread {w : World} {g cap : Nat} {L : List Nd} (h : RefAt w (.slice (some ⟨g, 0, none⟩) L.length cap) L) {i : Nat} {x : Nd} (hx : L[i]? = some x) :
    w.cell? ⟨g, i * 25 + 24, none⟩ = some (.int .i64 x.thread) := by rw [h.cells hx 24 (by decide), rcells_thread]
theorem RefAt.free {w : World} {g n cap : Nat} {L : List Nd} (h : RefAt w (.slice (some ⟨g, 0, none⟩) n cap) L) (j : Nat) : w.frozen? ⟨g, j, none⟩ = false := by
  rcases h.2 with ⟨h', _⟩ | ⟨g', cap', cur, h', _, hg, _⟩
  · simp at h'
  · simp only [Value.slice.injEq, Option.some.injEq, Addr.mk.injEq, and_true, true_and] at h'
    obtain ⟨rfl, _⟩ := h'
    exact frozen_of_row w g j cur _ hg
theorem RefAt.set {w : World} {g cap : Nat} {L : List Nd} (h : RefAt w (.slice (some ⟨g, 0, none⟩) L.length cap) L) {i j : Nat} (hj : j < 25) {x y : Nd} (hx : L[i]? = some x) {u : Value} (hy : y.rcells = x.rcells.set j u) :
    RefAt (w.setCell ⟨g, i * 25 + j, none⟩ u) (.slice (some ⟨g, 0, none⟩) (L.set i y).length cap) (L.set i y) := by
  have := (World.ownsRow.stored h (i * 25 + j) u).1
  unfold RefAt
  rw [List.length_set]
  have e : (rdCells L).set (i * 25 + j) u = rdCells (L.set i y) := set_cells _ 25 rd_len L i j hj u x y hx hy
  rw [e] at this
  exact this

theorem andNot_test (a b : Int) (ha : 0 ≤ a ∧ a < 18446744073709551616) (hb : 0 ≤ b ∧ b < 18446744073709551616) (j : Nat) (hj : j < 64) :
    (bits .andNot .u64 a b).toNat.testBit j = (a.toNat.testBit j && !b.toNat.testBit j) := by
  rw [u64_andNot a b ha.1 ha.2 hb.1 hb.2, Int.toNat_natCast, Nat.testBit_and]
  have hb' : b.toNat < 2 ^ 64 := by omega
  have e : 18446744073709551615 - b.toNat = 2 ^ 64 - (b.toNat + 1) := by omega
  rw [e, Nat.testBit_two_pow_sub_succ hb']
  simp [hj]
theorem firstN_at (L : List Bool) (k : Nat) (h : L[k]? = some true) (hp : ∀ j, j < k → L[j]? = some false) : firstN L = k := by
  unfold firstN
  have : L.findIdx? id = some k := by
    obtain ⟨hk, e⟩ := List.getElem?_eq_some_iff.1 h
    rw [List.findIdx?_eq_some_iff_getElem]
    refine ⟨hk, e, fun j hj => ?_⟩
    obtain ⟨_, e2⟩ := List.getElem?_eq_some_iff.1 (hp j hj)
    rw [e2]; decide
  rw [this]
theorem firstN_none (L : List Bool) (hp : ∀ j, j < L.length → L[j]? = some false) : firstN L = -1 := by
  unfold firstN
  have : L.findIdx? id = none := by
    rw [List.findIdx?_eq_none_iff]
    intro x hx
    obtain ⟨j, hj, rfl⟩ := List.getElem_of_mem hx
    obtain ⟨_, e2⟩ := List.getElem?_eq_some_iff.1 (hp j hj)
    rw [e2]; rfl
  rw [this]
/-- the least of a set, found bit by bit -/
theorem leastN_at (s : Int) (k : Nat) (hk : k < 8) (h : s.toNat.testBit k = true) (hp : ∀ j, j < k → s.toNat.testBit j = false) : leastN s = k := by
  rw [← firstN_bits]
  exact firstN_at _ k (by rw [bitsN_get _ k hk, h]) (fun j hj => by rw [bitsN_get _ j (by omega), hp j hj])
theorem leastN_not (s : Int) (hp : ∀ j, j < 8 → s.toNat.testBit j = false) : leastN s = -1 := by
  rw [← firstN_bits]
  exact firstN_none _ (fun j hj => by rw [bitsN_len] at hj; rw [bitsN_get _ j hj, hp j hj])

section
variable (g n cap : Nat) (sl bk : Int) (w : World)
set_option maxHeartbeats 400000 in
/-- Take at an open top: the thread is laid down, or there is none -/
theorem rtake_raw (hn : n ≤ 60) (hsl : 0 ≤ sl ∧ sl < 256) (hbk : 0 ≤ bk ∧ bk < 256) (ht : w.cell? ⟨g, n * 25 + 24, none⟩ = some (.int .i64 (-1))) (hf : w.frozen? ⟨g, n * 25 + 24, none⟩ = false)
    (hs : ∀ k, k < 8 → w.cell? ⟨g, n * 25 + k, none⟩ = some (.bool (sl.toNat.testBit k)))
    (hb : ∀ k, k < 8 → w.cell? ⟨g, n * 25 + 8 + k, none⟩ = some (.bool (bk.toNat.testBit k))) :
    Calls Tryd.prog 17 #[.slice (some ⟨g, 0, none⟩) (n + 1) cap] w fun e w' =>
      (leastN (bits .andNot .u64 bk sl) = -1 ∧ e = .returned (.tuple #[.int .i64 0, .bool false]) ∧ w' = w) ∨
        (leastN (bits .andNot .u64 bk sl) ≠ -1 ∧ e = .returned (.tuple #[.int .i64 (leastN (bits .andNot .u64 bk sl)), .bool true]) ∧ w' = w.setCell ⟨g, n * 25 + 24, none⟩ (.int .i64 (leastN (bits .andNot .u64 bk sl)))) := by
  have e1 := wrapNat n (by omega)
  have e2 : (0 : Int) ≤ n := by omega
  have e3 : (n : Int) < (n : Int) + 1 := by omega
  have e4 : ((n : Int) + 1 == 0) = false := by rw [beq_eq_false_iff_ne]; omega
  have HT := Lib.hid (andNot_test bk sl (by omega) (by omega))
  generalize bits .andNot .u64 bk sl = s at *
  go_enter Tryd.func17, Tryd.ntmps17
  go_wp2
  go_loopw [5] (fun i wr => ∃ k : Nat, k ≤ 8 ∧ i = .int .i64 k ∧ Hid (∀ j, j < k → s.toNat.testBit j = false) ∧ wr = w) (fun i _ => 8 - (intOf i).toNat)
  case atStart => exact ⟨0, Nat.zero_le _, rfl, (fun j hj => absurd hj (by omega)), rfl⟩
  case round =>
    obtain ⟨k, hk, rfl, H0, rfl⟩ := hrel
    by_cases hlt : k < 8
    · have i1 : (0 : Int) ≤ k := by omega
      have i3 : (k : Int) < 8 := by omega
      have c0 := hs k hlt
      have c1 := hb k hlt
      have hk2 := HT.out k (by omega)
      obtain ⟨x, hx⟩ : ∃ x, x = sl.toNat.testBit k := ⟨_, rfl⟩
      obtain ⟨y, hy⟩ : ∃ y, y = bk.toNat.testBit k := ⟨_, rfl⟩
      rw [← hx] at c0 hk2
      rw [← hy] at c1 hk2
      have HK := Lib.hid hk2
      clear hk2 hx hy hs hb
      cases y with
      | false =>
        have H1 : Hid (∀ j, j < k + 1 → s.toNat.testBit j = false) := fun j hj => by
          rcases Nat.lt_or_ge j k with h | h
          · exact H0.out j h
          · have : j = k := by omega
            rw [this, HK.out]; rfl
        go_wp2
        exact ⟨⟨k + 1, by omega, by go_num, H1, trivial⟩, by simp [intOf]; omega⟩
      | true =>
        cases x with
        | true =>
          have H1 : Hid (∀ j, j < k + 1 → s.toNat.testBit j = false) := fun j hj => by
            rcases Nat.lt_or_ge j k with h | h
            · exact H0.out j h
            · have : j = k := by omega
              rw [this, HK.out]; rfl
          go_wp2
          exact ⟨⟨k + 1, by omega, by go_num, H1, trivial⟩, by simp [intOf]; omega⟩
        | false =>
          have HL := Lib.hid (leastN_at s k hlt (by rw [HK.out]; rfl) H0.out)
          go_wp2
          go_ret2
          refine .inr ?_
          rw [HL.out]
          exact ⟨by omega, rfl, rfl⟩
    · have hkn : k = 8 := by omega
      subst hkn
      have HL := Lib.hid (leastN_not s H0.out)
      clear hs hb
      go_wp2
      go_ret2
      exact .inl ⟨HL.out, rfl, rfl⟩
end
end Go.Proofs.YtjfbiganijldfaaDoor
