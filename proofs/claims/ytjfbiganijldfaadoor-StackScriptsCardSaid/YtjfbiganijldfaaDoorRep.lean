/- slices.Repeat of one number. -/
import Derived.Test.YtjfbiganijldfaaDoorInts
import Derived.Laws.CopyOwn
namespace Go.Proofs.YtjfbiganijldfaaDoor
open Go.RowKit
set_option linter.unusedVariables false
set_option linter.unusedSimpArgs false
set_option linter.unnecessarySimpa false

set_option maxHeartbeats 400000 in
theorem mul64_one (c : Int) (hc : 0 ≤ c ∧ c ≤ 1000) (w : World) :
    Calls Tryd.prog 43 #[.int .u64 1, .int .u64 c] w fun e w' => e = .returned (.tuple #[.int .u64 0, .int .u64 c]) ∧ w = w' := by
  have h1 : bits .and .u64 c 4294967295 = c := by
    rw [u64_and c _ hc.1 (by omega) (by decide) (by decide), show ((4294967295 : Int).toNat) = 4294967295 from rfl, nat_mask32]
    omega
  have h2 : bits .and .u64 1 4294967295 = 1 := by decide
  have h3 : c / 4294967296 = 0 := by omega
  have h4 : bits .and .u64 0 4294967295 = 0 := by decide
  go_enter Tryd.func43, Tryd.ntmps43
  go_wp2
  go_ret2
  exact ⟨rfl, rfl⟩

set_option maxHeartbeats 400000 in
theorem mul_one (c : Int) (hc : 0 ≤ c ∧ c ≤ 1000) (w : World) :
    Calls Tryd.prog 37 #[.int .u64 1, .int .u64 c] w fun e w' => e = .returned (.tuple #[.int .u64 0, .int .u64 c]) ∧ w = w' := by
  go_enter Tryd.func37, Tryd.ntmps37
  go_wp2_with (go_at_call 43; refine (mul64_one _ hc _).mono ?_; rintro e w' ⟨rfl, rfl⟩)
  go_ret2
  exact ⟨rfl, rfl⟩

/-- the row while it is filled: k times a, then zeros -/
def repRow (a : Int) (k c : Nat) : List Value := List.replicate k (.int .i64 a) ++ List.replicate (c - k) (.int .i64 0)
theorem repRow_len (a : Int) (k c : Nat) (h : k ≤ c) : (repRow a k c).length = c := by simp [repRow]; omega
theorem repRow_get (a : Int) (k c j : Nat) (hj : j < k) : (repRow a k c)[j]? = some (.int .i64 a) := by
  simp [repRow, List.getElem?_append_left, List.getElem?_replicate, hj]
theorem repRow_splice (a : Int) (k m c : Nat) (h : k + m ≤ c) : splice (repRow a k c) k (List.replicate m (.int .i64 a)) = repRow a (k + m) c := by
  unfold splice repRow
  rw [List.take_append_of_le_length (by simp), List.take_of_length_le (by simp), List.length_replicate, List.drop_append, List.drop_of_length_le (by simp), List.length_replicate, List.nil_append, List.drop_replicate, ← List.append_assoc, List.replicate_append_replicate]
  congr 2
  omega

theorem infoInt : (Tryd.prog.info? 3).map (fun i => (i.zero, i.size, i.bytes)) = some (some (.int .i64 0), 1, 8) := by kernel_rfl
theorem sizeInt : (Tryd.prog.info? 3).map (·.size) = some 1 := by kernel_rfl

theorem ownsRow_full {w : World} {base e g n : Nat} {xs : List Value} (h : w.ownsRow base e 1 (.slice (some ⟨g, 0, none⟩) n n) n xs) : w.heap[g]? = some (.cells xs.toArray e (0, 0)) := by
  rcases h.2 with ⟨h', _⟩ | ⟨g', cap', cur, h', _, hg, _, _, hs, ht⟩
  · simp at h'
  · simp only [Value.slice.injEq, Option.some.injEq, Addr.mk.injEq, and_true, true_and] at h'
    obtain ⟨rfl, rfl⟩ := h'
    rw [hg]
    have : xs = cur.toList := by rw [← ht, List.take_of_length_le (by rw [Array.length_toList, hs]; exact Nat.le_refl _)]
    rw [this]

/-- what Repeat ends in: a new row -/
def RepPost (w : World) (xs : List Int) (e : Ending) (w' : World) : Prop :=
  e = .returned (.slice (some ⟨w.heap.size, 0, none⟩) xs.length xs.length) ∧ w'.heap[w.heap.size]? = some (.cells (xs.map (Value.int .i64)).toArray 3 (0, 0)) ∧ Below w.heap.size w w' 

set_option maxHeartbeats 1000000 in
theorem repeat_any (g c : Nat) (a : Int) (hc : 1 ≤ c ∧ c ≤ 1000) (w : World) (ha : w.cell? ⟨g, 0, none⟩ = some (.int .i64 a)) :
    Calls Tryd.prog 25 #[.slice (some ⟨g, 0, none⟩) 1 1, .int .i64 c] w (RepPost w (List.replicate c a)) := by
  obtain ⟨i0, hi0, hz0, hz1, hz2⟩ := info_parts infoInt
  have q1 : g < w.heap.size := World.block_lt_of_cell? w _ ha
  have c1 : (0 : Int) ≤ c := by omega
  have c2 : (c : Int) ≤ 1000 := by omega
  have c3 : (1 : Int) ≤ c := by omega
  go_enter Tryd.func25, Tryd.ntmps25
  go_upto_region 7 with (first | (go_at_call 37; refine (mul_one _ (by omega) _).mono ?_; rintro e w' ⟨rfl, rfl⟩) | (at_make; refine wpList_make_full _ rfl _ _ _ rfl 0 3 i0 _ 1 Tryd.underlying32 hi0 hz0 hz1 _ _ _ _ c (by rfl) (by rfl) rfl rfl (by rw [hz2]; omega) (by unfold maxLen; omega) (Nat.zero_le _) ?_; intro w1 hown hgr))
  have hrow : Hid (w1.heap[w.heap.size]? = some (.cells (repRow a 0 c).toArray 3 (0, 0))) := by
    have := ownsRow_full hown
    simp only [Value.cells] at this
    rw [toList_madeCells_one, Nat.mul_one] at this
    show _ = _
    simpa [repRow] using this
  have ha1 : w1.cell? ⟨g, 0, none⟩ = some (.int .i64 a) := hgr.cell ha (by simp)
  have hbl : Hid (Below w.heap.size w w1) := show Below _ _ _ from (Below.refl _ _).grown hgr (Nat.le_refl _) (by simp)
  clear hown hgr
  go_step
  go_step
  go_step
  go_step
  go_step
  go_step
  go_step
  have k1 : [Value.int .i64 a].length = Nat.min 1 c := by show 1 = min 1 c; omega
  have k2 : 0 < [Value.int .i64 a].length → (some ⟨w.heap.size, 0, none⟩ : Option Addr) = some ⟨w.heap.size, 0, none⟩ ∧ ∃ ad, (some ⟨g, 0, none⟩ : Option Addr) = some ad ∧ ∀ j v, [Value.int .i64 a][j]? = some v → w1.cell? (ad.add j) = some v := by
    refine fun _ => ⟨rfl, _, rfl, fun j v hj => ?_⟩
    have hj0 : j = 0 := by have := (List.getElem?_eq_some_iff.1 hj).1; simpa using this
    subst hj0
    simp at hj
    subst hj
    exact ha1
  have k3 : 0 + [Value.int .i64 a].length ≤ (repRow a 0 c).length := by rw [repRow_len a 0 c (by omega)]; simp; omega
  have k4 : ∀ v ∈ [Value.int .i64 a], v.oneCell' = true := by simp [Value.oneCell']
  have es : splice (repRow a 0 c) 0 [Value.int .i64 a] = repRow a 1 c := by have := repRow_splice a 0 1 c (by omega); simpa using this
  refine wpList_copy_splice (by rfl) (.tmp 31) (.tmp 32) 32 32 (by rfl) 3 Tryd.underlying32 sizeInt (some ⟨w.heap.size, 0, none⟩) (some ⟨g, 0, none⟩) c c 1 1 (by rfl) (by rfl) w.heap.size 0 (repRow a 0 c) 3 hrow.out [.int .i64 a] k1 k2 k3 k4 w.heap.size w hbl.out (Nat.le_refl _) ?_
  intro w2 hrow2 hbl2
  rw [es] at hrow2
  have hbl3 := Lib.hid hbl2
  clear k1 k2 k3 k4 es hrow hbl hbl2 ha1 ha
  go_wp2
  go_loopw [8] (fun n wr => ∃ k : Nat, 1 ≤ k ∧ k ≤ c ∧ n = .int .i64 k ∧ Hid (wr.heap[w.heap.size]? = some (.cells (repRow a k c).toArray 3 (0, 0))) ∧ Hid (Below w.heap.size w wr)) (fun n _ => c - (intOf n).toNat)
  case atStart => exact ⟨1, Nat.le_refl _, hc.1, rfl, hrow2, hbl3⟩
  case round =>
    obtain ⟨k, hk1, hkc, rfl, hrow, hbl⟩ := hrel
    clear hrow2 hbl3
    by_cases hlt : k < c
    · have i1 : (0 : Int) ≤ k := by omega
      have i2 : (k : Int) < (c : Int) := by omega
      obtain ⟨m, hm⟩ : ∃ m, m = Nat.min k (c - k) := ⟨_, rfl⟩
      have hm1 : 1 ≤ m := by rw [hm]; show 1 ≤ min k (c - k); omega
      have hm2 : k + m ≤ c := by rw [hm]; show k + min k (c - k) ≤ c; omega
      have hm3 : m ≤ k := by rw [hm]; show min k (c - k) ≤ k; omega
      have k1 := Lib.hid (show (List.replicate m (Value.int .i64 a)).length = Nat.min k (c - k) by rw [List.length_replicate, hm])
      have k2 : Hid (∀ j v, (List.replicate m (Value.int .i64 a))[j]? = some v → wr.drew.cell? ((⟨w.heap.size, 0, none⟩ : Addr).add j) = some v) := by
        intro j v hj
        have hjm : j < m := by have := (List.getElem?_eq_some_iff.1 hj).1; simpa using this
        rw [List.getElem?_replicate, if_pos hjm] at hj
        cases hj
        exact World.news_of_block (w := wr) (B := w.heap.size) (cs := (repRow a k c).toArray) hrow.out j _ (by simpa using repRow_get a k c j (by omega))
      have k3 := Lib.hid (show k + (List.replicate m (Value.int .i64 a)).length ≤ (repRow a k c).length by rw [repRow_len a k c hkc]; simpa using hm2)
      have k4 := Lib.hid (show ∀ v ∈ List.replicate m (Value.int .i64 a), v.oneCell' = true by intro v hv; rw [(List.mem_replicate.1 hv).2]; rfl)
      have es := Lib.hid (repRow_splice a k m c hm2)
      have hln : Hid ((List.replicate m (Value.int .i64 a)).length = m) := List.length_replicate ..
      clear hm
      have hck : ¬ c = k := by omega
      go_wp2
      go_region_held3 (fun _ => True) (trivial) ((refine step_copy_splice (by rfl) (.tmp 41) (.tmp 44) 32 32 (by rfl) 3 Tryd.underlying32 sizeInt (some ⟨w.heap.size, k, none⟩) (some ⟨w.heap.size, 0, none⟩) (c - k) (c - k) k c (by rfl) (by rfl) w.heap.size k (repRow a k c) 3 (by exact hrow.out) (List.replicate m (Value.int .i64 a)) k1.out (by exact fun _ => ⟨rfl, _, rfl, k2.out⟩) k3.out k4.out w.heap.size w (by exact hbl.out.drew) (Nat.le_refl _) ?_; intro w3 hrow3 hbl3))
      all_goals (
        rw [es.out] at hrow3
        have hr3 : Hid (w3.heap[w.heap.size]? = some (.cells (repRow a (k + m) c).toArray 3 (0, 0))) := hrow3
        have hb3 := Lib.hid hbl3
        clear hbl3 hrow3 es k2 k3 k4 hrow hbl
        have hln2 := hln.out
        go_wp2
        have ew : IntKind.i64.wrap ((k : Int) + m) = ((k + m : Nat) : Int) := by rw [IntWalk.i64_in _ (by omega)]; omega
        rw [ew]
        exact ⟨⟨k + m, by omega, hm2, rfl, hr3, hb3⟩, by simp [intOf]; omega⟩)
    · have hkn : k = c := by omega
      subst hkn
      clear hlt
      have hx := Lib.hid (show (repRow a k k).toArray = ((List.replicate k a).map (Value.int .i64)).toArray by simp [repRow])
      go_wp2
      go_ret
      refine ⟨by simp, ?_, hbl.out⟩
      rw [← hx.out]; exact hrow.out
end Go.Proofs.YtjfbiganijldfaaDoor
