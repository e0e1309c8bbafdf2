/- slices.Repeat of one number. -/
import Derived.Test.YtmkfpkficmmlgaaK31
import Derived.Laws.CopyOwn
namespace Go.Proofs.Ytmkfpkficmmlgaa
open Go.RowKit
set_option linter.unusedVariables false
set_option linter.unusedSimpArgs false
set_option linter.unnecessarySimpa false

set_option maxHeartbeats 400000 in
theorem mul64_one (c : Int) (hc : 0 ≤ c ∧ c ≤ 1000) (w : World) :
    Calls Try.prog 53 #[.int .u64 1, .int .u64 c] w fun e w' => e = .returned (.tuple #[.int .u64 0, .int .u64 c]) ∧ w = w' := by
  have h1 : bits .and .u64 c 4294967295 = c := by
    rw [u64_and c _ hc.1 (by omega) (by decide) (by decide), show ((4294967295 : Int).toNat) = 4294967295 from rfl, nat_mask32]
    omega
  have h2 : bits .and .u64 1 4294967295 = 1 := by decide
  have h3 : c / 4294967296 = 0 := by omega
  have h4 : bits .and .u64 0 4294967295 = 0 := by decide
  go_enter Try.func53, Try.ntmps53
  go_wp2
  go_ret2
  exact ⟨rfl, rfl⟩

set_option maxHeartbeats 400000 in
theorem mul_one (c : Int) (hc : 0 ≤ c ∧ c ≤ 1000) (w : World) :
    Calls Try.prog 44 #[.int .u64 1, .int .u64 c] w fun e w' => e = .returned (.tuple #[.int .u64 0, .int .u64 c]) ∧ w = w' := by
  go_enter Try.func44, Try.ntmps44
  go_wp2_with (go_at_call 53; refine (mul64_one _ hc _).mono ?_; rintro e w' ⟨rfl, rfl⟩)
  go_ret2
  exact ⟨rfl, rfl⟩

/-- the row while it is filled: k times a, then zeros -/
def repRow (a : Int) (k c : Nat) : List Value := List.replicate k (.int .i64 a) ++ List.replicate (c - k) (.int .i64 0)
theorem repRow_len (a : Int) (k c : Nat) (h : k ≤ c) : (repRow a k c).length = c := by simp [repRow]; omega
theorem repRow_get (a : Int) (k c j : Nat) (hj : j < k) : (repRow a k c)[j]? = some (.int .i64 a) := by
  simp [repRow, List.getElem?_append_left, List.getElem?_replicate, hj]
theorem repRow_splice (a : Int) (k m c : Nat) (h : k + m ≤ c) : splice (repRow a k c) k (List.replicate m (.int .i64 a)) = repRow a (k + m) c := by
  unfold splice repRow
  rw [List.take_append_of_le_length (by simp), List.take_of_length_le (by simp), List.length_replicate, List.drop_append, List.drop_of_length_le (by simp), List.length_replicate, List.nil_append, List.drop_replicate, ← List.append_assoc, List.replicate_append_replicate]
  congr 2
  omega

theorem sizeInt : (Try.prog.info? 3).map (·.size) = some 1 := by kernel_rfl

theorem ownsRow_full {w : World} {base e g n : Nat} {xs : List Value} (h : w.ownsRow base e 1 (.slice (some ⟨g, 0, none⟩) n n) n xs) : w.heap[g]? = some (.cells xs.toArray e (0, 0)) := by
  rcases h.2 with ⟨h', _⟩ | ⟨g', cap', cur, h', _, hg, _, _, hs, ht⟩
  · simp at h'
  · simp only [Value.slice.injEq, Option.some.injEq, Addr.mk.injEq, and_true, true_and] at h'
    obtain ⟨rfl, rfl⟩ := h'
    rw [hg]
    have : xs = cur.toList := by rw [← ht, List.take_of_length_le (by rw [Array.length_toList, hs]; exact Nat.le_refl _)]
    rw [this]

/-- what Repeat ends in: a new row -/
def RepPost (w : World) (xs : List Int) (e : Ending) (w' : World) : Prop :=
  e = .returned (.slice (some ⟨w.heap.size, 0, none⟩) xs.length xs.length) ∧ w'.heap[w.heap.size]? = some (.cells (xs.map (Value.int .i64)).toArray 3 (0, 0)) ∧ Below w.heap.size w w' 

set_option maxRecDepth 8000 in
set_option maxHeartbeats 1000000 in
theorem repeat_any (g c : Nat) (a : Int) (hc : 1 ≤ c ∧ c ≤ 1000) (w : World) (ha : w.cell? ⟨g, 0, none⟩ = some (.int .i64 a)) :
    Calls Try.prog 22 #[.slice (some ⟨g, 0, none⟩) 1 1, .int .i64 c] w (RepPost w (List.replicate c a)) := by
  obtain ⟨i0, hi0, hz0, hz1, hz2⟩ := info_parts infoInt
  have q1 : g < w.heap.size := World.block_lt_of_cell? w _ ha
  have c1 : (0 : Int) ≤ c := by omega
  have c2 : (c : Int) ≤ 1000 := by omega
  have c3 : (1 : Int) ≤ c := by omega
  go_enter Try.func22, Try.ntmps22
  go_upto_region 7 with (first | (go_at_call 44; refine (mul_one _ (by omega) _).mono ?_; rintro e w' ⟨rfl, rfl⟩) | (at_make; refine wpList_make_full _ rfl _ _ _ rfl 0 3 i0 _ 1 Try.underlying22 hi0 hz0 hz1 _ _ _ _ c (by rfl) (by rfl) rfl rfl (by rw [hz2]; omega) (by unfold maxLen; omega) (Nat.zero_le _) ?_; intro w1 hown hgr))
  have hrow : Hid (w1.heap[w.heap.size]? = some (.cells (repRow a 0 c).toArray 3 (0, 0))) := by
    have := ownsRow_full hown
    simp only [Value.cells] at this
    rw [toList_madeCells_one, Nat.mul_one] at this
    show _ = _
    simpa [repRow] using this
  have ha1 : w1.cell? ⟨g, 0, none⟩ = some (.int .i64 a) := hgr.cell ha (by simp)
  have hbl : Hid (Below w.heap.size w w1) := show Below _ _ _ from (Below.refl _ _).grown hgr (Nat.le_refl _) (by simp)
  clear hown hgr
  go_step
  go_step
  go_step
  go_step
  go_step
  go_step
  go_step
  have k1 : [Value.int .i64 a].length = Nat.min 1 c := by show 1 = min 1 c; omega
  have k2 : 0 < [Value.int .i64 a].length → (some ⟨w.heap.size, 0, none⟩ : Option Addr) = some ⟨w.heap.size, 0, none⟩ ∧ ∃ ad, (some ⟨g, 0, none⟩ : Option Addr) = some ad ∧ ∀ j v, [Value.int .i64 a][j]? = some v → w1.cell? (ad.add j) = some v := by
    refine fun _ => ⟨rfl, _, rfl, fun j v hj => ?_⟩
    have hj0 : j = 0 := by have := (List.getElem?_eq_some_iff.1 hj).1; simpa using this
    subst hj0
    simp at hj
    subst hj
    exact ha1
  have k3 : 0 + [Value.int .i64 a].length ≤ (repRow a 0 c).length := by rw [repRow_len a 0 c (by omega)]; simp; omega
  have k4 : ∀ v ∈ [Value.int .i64 a], v.oneCell' = true := by simp [Value.oneCell']
  have es : splice (repRow a 0 c) 0 [Value.int .i64 a] = repRow a 1 c := by have := repRow_splice a 0 1 c (by omega); simpa using this
  refine wpList_copy_splice (by rfl) (.tmp 31) (.tmp 32) 22 22 (by rfl) 3 Try.underlying22 sizeInt (some ⟨w.heap.size, 0, none⟩) (some ⟨g, 0, none⟩) c c 1 1 (by rfl) (by rfl) w.heap.size 0 (repRow a 0 c) 3 hrow.out [.int .i64 a] k1 k2 k3 k4 w.heap.size w hbl.out (Nat.le_refl _) ?_
  intro w2 hrow2 hbl2
  rw [es] at hrow2
  have hbl3 := Lib.hid hbl2
  clear k1 k2 k3 k4 es hrow hbl hbl2 ha1 ha
  go_wp2
  go_loopw [8] (fun n wr => ∃ k : Nat, 1 ≤ k ∧ k ≤ c ∧ n = .int .i64 k ∧ Hid (wr.heap[w.heap.size]? = some (.cells (repRow a k c).toArray 3 (0, 0))) ∧ Hid (Below w.heap.size w wr)) (fun n _ => c - (intOf n).toNat)
  case atStart => exact ⟨1, Nat.le_refl _, hc.1, rfl, hrow2, hbl3⟩
  case round =>
    obtain ⟨k, hk1, hkc, rfl, hrow, hbl⟩ := hrel
    clear hrow2 hbl3
    by_cases hlt : k < c
    · have i1 : (0 : Int) ≤ k := by omega
      have i2 : (k : Int) < (c : Int) := by omega
      obtain ⟨m, hm⟩ : ∃ m, m = Nat.min k (c - k) := ⟨_, rfl⟩
      have hm1 : 1 ≤ m := by rw [hm]; show 1 ≤ min k (c - k); omega
      have hm2 : k + m ≤ c := by rw [hm]; show k + min k (c - k) ≤ c; omega
      have hm3 : m ≤ k := by rw [hm]; show min k (c - k) ≤ k; omega
      have k1 := Lib.hid (show (List.replicate m (Value.int .i64 a)).length = Nat.min k (c - k) by rw [List.length_replicate, hm])
      have k2 : Hid (∀ j v, (List.replicate m (Value.int .i64 a))[j]? = some v → wr.drew.cell? ((⟨w.heap.size, 0, none⟩ : Addr).add j) = some v) := by
        intro j v hj
        have hjm : j < m := by have := (List.getElem?_eq_some_iff.1 hj).1; simpa using this
        rw [List.getElem?_replicate, if_pos hjm] at hj
        cases hj
        exact World.news_of_block (w := wr) (B := w.heap.size) (cs := (repRow a k c).toArray) hrow.out j _ (by simpa using repRow_get a k c j (by omega))
      have k3 := Lib.hid (show k + (List.replicate m (Value.int .i64 a)).length ≤ (repRow a k c).length by rw [repRow_len a k c hkc]; simpa using hm2)
      have k4 := Lib.hid (show ∀ v ∈ List.replicate m (Value.int .i64 a), v.oneCell' = true by intro v hv; rw [(List.mem_replicate.1 hv).2]; rfl)
      have es := Lib.hid (repRow_splice a k m c hm2)
      have hln : Hid ((List.replicate m (Value.int .i64 a)).length = m) := List.length_replicate ..
      clear hm
      have hck : ¬ c = k := by omega
      go_wp2
      go_region_held3 (fun _ => True) (trivial) ((refine step_copy_splice (by rfl) (.tmp 41) (.tmp 44) 22 22 (by rfl) 3 Try.underlying22 sizeInt (some ⟨w.heap.size, k, none⟩) (some ⟨w.heap.size, 0, none⟩) (c - k) (c - k) k c (by rfl) (by rfl) w.heap.size k (repRow a k c) 3 (by exact hrow.out) (List.replicate m (Value.int .i64 a)) k1.out (by exact fun _ => ⟨rfl, _, rfl, k2.out⟩) k3.out k4.out w.heap.size w (by exact hbl.out.drew) (Nat.le_refl _) ?_; intro w3 hrow3 hbl3))
      all_goals (
        rw [es.out] at hrow3
        have hr3 : Hid (w3.heap[w.heap.size]? = some (.cells (repRow a (k + m) c).toArray 3 (0, 0))) := hrow3
        have hb3 := Lib.hid hbl3
        clear hbl3 hrow3 es k2 k3 k4 hrow hbl
        have hln2 := hln.out
        go_wp2
        have ew : IntKind.i64.wrap ((k : Int) + m) = ((k + m : Nat) : Int) := by rw [IntWalk.i64_in _ (by omega)]; omega
        rw [ew]
        exact ⟨⟨k + m, by omega, hm2, rfl, hr3, hb3⟩, by simp [intOf]; omega⟩)
    · have hkn : k = c := by omega
      subst hkn
      clear hlt
      have hx := Lib.hid (show (repRow a k k).toArray = ((List.replicate k a).map (Value.int .i64)).toArray by simp [repRow])
      go_wp2
      go_ret
      refine ⟨by simp, ?_, hbl.out⟩
      rw [← hx.out]; exact hrow.out

set_option maxRecDepth 8000 in
set_option maxHeartbeats 1000000 in
theorem repeat_none (g : Nat) (a : Int) (w : World) (ha : w.cell? ⟨g, 0, none⟩ = some (.int .i64 a)) :
    Calls Try.prog 22 #[.slice (some ⟨g, 0, none⟩) 1 1, .int .i64 0] w fun e w' => ∃ ad, e = .returned (.slice ad 0 0) ∧ w'.ownsRow 0 3 1 (.slice ad 0 0) 0 [] ∧ Keeps NoBlk w w' ∧ ∀ kb, (Value.slice ad 0 0).ownBlock = some kb → w.heap.size ≤ kb := by
  obtain ⟨i0, hi0, hz0, hz1, hz2⟩ := info_parts infoInt
  go_enter Try.func22, Try.ntmps22
  go_upto_region 7 with (first | (go_at_call 44; refine (mul_one _ (by omega) _).mono ?_; rintro e w' ⟨rfl, rfl⟩) | (at_make; refine wpList_make_full _ rfl _ _ _ rfl 0 3 i0 _ 1 Try.underlying22 hi0 hz0 hz1 _ _ _ _ 0 (by rfl) (by rfl) rfl rfl (by rw [hz2]; omega) (by unfold maxLen; omega) (Nat.zero_le _) ?_; intro w1 hown hgr))
  have hw1 : w1.ownsRow 0 3 1 (.slice (some ⟨w.heap.size, 0, none⟩) 0 0) 0 [] := by
    have h := hown
    simp only [Value.cells] at h
    rw [toList_madeCells_one] at h
    simpa using h
  have hrow : Hid (w1.heap[w.heap.size]? = some (.cells ([] : List Value).toArray 3 (0, 0))) := ownsRow_full hw1
  have hbl : Hid (Below w.heap.size w w1) := show Below _ _ _ from (Below.refl _ _).grown hgr (Nat.le_refl _) (by simp)
  clear hown hgr hw1 ha
  iterate 7 go_step
  refine wpList_copy_splice (by rfl) (.tmp 31) (.tmp 32) 22 22 (by rfl) 3 Try.underlying22 sizeInt (some ⟨w.heap.size, 0, none⟩) (some ⟨g, 0, none⟩) 0 0 1 1 (by rfl) (by rfl) w.heap.size 0 [] 3 hrow.out [] (by rfl) (fun h => absurd h (by decide)) (by decide) (by simp) w.heap.size w hbl.out (Nat.le_refl _) ?_
  intro w2 hrow2 hbl2
  have hbl3 := Lib.hid hbl2
  have hr3 : Hid (w2.heap[w.heap.size]? = some (.cells ([] : List Value).toArray 3 (0, 0))) := by show _ = _; simpa [splice] using hrow2.out
  clear hrow hbl hbl2 hrow2
  go_wp2
  go_loopw [8] (fun n wr => n = .int .i64 0 ∧ Hid (wr = w2)) (fun _ _ => 0)
  case atStart => exact ⟨rfl, rfl⟩
  case round =>
    obtain ⟨rfl, he⟩ := hrel
    go_wp2
    go_ret
    have e := he.out
    subst e
    refine ⟨some ⟨w.heap.size, 0, none⟩, rfl, ⟨rfl, .inr ⟨w.heap.size, 0, #[], rfl, Nat.zero_le _, hr3.out, Nat.le_refl _, by unfold maxLen; omega, rfl, rfl⟩⟩, Keeps.ofBelow hbl3.out _, fun kb e => by simp [Value.ownBlock] at e; omega⟩
/-- what Repeat makes, whatever the count up to 8 -/
theorem repeat_new (g : Nat) (c : Int) (a : Int) (hc : 0 ≤ c ∧ c ≤ 1000) (w : World) (ha : w.cell? ⟨g, 0, none⟩ = some (.int .i64 a)) :
    Calls Try.prog 22 #[.slice (some ⟨g, 0, none⟩) 1 1, .int .i64 c] w (NewRow 3 1 w c.toNat (ints (List.replicate c.toNat a))) := by
  obtain ⟨n, rfl⟩ : ∃ n : Nat, c = n := ⟨c.toNat, by omega⟩
  rw [Int.toNat_natCast]
  by_cases h0 : n = 0
  · subst h0
    refine (repeat_none g a w ha).mono ?_
    rintro e w' ⟨ad, rfl, h1, h2, h3⟩
    exact ⟨ad, 0, rfl, h1, h2, h3⟩
  · refine (repeat_any g n a (by omega) w ha).mono ?_
    rintro e w' ⟨rfl, h1, h2⟩
    refine ⟨some ⟨w.heap.size, 0, none⟩, n, by simp, ⟨by simp [ints], .inr ⟨w.heap.size, n, _, rfl, Nat.zero_le _, h1, Nat.le_refl _, by unfold maxLen; omega, by simp, ?_⟩⟩, Keeps.ofBelow h2 _, fun kb e => by simp [Value.ownBlock] at e; omega⟩
    simp [ints]
end Go.Proofs.Ytmkfpkficmmlgaa

/- A region that draws, whose first operation none ahead of the tail waits for. -/
namespace Go.Proofs.Ytmkfpkficmmlgaa
open Go.RowKit
set_option linter.unusedVariables false
set_option linter.unusedSimpArgs false
set_option linter.unnecessarySimpa false

section
variable {P : Program}

/-- as sinkB, but for the first -/
def sink1B (md : Region.Mode) (ops : Array Oper) (n : Nat) : Bool :=
  (List.range n).all fun i => decide (i = 0) || (List.range (n + 1)).any fun j => decide (i < j) && Region.waitsFor md ops j i
theorem tail_waits1 {md : Region.Mode} {ops : Array Oper} {n : Nat} {listed : Array Bool} (hs : sink1B md ops n = true) (hc : Region.chainB md ops n = true) (hn : n < ops.size) (inv : HeadInv md ops n listed) (hl0 : listed.getD 0 true = true) :
    ∀ (d i : Nat), n - i = d → 1 ≤ i → i < n → listed.getD i true = false → ∀ t, n ≤ t → t ∉ Region.ready md ops listed := by
  intro d
  induction d using Nat.strongRecOn with
  | _ d ih =>
    intro i hd hi1 hi hun t ht hr
    obtain ⟨_, ot, hot, hall⟩ := mem_ready.1 hr
    have htlt : t < ops.size := (Array.getElem?_eq_some_iff.1 hot).1
    by_cases htn : t = n
    · subst htn
      have h1 := List.all_eq_true.1 hs i (List.mem_range.2 hi)
      simp only [Bool.or_eq_true, decide_eq_true_eq] at h1
      rcases h1 with h1 | h1
      · omega
      obtain ⟨j, hj, hj2⟩ := List.any_eq_true.1 h1
      simp only [Bool.and_eq_true, decide_eq_true_eq] at hj2
      obtain ⟨oj, hoj, e, he, hb, hon⟩ := Region.waitsFor_spec hj2.2
      have hjle : j ≤ t := by have := List.mem_range.1 hj; omega
      by_cases hjt : j = t
      · subst hjt
        have : oj = ot := Option.some.inj (hoj.symm.trans hot)
        subst this
        have h2 := hall e he hb
        rw [hon, getD_both hun] at h2
        cases h2
      · cases hl : listed.getD j false with
        | true =>
          have h2 := inv.closed j oj hoj hl e he hb
          rw [hon, getD_both hun] at h2
          cases h2
        | false =>
          have hjs : j < listed.size := by rw [inv.size]; omega
          exact ih (t - j) (by omega) j rfl (by omega) (by omega) (getD_in hjs hl) t (Nat.le_refl _) hr
    · have h1 := List.all_eq_true.1 hc t (List.mem_range.2 htlt)
      simp only [Bool.or_eq_true, decide_eq_true_eq] at h1
      rcases h1 with h1 | h1
      · omega
      · obtain ⟨o', ho', e, he, hb, hon⟩ := Region.waitsFor_spec h1
        have : o' = ot := Option.some.inj (ho'.symm.trans hot)
        subst this
        have h2 := hall e he hb
        rw [hon, getD_both (inv.tail (t - 1) (by omega) (by omega))] at h2
        cases h2
def table3B (md : Region.Mode) (l : List Oper) (n : Nat) : Bool :=
  decide (n < l.length) && decide (1 ≤ n) && sink1B md l.toArray n && Region.chainB md l.toArray n && backB md l n && ((List.range (n + 1)).all fun m => distinctB l m) && Region.seqB md l.toArray (l.length - n) n (listedTo n (l.length - n)) &&
    Region.free md l.toArray (Array.replicate l.toArray.size false) 0 && (Region.ready md l.toArray (Array.replicate l.toArray.size false)).contains 0 && Region.noSelect l.toArray
/-- The same, where the first operation (a move, which looks at no memory) is waited for by none ahead of the tail. -/
theorem wp_region_table3 {id : Nat} {Q : Exit → Act → World → Prop} {a : Act} {w : World} {l : List Oper} (n : Nat) (hm : P.follows .mixedOrders = true) (hB : table3B .any l n = true) (o0 : Oper) (v0 : Value) (ho0 : l[0]? = some o0) (hy0 : Yields P l.toArray o0 v0 a) (hQ : ∀ c a w, Q (.panic c) (a.put o0.dst v0) w → Q (.panic c) a w)
    (R : World → World → Prop) (hrefl : ∀ w, R w w) (htrans : ∀ a b c, R a b → R b c → R a c) (F : Nat → Value → World → Prop) (hst : ∀ j v W W', F j v W → R W W' → F j v W')
    (hF0 : ∀ W, F 0 v0 W) (hstep : ∀ i o, 1 ≤ i → i < n → l[i]? = some o → ∀ (vs : Nat → Value) (W : World) (Q' : Exit → Act → World → Prop), R w.drew W → (∀ j, (o.after.any fun e => Region.binds .any e && decide (e.on = j)) = true → F j (vs j) W) →
      (∀ v W', R W W' → F i v W' → Q' .normal ((putsTo l vs a n).put o.dst v) W') → wpList P l.toArray Q' [o] (putsTo l vs a n) W)
    (htail : ∀ (vs : Nat → Value) (W : World), R w.drew W → (∀ j, j < n → F j (vs j) W) → wpList P l.toArray Q (l.drop n) (putsTo l vs a n) W) : (Code.region id l.toArray true).wp P Q a w := by
  simp only [table3B, Bool.and_eq_true, decide_eq_true_eq, List.all_eq_true, List.mem_range] at hB
  obtain ⟨⟨⟨⟨⟨⟨⟨⟨⟨hn, hn1⟩, hs⟩, hc⟩, hback⟩, hdis⟩, hseq⟩, hfr⟩, hrd⟩, hsel⟩ := hB
  have key : ∀ (f : Nat) (listed : Array Bool) (vs : Nat → Value) (W : World), HeadInv .any l.toArray n listed → listed.getD 0 true = true → cntU listed n = f → R w.drew W → (∀ j, j < n → listed.getD j true = true → F j (vs j) W) →
      wpAny P .any l.toArray Q (f + (l.length - n)) listed (putsTo l vs a n) W := by
    intro f
    induction f with
    | zero =>
      intro listed vs W inv hl0 hcnt hR hF
      have hall := cntU_zero n hcnt
      have he : listed = listedTo n (l.length - n) := by
        apply Array.ext
        · rw [inv.size]; simp [listedTo]; omega
        · intro k h1 h2
          by_cases hk : k < n
          · have := hall k hk
            simp only [Array.getD, h1, dif_pos] at this
            rw [show listed[k] = true from this]
            simp [listedTo, hk, List.getElem_append]
          · have hk2 : k < l.toArray.size := by rw [← inv.size]; exact h1
            have := inv.tail k (by omega) hk2
            simp only [Array.getD, h1, dif_pos] at this
            rw [show listed[k] = false from this]
            simp [listedTo, hk, List.getElem_append]
      have h1 := htail vs W hR (fun j hj => hF j hj (hall j hj))
      have hdl : (l.drop n).length = l.length - n := by simp
      have := wpAny_of_seq (P := P) (md := .any) (ops := l.toArray) (Q' := Q) (l.drop n) n listed (putsTo l vs a n) W (fun j => by simp [List.getElem?_drop]) (by rw [hdl, he]; exact hseq) h1
      rw [hdl] at this
      rw [Nat.zero_add]
      exact this
    | succ f ih =>
      intro listed vs W inv hl0 hcnt hR hF
      obtain ⟨i0, hi0, hu0, hb0⟩ := cntU_first n (by omega : cntU listed n ≠ 0)
      have hr0 : i0 ∈ Region.ready .any l.toArray listed := by
        have hil : i0 < l.length := by omega
        rw [mem_ready]
        refine ⟨hu0, l[i0], by simp [hil], fun e he hb => ?_⟩
        have h1 := List.all_eq_true.1 hback i0 (List.mem_range.2 hi0)
        simp only [List.getElem?_eq_getElem hil, Option.map_some, Option.getD_some, Array.all_eq_true_iff_forall_mem] at h1
        have h2 := h1 e he
        simp only [hb, Bool.not_true, Bool.false_or, decide_eq_true_eq] at h2
        have h3 := hb0 e.on h2
        have h4 : e.on < listed.size := by rw [inv.size]; simp; omega
        simpa [h4] using h3
      rw [show f + 1 + (l.length - n) = (f + (l.length - n)) + 1 by omega]
      refine ⟨fun h0 => by rw [h0] at hr0; exact absurd hr0 (by simp), fun i hi => ?_⟩
      have hin : i < n := by
        rcases Nat.lt_or_ge i n with h | h
        · exact h
        · exact absurd hi (tail_waits1 hs hc (by simpa using hn) inv hl0 _ i0 rfl (by rcases Nat.eq_zero_or_pos i0 with e | e; subst e; rw [hl0] at hu0; cases hu0; exact e) hi0 hu0 i h)
      have hun := (mem_ready.1 hi).1
      have hi1 : 1 ≤ i := by rcases Nat.eq_zero_or_pos i with e | e; subst e; rw [hl0] at hun; cases hun; exact e
      obtain ⟨_, o, ho, hafter⟩ := mem_ready.1 hi
      have ho' : l[i]? = some o := by simpa using ho
      refine wpOp_of_list ho (hstep i o hi1 hin ho' vs W _ hR (fun j hj => ?_) (fun v W' hR' hF' => ?_))
      · simp only [Array.any_eq_true', Bool.and_eq_true, decide_eq_true_eq] at hj
        obtain ⟨e, he, hb, rfl⟩ := hj
        have h1 := hafter e he hb
        have hle : e.on < i := by
          have h1 := List.all_eq_true.1 hback i (List.mem_range.2 hin)
          simp only [ho', Option.map_some, Option.getD_some, Array.all_eq_true_iff_forall_mem] at h1
          have h2 := h1 e he
          simpa only [hb, Bool.not_true, Bool.false_or, decide_eq_true_eq] using h2
        have h4 : e.on < listed.size := by rw [inv.size]; simp; omega
        exact hF e.on (by omega) (by simpa [h4] using h1)
      · have hd : o.dst = (l[i]?).bind (·.dst) := by rw [ho']; rfl
        show wpAny P .any l.toArray Q (f + (l.length - n)) (listed.setIfInBounds i true) ((putsTo l vs a n).put o.dst v) W'
        rw [hd, putsTo_put v n vs hin (hdis n (by omega)) (fun m hm => hdis m (by omega))]
        refine ih _ _ _ (inv.set hi hin) (by rw [getD_set_ne true (by omega)]; exact hl0) ?_ (htrans _ _ _ hR hR') (fun j hj hl => ?_)
        · have := cntU_set hun n
          rw [if_pos hin] at this
          omega
        · by_cases e : j = i
          · subst e; rw [if_pos rfl]; exact hF'
          · rw [if_neg e]
            rw [getD_set_ne true (fun h => e h.symm)] at hl
            exact hst j _ _ _ (hF j hj hl) hR'
  refine wp_region_any hm ?_
  have inv0 : HeadInv .any l.toArray n (Array.replicate l.toArray.size false) :=
    ⟨by simp, fun j oj _ hl => (by rw [getD_replicate_false] at hl; cases hl), fun t _ ht => getD_in (by simpa using ht) (getD_replicate_false _ _)⟩
  have hcn : ∀ m, m ≤ l.length → cntU (Array.replicate l.toArray.size false) m = m := by
    intro m
    induction m with
    | zero => intro _; rfl
    | succ m ih =>
      intro hm
      unfold cntU
      rw [ih (by omega)]
      have : (Array.replicate l.toArray.size false).getD m true = false := by
        have : m < l.length := by omega
        simp [this]
      rw [this]
      simp
  have ho0' : l.toArray[0]? = some o0 := by simpa using ho0
  have hr0 : (0 : Nat) ∈ Region.ready .any l.toArray (Array.replicate l.toArray.size false) := by simpa using hrd
  have hu0 := (mem_ready.1 hr0).1
  have hs1 : l.toArray.size = (l.toArray.size - 1) + 1 := by simp; omega
  rw [hs1, ← hs1]
  have hfree : ∀ j oj, l.toArray[j]? = some oj → j ≠ 0 → (Array.replicate l.toArray.size false).getD j true = false → (∀ e ∈ oj.after, Region.binds .any e = true → e.on ≠ 0) → o0.apart l.toArray oj = true := Region.free_spec ho0' hfr
  have key1 := key (n - 1) ((Array.replicate l.toArray.size false).setIfInBounds 0 true) (fun j => if j = 0 then v0 else slotsOf l a j) w.drew (inv0.set hr0 (by omega)) (by
      have : 0 < l.length := by omega
      simp [this]) (by
      have h1 := cntU_set hu0 n
      rw [if_pos (by omega), hcn n (by omega)] at h1
      omega) (hrefl _) (fun j hj hl => by
      by_cases e : j = 0
      · subst e
        show F 0 (if 0 = 0 then v0 else _) _
        rw [if_pos rfl]
        exact hF0 _
      · rw [getD_set_ne true (fun h => e h.symm)] at hl
        have h1 : j < l.length := by omega
        have : (Array.replicate l.toArray.size false).getD j true = false := by simp [h1]
        rw [this] at hl; cases hl)
  have hput : putsTo l (fun j => if j = 0 then v0 else slotsOf l a j) a n = a.put o0.dst v0 := by
    have h1 := putsTo_put (l := l) (a := a) (i := 0) v0 n (slotsOf l a) (by omega) (hdis n (by omega)) (fun m hm => hdis m (by omega))
    rw [putsTo_self] at h1
    rw [← h1, ho0]
    rfl
  rw [hput] at key1
  rw [show n - 1 + (l.length - n) = l.toArray.size - 1 by simp; omega] at key1
  have := wpAny_first (P := P) (ops := l.toArray) (Q := Q) (md := .any) ho0' (Region.noSelect_spec hsel) hQ (l.toArray.size - 1) (Array.replicate l.toArray.size false) a w.drew hfree hr0 hy0 key1
  rw [← hs1] at this
  exact this
end
end Go.Proofs.Ytmkfpkficmmlgaa
