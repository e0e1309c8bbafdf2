/- A region that draws its order: each operation by itself, out of what it waits for; then its tail. -/
import Derived.Test.YtbkkpcignmcjnaaGreatDoorP02
import Derived.StillTailTactics
namespace Go.Proofs.YtbkkpcignmcjnaaGreatDoor
open Go.RowKit
set_option linter.unusedVariables false
set_option linter.unusedSimpArgs false
set_option linter.unnecessarySimpa false

/-- the first n operations have left these values -/
def putsTo (l : List Oper) (vs : Nat → Value) (a : Act) : Nat → Act
  | 0 => a
  | n + 1 => (putsTo l vs a n).put ((l[n]?).bind (·.dst)) (vs n)
theorem putsTo_congr {l : List Oper} {vs us : Nat → Value} {a : Act} : ∀ n, (∀ j, j < n → vs j = us j) → putsTo l vs a n = putsTo l us a n
  | 0, _ => rfl
  | n + 1, h => by
    unfold putsTo
    rw [putsTo_congr n (fun j hj => h j (by omega)), h n (by omega)]
theorem put_put (a : Act) (d : Option Tmp) (u v : Value) : (a.put d u).put d v = a.put d v := by
  cases d with
  | none => rfl
  | some d => simp [Act.put]
/-- no two of the first n write one slot -/
def distinctB (l : List Oper) (n : Nat) : Bool :=
  (List.range n).all fun i => (List.range n).all fun j => decide (i = j) || ((l[i]?).bind (·.dst)).isNone || decide ((l[i]?).bind (·.dst) ≠ (l[j]?).bind (·.dst))
theorem distinct_spec {l : List Oper} {n : Nat} (h : distinctB l n = true) {i j : Nat} (hi : i < n) (hj : j < n) (hne : i ≠ j) : ∀ d, (l[i]?).bind (·.dst) = some d → (l[j]?).bind (·.dst) ≠ some d := by
  intro d hd
  have h1 := List.all_eq_true.1 (List.all_eq_true.1 h i (List.mem_range.2 hi)) j (List.mem_range.2 hj)
  simp only [Bool.or_eq_true, decide_eq_true_eq, hne, false_or, hd, Option.isNone_some, Bool.false_eq_true] at h1
  exact fun e => h1 e.symm
theorem putsTo_put {l : List Oper} {a : Act} {i : Nat} (v : Value) : ∀ (n : Nat) (vs : Nat → Value), i < n → distinctB l n = true → (∀ m, m ≤ n → distinctB l m = true) →
    (putsTo l vs a n).put ((l[i]?).bind (·.dst)) v = putsTo l (fun j => if j = i then v else vs j) a n
  | 0, vs, h, _, _ => absurd h (Nat.not_lt_zero _)
  | n + 1, vs, h, hd, hall => by
    unfold putsTo
    by_cases e : n = i
    · subst e
      rw [put_put, if_pos rfl]
      congr 1
      exact putsTo_congr n (fun j hj => by rw [if_neg (by omega)])
    · rw [if_neg e, ← putsTo_put v n vs (by omega) (hall n (by omega)) (fun m hm => hall m (by omega))]
      exact Act.put_comm _ _ _ (distinct_spec hd (by omega) (by omega) e)
theorem put_same (a : Act) (d : Option Tmp) : a.put d (match d with | some s => a.tmps.getD s undef | none => undef) = a := by
  cases d with
  | none => rfl
  | some s =>
    obtain ⟨t, df⟩ := a
    simp only [Act.put, Act.mk.injEq, and_true]
    apply Array.ext
    · simp
    · intro k h1 h2
      by_cases e : s = k
      · subst e; simp [h2]
      · exact Array.getElem_setIfInBounds_ne h2 e
/-- what the operations' slots hold -/
def slotsOf (l : List Oper) (a : Act) (j : Nat) : Value := match (l[j]?).bind (·.dst) with | some s => a.tmps.getD s undef | none => undef
theorem putsTo_self (l : List Oper) (a : Act) : ∀ n, putsTo l (slotsOf l a) a n = a
  | 0 => rfl
  | n + 1 => by
    unfold putsTo
    rw [putsTo_self l a n]
    exact put_same a _

/-- how many of the first n have not come up -/
def cntU (listed : Array Bool) : Nat → Nat
  | 0 => 0
  | n + 1 => cntU listed n + (if listed.getD n true = true then 0 else 1)
theorem cntU_set {listed : Array Bool} {i : Nat} (hi : listed.getD i true = false) : ∀ n, cntU (listed.setIfInBounds i true) n + (if i < n then 1 else 0) = cntU listed n
  | 0 => rfl
  | n + 1 => by
    have ih := cntU_set hi n
    unfold cntU
    by_cases e : i = n
    · subst e
      have h2 : (listed.setIfInBounds i true).getD i true = true := by
        by_cases hs : i < listed.size
        · simp [hs]
        · simp [hs]
      rw [hi, h2]
      simp at ih ⊢
      exact ih
    · rw [getD_set_ne true e]
      by_cases hl : i < n
      · rw [if_pos hl] at ih; rw [if_pos (by omega : i < n + 1)]; omega
      · rw [if_neg hl] at ih; rw [if_neg (by omega : ¬ i < n + 1)]; omega
theorem cntU_zero {listed : Array Bool} : ∀ n, cntU listed n = 0 → ∀ i, i < n → listed.getD i true = true
  | 0, _, _, h => absurd h (Nat.not_lt_zero _)
  | n + 1, h, i, hi => by
    unfold cntU at h
    by_cases e : i = n
    · subst e
      by_cases h2 : listed.getD i true = true
      · exact h2
      · rw [if_neg h2] at h; omega
    · exact cntU_zero n (by omega) i (by omega)
theorem cntU_first {listed : Array Bool} : ∀ n, cntU listed n ≠ 0 → ∃ i, i < n ∧ listed.getD i true = false ∧ ∀ j, j < i → listed.getD j true = true
  | 0, h => absurd rfl h
  | n + 1, h => by
    by_cases h0 : cntU listed n = 0
    · refine ⟨n, by omega, ?_, cntU_zero n h0⟩
      unfold cntU at h
      rw [h0] at h
      by_cases h2 : listed.getD n true = true
      · rw [if_pos h2] at h; omega
      · simpa using h2
    · obtain ⟨i, h1, h2, h3⟩ := cntU_first n h0
      exact ⟨i, by omega, h2, h3⟩
/-- each of the first n waits for earlier ones alone -/
def backB (md : Region.Mode) (l : List Oper) (n : Nat) : Bool :=
  (List.range n).all fun i => ((l[i]?).map fun o => o.after.all fun e => !Region.binds md e || decide (e.on < i)).getD true
def listedTo (n g : Nat) : Array Bool := (List.replicate n true ++ List.replicate g false).toArray
/-- all that is asked of the region's form -/
def tableB (md : Region.Mode) (l : List Oper) (n : Nat) : Bool :=
  decide (n < l.length) && Region.sinkB md l.toArray n && Region.chainB md l.toArray n && backB md l n && ((List.range (n + 1)).all fun m => distinctB l m) && Region.seqB md l.toArray (l.length - n) n (listedTo n (l.length - n))

section
variable {P : Program}
/-- the post, turned at the normal end -/
def endK (Q : Exit → Act → World → Prop) (K : Act → World → Prop) : Exit → Act → World → Prop
  | .normal, a, w => K a w
  | e, a, w => Q e a w
theorem wp_endK {o : Oper} {a : Act} {w : World} {K : Act → World → Prop} {Q : Exit → Act → World → Prop} (h : o.wp P a w K (endK Q K)) : o.wp P a w K Q := by
  unfold Oper.wp at *
  generalize (execOp a.eval o).run P w = r at *
  cases r with
  | ok n w' =>
    cases n <;> simp only [Oper.upon] at h ⊢ <;>
      first
        | exact h
        | exact Calls.mono h (fun e w'' he => by cases e <;> exact he)
  | halt x w' => cases x <;> simp only [Oper.upon] at h ⊢ <;> exact h
theorem wpOp_of_list {ops : Array Oper} {o : Oper} {i : Nat} {a : Act} {w : World} {K : Act → World → Prop} {Q : Exit → Act → World → Prop} (hi : ops[i]? = some o) (h : wpList P ops (endK Q K) [o] a w) : wpOp P ops Q i K a w := by
  unfold wpOp
  simp only [hi]
  unfold wpList at h
  split
  · rename_i hw
    rw [if_pos hw] at h
    rcases h with h | ⟨h1, h2⟩
    · exact .inl (wp_endK h)
    · exact .inr ⟨h1, h2⟩
  · rename_i hw
    rw [if_neg hw] at h
    exact h

/-- ONE STEP FOR EACH OPERATION: F j v w: what operation j leaves; it stays so while the world goes on by R. -/
theorem wp_region_table {id : Nat} {Q : Exit → Act → World → Prop} {a : Act} {w : World} {l : List Oper} (n : Nat) (hm : P.follows .mixedOrders = true) (hB : tableB .any l n = true)
    (R : World → World → Prop) (hrefl : ∀ w, R w w) (htrans : ∀ a b c, R a b → R b c → R a c) (F : Nat → Value → World → Prop) (hst : ∀ j v W W', F j v W → R W W' → F j v W')
    (hstep : ∀ i o, i < n → l[i]? = some o → ∀ (vs : Nat → Value) (W : World) (Q' : Exit → Act → World → Prop), R w.drew W → (∀ j, (o.after.any fun e => Region.binds .any e && decide (e.on = j)) = true → F j (vs j) W) →
      (∀ v W', R W W' → F i v W' → Q' .normal ((putsTo l vs a n).put o.dst v) W') → wpList P l.toArray Q' [o] (putsTo l vs a n) W)
    (htail : ∀ (vs : Nat → Value) (W : World), R w.drew W → (∀ j, j < n → F j (vs j) W) → wpList P l.toArray Q (l.drop n) (putsTo l vs a n) W) : (Code.region id l.toArray true).wp P Q a w := by
  simp only [tableB, Bool.and_eq_true, decide_eq_true_eq, List.all_eq_true, List.mem_range] at hB
  obtain ⟨⟨⟨⟨⟨hn, hs⟩, hc⟩, hback⟩, hdis⟩, hseq⟩ := hB
  have key : ∀ (f : Nat) (listed : Array Bool) (vs : Nat → Value) (W : World), HeadInv .any l.toArray n listed → cntU listed n = f → R w.drew W → (∀ j, j < n → listed.getD j true = true → F j (vs j) W) →
      wpAny P .any l.toArray Q (f + (l.length - n)) listed (putsTo l vs a n) W := by
    intro f
    induction f with
    | zero =>
      intro listed vs W inv hcnt hR hF
      have hall := cntU_zero n hcnt
      have he : listed = listedTo n (l.length - n) := by
        apply Array.ext
        · rw [inv.size]; simp [listedTo]; omega
        · intro k h1 h2
          by_cases hk : k < n
          · have := hall k hk
            simp only [Array.getD, h1, dif_pos] at this
            rw [show listed[k] = true from this]
            simp [listedTo, hk, List.getElem_append]
          · have hk2 : k < l.toArray.size := by rw [← inv.size]; exact h1
            have := inv.tail k (by omega) hk2
            simp only [Array.getD, h1, dif_pos] at this
            rw [show listed[k] = false from this]
            simp [listedTo, hk, List.getElem_append]
      have h1 := htail vs W hR (fun j hj => hF j hj (hall j hj))
      have hdl : (l.drop n).length = l.length - n := by simp
      have := wpAny_of_seq (P := P) (md := .any) (ops := l.toArray) (Q' := Q) (l.drop n) n listed (putsTo l vs a n) W (fun j => by simp [List.getElem?_drop]) (by rw [hdl, he]; exact hseq) h1
      rw [hdl] at this
      rw [Nat.zero_add]
      exact this
    | succ f ih =>
      intro listed vs W inv hcnt hR hF
      obtain ⟨i0, hi0, hu0, hb0⟩ := cntU_first n (by omega : cntU listed n ≠ 0)
      have hr0 : i0 ∈ Region.ready .any l.toArray listed := by
        have hil : i0 < l.length := by omega
        rw [mem_ready]
        refine ⟨hu0, l[i0], by simp [hil], fun e he hb => ?_⟩
        have h1 := List.all_eq_true.1 hback i0 (List.mem_range.2 hi0)
        simp only [List.getElem?_eq_getElem hil, Option.map_some, Option.getD_some, Array.all_eq_true_iff_forall_mem] at h1
        have h2 := h1 e he
        simp only [hb, Bool.not_true, Bool.false_or, decide_eq_true_eq] at h2
        have h3 := hb0 e.on h2
        have h4 : e.on < listed.size := by rw [inv.size]; simp; omega
        simpa [h4] using h3
      rw [show f + 1 + (l.length - n) = (f + (l.length - n)) + 1 by omega]
      refine ⟨fun h0 => by rw [h0] at hr0; exact absurd hr0 (by simp), fun i hi => ?_⟩
      have hin : i < n := by
        rcases Nat.lt_or_ge i n with h | h
        · exact h
        · exact absurd hi (tail_waits hs hc (by simpa using hn) inv _ i0 rfl hi0 hu0 i h)
      have hun := (mem_ready.1 hi).1
      obtain ⟨_, o, ho, hafter⟩ := mem_ready.1 hi
      have ho' : l[i]? = some o := by simpa using ho
      refine wpOp_of_list ho (hstep i o hin ho' vs W _ hR (fun j hj => ?_) (fun v W' hR' hF' => ?_))
      · simp only [Array.any_eq_true', Bool.and_eq_true, decide_eq_true_eq] at hj
        obtain ⟨e, he, hb, rfl⟩ := hj
        have h1 := hafter e he hb
        have hle : e.on < i := by
          have h1 := List.all_eq_true.1 hback i (List.mem_range.2 hin)
          simp only [ho', Option.map_some, Option.getD_some, Array.all_eq_true_iff_forall_mem] at h1
          have h2 := h1 e he
          simpa only [hb, Bool.not_true, Bool.false_or, decide_eq_true_eq] using h2
        have h4 : e.on < listed.size := by rw [inv.size]; simp; omega
        exact hF e.on (by omega) (by simpa [h4] using h1)
      · have hd : o.dst = (l[i]?).bind (·.dst) := by rw [ho']; rfl
        show wpAny P .any l.toArray Q (f + (l.length - n)) (listed.setIfInBounds i true) ((putsTo l vs a n).put o.dst v) W'
        rw [hd, putsTo_put v n vs hin (hdis n (by omega)) (fun m hm => hdis m (by omega))]
        refine ih _ _ _ (inv.set hi hin) ?_ (htrans _ _ _ hR hR') (fun j hj hl => ?_)
        · have := cntU_set hun n
          rw [if_pos hin] at this
          omega
        · by_cases e : j = i
          · subst e; rw [if_pos rfl]; exact hF'
          · rw [if_neg e]
            rw [getD_set_ne true (fun h => e h.symm)] at hl
            exact hst j _ _ _ (hF j hj hl) hR'
  refine wp_region_any hm ?_
  have inv0 : HeadInv .any l.toArray n (Array.replicate l.toArray.size false) :=
    ⟨by simp, fun j oj _ hl => (by rw [getD_replicate_false] at hl; cases hl), fun t _ ht => getD_in (by simpa using ht) (getD_replicate_false _ _)⟩
  have hcn : ∀ m, m ≤ l.length → cntU (Array.replicate l.toArray.size false) m = m := by
    intro m
    induction m with
    | zero => intro _; rfl
    | succ m ih =>
      intro hm
      unfold cntU
      rw [ih (by omega)]
      have : (Array.replicate l.toArray.size false).getD m true = false := by
        have : m < l.length := by omega
        simp [this]
      rw [this]
      simp
  have := key n (Array.replicate l.toArray.size false) (slotsOf l a) w.drew inv0 (hcn n (by omega)) (hrefl _) (fun j hj hl => by
    have h1 : j < l.length := by omega
    have : (Array.replicate l.toArray.size false).getD j true = false := by simp [h1]
    rw [this] at hl; cases hl)
  rw [putsTo_self l a n, show n + (l.length - n) = l.toArray.size by simp; omega] at this
  exact this

/-- The same; what the operations make anew ('blk') lies apart. -/
theorem wp_region_table2 {id : Nat} {Q : Exit → Act → World → Prop} {a : Act} {w : World} {l : List Oper} (n : Nat) (hm : P.follows .mixedOrders = true) (hB : tableB .any l n = true)
    (R : World → World → Prop) (hrefl : ∀ w, R w w) (htrans : ∀ a b c, R a b → R b c → R a c) (F : Nat → Value → World → Prop) (hst : ∀ j v W W', F j v W → R W W' → F j v W') (blk : Nat → Value → Option Nat) (hblk : ∀ j v W kb, F j v W → blk j v = some kb → kb < W.heap.size)
    (hstep : ∀ i o, i < n → l[i]? = some o → ∀ (vs : Nat → Value) (W : World) (Q' : Exit → Act → World → Prop), R w.drew W → (∀ j, (o.after.any fun e => Region.binds .any e && decide (e.on = j)) = true → F j (vs j) W) →
      (∀ v W', R W W' → F i v W' → (∀ kb, blk i v = some kb → W.heap.size ≤ kb) → Q' .normal ((putsTo l vs a n).put o.dst v) W') → wpList P l.toArray Q' [o] (putsTo l vs a n) W)
    (htail : ∀ (vs : Nat → Value) (W : World), R w.drew W → (∀ j, j < n → F j (vs j) W) → (∀ i j kb, i < n → j < n → i ≠ j → blk i (vs i) = some kb → blk j (vs j) ≠ some kb) → wpList P l.toArray Q (l.drop n) (putsTo l vs a n) W) : (Code.region id l.toArray true).wp P Q a w := by
  simp only [tableB, Bool.and_eq_true, decide_eq_true_eq, List.all_eq_true, List.mem_range] at hB
  obtain ⟨⟨⟨⟨⟨hn, hs⟩, hc⟩, hback⟩, hdis⟩, hseq⟩ := hB
  have key : ∀ (f : Nat) (listed : Array Bool) (vs : Nat → Value) (W : World), HeadInv .any l.toArray n listed → cntU listed n = f → R w.drew W → (∀ j, j < n → listed.getD j true = true → F j (vs j) W) → (∀ i j kb, i < n → j < n → i ≠ j → listed.getD i true = true → listed.getD j true = true → blk i (vs i) = some kb → blk j (vs j) ≠ some kb) →
      wpAny P .any l.toArray Q (f + (l.length - n)) listed (putsTo l vs a n) W := by
    intro f
    induction f with
    | zero =>
      intro listed vs W inv hcnt hR hF hD
      have hall := cntU_zero n hcnt
      have he : listed = listedTo n (l.length - n) := by
        apply Array.ext
        · rw [inv.size]; simp [listedTo]; omega
        · intro k h1 h2
          by_cases hk : k < n
          · have := hall k hk
            simp only [Array.getD, h1, dif_pos] at this
            rw [show listed[k] = true from this]
            simp [listedTo, hk, List.getElem_append]
          · have hk2 : k < l.toArray.size := by rw [← inv.size]; exact h1
            have := inv.tail k (by omega) hk2
            simp only [Array.getD, h1, dif_pos] at this
            rw [show listed[k] = false from this]
            simp [listedTo, hk, List.getElem_append]
      have h1 := htail vs W hR (fun j hj => hF j hj (hall j hj)) (fun i j kb hi hj hne => hD i j kb hi hj hne (hall i hi) (hall j hj))
      have hdl : (l.drop n).length = l.length - n := by simp
      have := wpAny_of_seq (P := P) (md := .any) (ops := l.toArray) (Q' := Q) (l.drop n) n listed (putsTo l vs a n) W (fun j => by simp [List.getElem?_drop]) (by rw [hdl, he]; exact hseq) h1
      rw [hdl] at this
      rw [Nat.zero_add]
      exact this
    | succ f ih =>
      intro listed vs W inv hcnt hR hF hD
      obtain ⟨i0, hi0, hu0, hb0⟩ := cntU_first n (by omega : cntU listed n ≠ 0)
      have hr0 : i0 ∈ Region.ready .any l.toArray listed := by
        have hil : i0 < l.length := by omega
        rw [mem_ready]
        refine ⟨hu0, l[i0], by simp [hil], fun e he hb => ?_⟩
        have h1 := List.all_eq_true.1 hback i0 (List.mem_range.2 hi0)
        simp only [List.getElem?_eq_getElem hil, Option.map_some, Option.getD_some, Array.all_eq_true_iff_forall_mem] at h1
        have h2 := h1 e he
        simp only [hb, Bool.not_true, Bool.false_or, decide_eq_true_eq] at h2
        have h3 := hb0 e.on h2
        have h4 : e.on < listed.size := by rw [inv.size]; simp; omega
        simpa [h4] using h3
      rw [show f + 1 + (l.length - n) = (f + (l.length - n)) + 1 by omega]
      refine ⟨fun h0 => by rw [h0] at hr0; exact absurd hr0 (by simp), fun i hi => ?_⟩
      have hin : i < n := by
        rcases Nat.lt_or_ge i n with h | h
        · exact h
        · exact absurd hi (tail_waits hs hc (by simpa using hn) inv _ i0 rfl hi0 hu0 i h)
      have hun := (mem_ready.1 hi).1
      obtain ⟨_, o, ho, hafter⟩ := mem_ready.1 hi
      have ho' : l[i]? = some o := by simpa using ho
      refine wpOp_of_list ho (hstep i o hin ho' vs W _ hR (fun j hj => ?_) (fun v W' hR' hF' hN => ?_))
      · simp only [Array.any_eq_true', Bool.and_eq_true, decide_eq_true_eq] at hj
        obtain ⟨e, he, hb, rfl⟩ := hj
        have h1 := hafter e he hb
        have hle : e.on < i := by
          have h1 := List.all_eq_true.1 hback i (List.mem_range.2 hin)
          simp only [ho', Option.map_some, Option.getD_some, Array.all_eq_true_iff_forall_mem] at h1
          have h2 := h1 e he
          simpa only [hb, Bool.not_true, Bool.false_or, decide_eq_true_eq] using h2
        have h4 : e.on < listed.size := by rw [inv.size]; simp; omega
        exact hF e.on (by omega) (by simpa [h4] using h1)
      · have hd : o.dst = (l[i]?).bind (·.dst) := by rw [ho']; rfl
        show wpAny P .any l.toArray Q (f + (l.length - n)) (listed.setIfInBounds i true) ((putsTo l vs a n).put o.dst v) W'
        rw [hd, putsTo_put v n vs hin (hdis n (by omega)) (fun m hm => hdis m (by omega))]
        refine ih _ _ _ (inv.set hi hin) ?_ (htrans _ _ _ hR hR') (fun j hj hl => ?_) (fun i1 j1 kb hi1 hj1 hne hl1 hl2 hb1 hb2 => ?_)
        · have := cntU_set hun n
          rw [if_pos hin] at this
          omega
        · by_cases e : j = i
          · subst e; rw [if_pos rfl]; exact hF'
          · rw [if_neg e]
            rw [getD_set_ne true (fun h => e h.symm)] at hl
            exact hst j _ _ _ (hF j hj hl) hR'
        · by_cases e1 : i1 = i
          · subst e1
            rw [if_pos rfl] at hb1
            rw [if_neg (fun h => hne h.symm)] at hb2
            rw [getD_set_ne true hne] at hl2
            have h1 := hN kb hb1
            have h2 := hblk _ _ _ _ (hF j1 hj1 hl2) hb2
            omega
          · rw [if_neg e1] at hb1
            rw [getD_set_ne true (fun h => e1 h.symm)] at hl1
            by_cases e2 : j1 = i
            · subst e2
              rw [if_pos rfl] at hb2
              have h1 := hN kb hb2
              have h2 := hblk _ _ _ _ (hF i1 hi1 hl1) hb1
              omega
            · rw [if_neg e2] at hb2
              rw [getD_set_ne true (fun h => e2 h.symm)] at hl2
              exact hD i1 j1 kb hi1 hj1 hne hl1 hl2 hb1 hb2
  refine wp_region_any hm ?_
  have inv0 : HeadInv .any l.toArray n (Array.replicate l.toArray.size false) :=
    ⟨by simp, fun j oj _ hl => (by rw [getD_replicate_false] at hl; cases hl), fun t _ ht => getD_in (by simpa using ht) (getD_replicate_false _ _)⟩
  have hcn : ∀ m, m ≤ l.length → cntU (Array.replicate l.toArray.size false) m = m := by
    intro m
    induction m with
    | zero => intro _; rfl
    | succ m ih =>
      intro hm
      unfold cntU
      rw [ih (by omega)]
      have : (Array.replicate l.toArray.size false).getD m true = false := by
        have : m < l.length := by omega
        simp [this]
      rw [this]
      simp
  have := key n (Array.replicate l.toArray.size false) (slotsOf l a) w.drew inv0 (hcn n (by omega)) (hrefl _) (fun j hj hl => by
    have h1 : j < l.length := by omega
    have : (Array.replicate l.toArray.size false).getD j true = false := by simp [h1]
    rw [this] at hl; cases hl) (fun i j kb hi hj _ hl _ => by
    have h1 : i < l.length := by omega
    have : (Array.replicate l.toArray.size false).getD i true = false := by simp [h1]
    rw [this] at hl; cases hl)
  rw [putsTo_self l a n, show n + (l.length - n) = l.toArray.size by simp; omega] at this
  exact this
end
end Go.Proofs.YtbkkpcignmcjnaaGreatDoor
