/- Layer 7: the steps and the work of statements: numbers; in plain Lean, and as values. -/
import Derived.Test.YtbkkpcignmcjnaaGreatDoorP22
import Derived.Test.YtbkkpcignmcjnaaGreatDoorP28
namespace Go.Proofs.YtbkkpcignmcjnaaGreatDoor
open Go.RowKit
set_option linter.unusedVariables false
set_option linter.unusedSimpArgs false
set_option linter.unnecessarySimpa false

mutual
/-- the parts that bound counts -/
def Ex.pts : Ex → Nat
  | .mk k _ _ l => if k = 0 then 0 else 1 + Ex.ptsL l
def Ex.ptsL : List Ex → Nat
  | [] => 0
  | x :: r => Ex.pts x + Ex.ptsL r
end
theorem may_kind0 {k num regs : Int} {nm : ByteArray} {n : Nat} (h : exLeaf k num nm n regs = true) : k ≠ 0 := by
  intro e; subst e; simp [exLeaf] at h
mutual
theorem Ex.pts_may (regs : Int) : (x : Ex) → x.may regs = true → x.pts = x.cnt
  | .mk k num nm l, h => by
    simp only [Ex.may, Bool.and_eq_true] at h
    have h1 := Ex.ptsL_may regs l h.2
    simp only [Ex.pts, Ex.cnt, if_neg (may_kind0 h.1), h1]
theorem Ex.ptsL_may (regs : Int) : (l : List Ex) → Ex.mayL regs l = true → Ex.ptsL l = Ex.cntL l
  | [], _ => rfl
  | x :: r, h => by
    simp only [Ex.mayL, Bool.and_eq_true] at h
    have h1 := Ex.pts_may regs x h.1
    have h2 := Ex.ptsL_may regs r h.2
    simp only [Ex.ptsL, Ex.cntL, h1, h2]
end
mutual
theorem Ex.pts_le : (x : Ex) → x.pts ≤ x.cnt
  | .mk k num nm l => by
    have h := Ex.ptsL_le l
    simp only [Ex.pts, Ex.cnt]
    split <;> omega
theorem Ex.ptsL_le : (l : List Ex) → Ex.ptsL l ≤ Ex.cntL l
  | [] => Nat.le_refl _
  | x :: r => by
    have h1 := Ex.pts_le x
    have h2 := Ex.ptsL_le r
    simp only [Ex.ptsL, Ex.cntL]; omega
end
/-- one statement's own work -/
def Ex.own (x : Ex) : Nat := 1 + (if x.kind = 0 then 0 else x.cnt)
theorem Ex.own_le (x : Ex) : x.own ≤ 1 + x.cnt := by unfold Ex.own; split <;> omega
mutual
def Ac.stp : Ac → Nat
  | .mk k _ _ _ c t e => if k = 1 then 0 else if k = 10 then max (Ac.stpL t) (Ac.stpL e) else if k = 11 then Ac.stpL t * c.toNat else 1
def Ac.stpL : List Ac → Nat
  | [] => 0
  | x :: r => Ac.stp x + Ac.stpL r
end
mutual
def Ac.wrk : Ac → Nat
  | .mk k _ _ x c t e => x.own + (if k = 10 then max (Ac.wrkL t) (Ac.wrkL e) else if k = 11 then (Ac.wrkL t + 1) * c.toNat else 0)
def Ac.wrkL : List Ac → Nat
  | [] => 0
  | x :: r => Ac.wrk x + Ac.wrkL r
end
mutual
/-- what the counting may lean on -/
def Ac.okc : Ac → Prop
  | .mk _ _ _ x c t e => (0 ≤ c ∧ c ≤ 1000) ∧ x.pts = (if x.kind = 0 then 0 else x.cnt) ∧ Ac.okcL t ∧ Ac.okcL e
def Ac.okcL : List Ac → Prop
  | [] => True
  | x :: r => Ac.okc x ∧ Ac.okcL r
end
theorem Ac.okcL_mem {l : List Ac} (h : Ac.okcL l) {y : Ac} (hy : y ∈ l) : y.okc := by
  induction l with
  | nil => cases hy
  | cons x r ih =>
    simp only [Ac.okcL] at h
    rcases List.mem_cons.1 hy with e | e
    · subst e; exact h.1
    · exact ih h.2 e
theorem Ac.okc_eq {x : Ac} (h : x.okc) : (0 ≤ x.count ∧ x.count ≤ 1000) ∧ x.ex.pts = (if x.ex.kind = 0 then 0 else x.ex.cnt) ∧ Ac.okcL x.thn ∧ Ac.okcL x.els := by
  cases x; simp only [Ac.okc] at h; exact h
theorem Ac.stp_eq (x : Ac) : x.stp = if x.kind = 1 then 0 else if x.kind = 10 then max (Ac.stpL x.thn) (Ac.stpL x.els) else if x.kind = 11 then Ac.stpL x.thn * x.count.toNat else 1 := by
  cases x; simp only [Ac.stp]; rfl
theorem Ac.wrk_eq (x : Ac) : x.wrk = x.ex.own + (if x.kind = 10 then max (Ac.wrkL x.thn) (Ac.wrkL x.els) else if x.kind = 11 then (Ac.wrkL x.thn + 1) * x.count.toNat else 0) := by
  cases x; simp only [Ac.wrk]; rfl
theorem pts_ok {x : Ex} {regs : Int} (h : x.may regs = true ∨ x.none = true) : x.pts = (if x.kind = 0 then 0 else x.cnt) := by
  rcases h with h | h
  · have h1 := Ex.pts_may regs x h
    have h2 := may_kind h
    rw [if_neg h2, h1]
  · cases x with
    | mk k num nm l =>
      simp only [Ex.none, Bool.and_eq_true, beq_iff_eq] at h
      have hk := h.1.1.1
      subst hk
      show Ex.pts (.mk 0 num nm l) = if (0 : Int) = 0 then 0 else _
      simp [Ex.pts]
mutual
theorem Ac.okc_may (u : Un) (regs : Int) : (x : Ac) → Ac.may u regs x = true → x.okc
  | .mk k reg obj ex count t e, h => by
    simp only [Ac.may, Bool.and_eq_true] at h
    have h1 := Ac.okcL_may u regs t h.1.2
    have h2 := Ac.okcL_may u regs e h.2
    have h3 := h.1.1
    unfold acLeaf at h3
    simp only [Bool.and_eq_true] at h3
    obtain ⟨⟨⟨⟨⟨⟨⟨_, _⟩, _⟩, _⟩, hx⟩, hc⟩, _⟩, _⟩ := h3
    simp only [Ac.okc]
    refine ⟨?_, pts_ok (regs := regs) ?_, h1, h2⟩
    · cases hf : (fields k).count
      · rw [hf] at hc
        have : count = 0 := by simpa using hc
        subst this
        exact ⟨by decide, by decide⟩
      · rw [hf] at hc
        simp only [if_true, Bool.and_eq_true, decide_eq_true_eq] at hc
        exact hc
    · cases hf : (fields k).ex
      · rw [hf] at hx; exact .inr (by simpa using hx)
      · rw [hf] at hx; exact .inl (by simpa using hx)
theorem Ac.okcL_may (u : Un) (regs : Int) : (l : List Ac) → Ac.mayL u regs l = true → Ac.okcL l
  | [], _ => trivial
  | x :: r, h => by
    simp only [Ac.mayL, Bool.and_eq_true] at h
    simp only [Ac.okcL]
    exact ⟨Ac.okc_may u regs x h.1, Ac.okcL_may u regs r h.2⟩
end
/-! ### How long the numbers are -/
theorem lt_two (n : Nat) : n + 1 ≤ 2 ^ n := Nat.lt_two_pow_self
mutual
theorem Ac.wrk_lt : (x : Ac) → x.okc → x.wrk + 1 ≤ 2 ^ (11 * x.sz)
  | .mk k reg obj ex c t e, h => by
    simp only [Ac.okc] at h
    have h1 := Ac.wrkL_lt t h.2.2.1
    have h2 := Ac.wrkL_lt e h.2.2.2
    have h3 := Ex.own_le ex
    have hc : c.toNat ≤ 1000 := by omega
    have hq : 2048 * (ex.cnt + 1) ≤ 2 ^ (11 * (1 + ex.cnt)) := by
      have h4 := lt_two (11 * ex.cnt)
      rw [show 11 * (1 + ex.cnt) = 11 + 11 * ex.cnt by omega, Nat.pow_add]
      exact Nat.mul_le_mul (by decide) (by omega)
    simp only [Ac.wrk, Ac.sz]
    rw [Nat.mul_add, Nat.mul_add, Nat.pow_add, Nat.pow_add]
    generalize 2 ^ (11 * (1 + ex.cnt)) = Q at hq ⊢
    generalize 2 ^ (11 * Ac.szL t) = A at h1 ⊢
    generalize 2 ^ (11 * Ac.szL e) = B at h2 ⊢
    have hA : 1 ≤ A := by omega
    have hB : 1 ≤ B := by omega
    have hAB : max A B ≤ A * B := by
      rcases Nat.le_total A B with hh | hh
      · rw [Nat.max_eq_right hh]; exact Nat.le_mul_of_pos_left B hA
      · rw [Nat.max_eq_left hh]; exact Nat.le_mul_of_pos_right A hB
    have hA2 : A ≤ A * B := Nat.le_mul_of_pos_right A hB
    rw [Nat.mul_assoc]
    generalize A * B = P at hAB hA2 ⊢
    have hP : 1 ≤ P := by omega
    have key : ∀ z, z ≤ 1000 * P → ex.own + z + 1 ≤ Q * P := fun z hz => by
      have h5 : 2048 * (ex.cnt + 1) * P ≤ Q * P := Nat.mul_le_mul_right P hq
      have h6 : ex.cnt + 1 ≤ (ex.cnt + 1) * P := Nat.le_mul_of_pos_right _ hP
      rw [Nat.mul_assoc] at h5
      have h7 : P ≤ (ex.cnt + 1) * P := Nat.le_mul_of_pos_left P (by omega)
      omega
    split
    · exact key _ (by omega)
    · split
      · refine key _ ?_
        have h8 : (Ac.wrkL t + 1) * c.toNat ≤ P * 1000 := Nat.mul_le_mul (by omega) hc
        omega
      · exact key 0 (by omega)
theorem Ac.wrkL_lt : (l : List Ac) → Ac.okcL l → Ac.wrkL l + 1 ≤ 2 ^ (11 * Ac.szL l)
  | [], _ => by simp [Ac.wrkL, Ac.szL]
  | x :: r, h => by
    simp only [Ac.okcL] at h
    have h1 := Ac.wrk_lt x h.1
    have h2 := Ac.wrkL_lt r h.2
    simp only [Ac.wrkL, Ac.szL]
    rw [Nat.mul_add, Nat.pow_add]
    have h3 : (x.wrk + 1) * (Ac.wrkL r + 1) ≤ 2 ^ (11 * x.sz) * 2 ^ (11 * Ac.szL r) := Nat.mul_le_mul h1 h2
    have h4 : x.wrk + Ac.wrkL r + 1 ≤ (x.wrk + 1) * (Ac.wrkL r + 1) := by
      rw [Nat.add_mul, Nat.mul_add]; omega
    omega
end
mutual
theorem Ac.stp_le : (x : Ac) → x.stp ≤ x.wrk
  | .mk k reg obj ex c t e => by
    have h1 := Ac.stpL_le t
    have h2 := Ac.stpL_le e
    have h3 : 1 ≤ ex.own := by unfold Ex.own; omega
    simp only [Ac.stp, Ac.wrk]
    split
    · omega
    · split
      · omega
      · split
        · have h4 : Ac.stpL t * c.toNat ≤ (Ac.wrkL t + 1) * c.toNat := Nat.mul_le_mul_right _ (by omega)
          omega
        · omega
theorem Ac.stpL_le : (l : List Ac) → Ac.stpL l ≤ Ac.wrkL l
  | [] => Nat.le_refl _
  | x :: r => by
    have h1 := Ac.stp_le x
    have h2 := Ac.stpL_le r
    simp only [Ac.stpL, Ac.wrkL]; omega
end
theorem pow_mono2 {b n : Nat} (hb : 2 ≤ b) : 2 ^ n ≤ b ^ n := Nat.pow_le_pow_left hb n
/-- all numbers up to one more than the work have so many digits -/
theorem Ac.dlen_le {b : Nat} (hb : 2 ≤ b) {l : List Ac} (h : Ac.okcL l) (hs : Ac.szL l < 1000000000) {m : Nat} (hm : m ≤ Ac.wrkL l + 1) : (dig b m).length ≤ 12000000000 := by
  have h1 := Ac.wrkL_lt l h
  have h2 : m < b ^ (11 * Ac.szL l + 1) := by
    have h3 := pow_mono2 (n := 11 * Ac.szL l) hb
    have h4 : 0 < b ^ (11 * Ac.szL l) := Nat.pow_pos (by omega)
    have h5 : 2 * b ^ (11 * Ac.szL l) ≤ b * b ^ (11 * Ac.szL l) := Nat.mul_le_mul_right _ hb
    rw [Nat.pow_succ, Nat.mul_comm]
    omega
  have := dig_le hb h2
  omega
theorem Ac.stpL_take {l : List Ac} {i : Nat} (hi : i < l.length) : Ac.stpL (l.take (i + 1)) = Ac.stpL (l.take i) + l[i].stp := by
  have key : ∀ (a b : List Ac), Ac.stpL (a ++ b) = Ac.stpL a + Ac.stpL b := by
    intro a b
    induction a with
    | nil => simp [Ac.stpL]
    | cons x r ih => simp only [List.cons_append, Ac.stpL, ih]; omega
  rw [take_at hi, key]; simp [Ac.stpL]
theorem Ac.wrkL_take {l : List Ac} {i : Nat} (hi : i < l.length) : Ac.wrkL (l.take (i + 1)) = Ac.wrkL (l.take i) + l[i].wrk := by
  have key : ∀ (a b : List Ac), Ac.wrkL (a ++ b) = Ac.wrkL a + Ac.wrkL b := by
    intro a b
    induction a with
    | nil => simp [Ac.wrkL]
    | cons x r ih => simp only [List.cons_append, Ac.wrkL, ih]; omega
  rw [take_at hi, key]; simp [Ac.wrkL]
theorem Ac.wrkL_part (l : List Ac) (i : Nat) : Ac.wrkL (l.take i) ≤ Ac.wrkL l := by
  induction l generalizing i with
  | nil => simp
  | cons x r ih =>
    cases i with
    | zero => simp [Ac.wrkL]
    | succ i => have := ih i; simp only [List.take_succ_cons, Ac.wrkL]; omega
theorem Ac.stpL_part (l : List Ac) (i : Nat) : Ac.stpL (l.take i) ≤ Ac.stpL l := by
  induction l generalizing i with
  | nil => simp
  | cons x r ih =>
    cases i with
    | zero => simp [Ac.stpL]
    | succ i => have := ih i; simp only [List.take_succ_cons, Ac.stpL]; omega
/-! ### Numbers as values -/
def NumV (w : World) (F : Nat → Prop) (b n : Nat) (v : Value) : Prop := ∃ ad cap, v = .slice ad (dig b n).length cap ∧ DigAt w F b n ad
theorem NumV.keeps {S F : Nat → Prop} {w w' : World} {b n : Nat} {v : Value} (h : NumV w F b n v) (hk : Keeps S w w') (hS : ∀ k, F k → ¬ S k) : NumV w' F b n v := by
  obtain ⟨ad, cap, e, h1⟩ := h; exact ⟨ad, cap, e, h1.keeps hk hS⟩
theorem NumV.keeps0 {F : Nat → Prop} {w w' : World} {b n : Nat} {v : Value} (h : NumV w F b n v) (hk : Keeps NoBlk w w') : NumV w' F b n v := h.keeps hk (fun _ _ h => h)
theorem NumV.mono {F F' : Nat → Prop} {w : World} {b n : Nat} {v : Value} (h : NumV w F b n v) (hF : ∀ k, F k → F' k) : NumV w F' b n v := by
  obtain ⟨ad, cap, e, h1⟩ := h; exact ⟨ad, cap, e, h1.mono hF⟩
theorem NumV.zero (w : World) (F : Nat → Prop) (b : Nat) : NumV w F b 0 (.slice none 0 0) := ⟨none, 0, by rw [dig_zero]; rfl, DigAt.zero _ _ _ _⟩
theorem NewNum.v {b m : Nat} {w w' : World} {e : Ending} (h : NewNum b m w e w') : ∃ v, e = .returned v ∧ NumV w' (Since w.heap.size w') b m v ∧ Keeps NoBlk w w' := by
  obtain ⟨ad, cap, he, h1, h2⟩ := h; exact ⟨_, he, ⟨ad, cap, rfl, h1⟩, h2⟩
theorem dig_one {b : Nat} (hb : 2 ≤ b) : dig b 1 = [1] := by
  rw [dig_pos hb (by decide), Nat.mod_eq_of_lt (by omega), Nat.div_eq_of_lt (by omega), dig_zero]
theorem NumV.one {b : Nat} (hb : 2 ≤ b) {w : World} {g : Nat} (F : Nat → Prop) (hg : RowAt w g [.int .i64 1]) (hF : F g) : NumV w F b 1 (.slice (some ⟨g, 0, none⟩) 1 1) := by
  refine ⟨some ⟨g, 0, none⟩, 1, by rw [dig_one hb]; rfl, fun i hi => ?_⟩
  rw [dig_one hb] at hi
  have hi0 : i = 0 := by simpa using hi
  subst hi0
  refine ⟨g, 0, rfl, hF, ?_⟩
  rw [Nat.pow_zero, Nat.div_one, Nat.mod_eq_of_lt (by omega)]
  exact hg.cell (k := 0) rfl
end Go.Proofs.YtbkkpcignmcjnaaGreatDoor

/- Layer 7's numbers: sums and products. Printed by gennum.py. -/
namespace Go.Proofs.YtbkkpcignmcjnaaGreatDoor
open Go.RowKit
set_option linter.unusedVariables false
set_option linter.unusedSimpArgs false
set_option linter.unnecessarySimpa false

set_option maxRecDepth 8000 in
set_option maxHeartbeats 1000000 in
theorem plus_any (x y : Nat) (w : World) (F : Nat → Prop) (xa ya : Option Addr) (xc yc : Nat) (hx : DigAt w F 1000000000 x xa) (hy : DigAt w F 1000000000 y ya) (lx : (dig 1000000000 x).length ≤ 100000000000) (ly : (dig 1000000000 y).length ≤ 100000000000) :
    Calls Tryz.prog 54 #[.slice xa (dig 1000000000 x).length xc, .slice ya (dig 1000000000 y).length yc] w (NewNum 1000000000 (x + y) w) := by
  obtain ⟨j0, hj0, hz0, hz1, hz2⟩ := info_parts infoInt
  have HX := Lib.hid hx
  have HY := Lib.hid hy
  obtain ⟨N, hN⟩ : ∃ N, N = (dig 1000000000 (x + y)).length := ⟨_, rfl⟩
  have HN := Lib.hid hN
  obtain ⟨p, hp⟩ : ∃ p, p = (dig 1000000000 x).length := ⟨_, rfl⟩
  obtain ⟨q, hq⟩ : ∃ q, q = (dig 1000000000 y).length := ⟨_, rfl⟩
  have HPQ : Hid (p = (dig 1000000000 x).length ∧ q = (dig 1000000000 y).length) := ⟨hp, hq⟩
  obtain ⟨L, hL⟩ : ∃ L, L = max p q := ⟨_, rfl⟩
  have hmx : max (p : Int) (q : Int) = (L : Int) := by omega
  have hrun : ∀ i, (i < L ∨ 0 < (x % 1000000000 ^ i + y % 1000000000 ^ i) / 1000000000 ^ i) ↔ i < N := fun i => by rw [hL, hp, hq, hN]; exact run_plus (by decide) x y i
  have HRUN := Lib.hid hrun
  have hNL : N ≤ L + 1 := by
    rcases Nat.lt_or_ge (L + 1) N with h | h
    · have h1 := (hrun (L + 1)).2 h
      have hx2 : x < 1000000000 ^ L := Nat.lt_of_not_le fun e => by have := (dig_len_lt (by decide) L x).2 e; omega
      have hy2 : y < 1000000000 ^ L := Nat.lt_of_not_le fun e => by have := (dig_len_lt (by decide) L y).2 e; omega
      have h2 : 1000000000 ^ (L + 1) ≤ x + y := (dig_len_lt (by decide) (L + 1) (x + y)).1 (by omega)
      rw [Nat.pow_succ] at h2
      omega
    · exact h
  unfold NewNum
  rw [← hN]
  rw [← hp] at lx ⊢
  rw [← hq] at ly ⊢
  have hN9 : N ≤ 100000000001 := by omega
  have hL9 : L ≤ 100000000000 := by omega
  clear hN hx hy hp hq hrun hL hNL
  go_enter Tryz.func54, Tryz.ntmps54
  go_wp2_with fail
  go_loopw [5, 6, 7] (fun ov cv iv wr => ∃ (i c : Nat) (da : Option Addr) (dc : Nat), i ≤ N ∧ iv = .int .i64 i ∧ cv = .int .i64 c ∧ ov = .slice da i dc ∧ Hid (c = (x % 1000000000 ^ i + y % 1000000000 ^ i) / 1000000000 ^ i) ∧ c < 2 ∧ Hid (wr.ownsRow 0 3 1 (.slice da i dc) i (digs 1000000000 (x + y) i)) ∧ Hid (Keeps NoBlk w wr) ∧ Hid (∀ kb, (Value.slice da i dc).ownBlock = some kb → w.heap.size ≤ kb)) (fun _ _ iv _ => N - (intOf iv).toNat)
  case atStart => exact ⟨0, 0, none, 0, Nat.zero_le _, rfl, rfl, rfl, by show _ = _; simp [Nat.mod_one], by decide, World.ownsRow_nil _ _ _ _, Keeps.refl _ _, fun kb e => by simp [Value.ownBlock] at e⟩
  case round =>
    obtain ⟨i, c, da, dc, hi, rfl, rfl, rfl, HC, hc2, HO, HK, HB⟩ := hrel
    have hrun := HRUN.out i
    rw [← HC.out] at hrun
    by_cases hlt : i < N
    · have HDG : Hid (∀ W s z, (s = .slice xa p xc ∧ z = x / 1000000000 ^ i % 1000000000 ∨ s = .slice ya q yc ∧ z = y / 1000000000 ^ i % 1000000000) → W = wr → Calls Tryz.prog 42 #[s, .int .i64 i] W fun e w' => e = .returned (.int .i64 (z : Nat)) ∧ W = w') := fun W s z h hW => by
        subst hW
        rcases h with ⟨rfl, rfl⟩ | ⟨rfl, rfl⟩
        · rw [HPQ.out.1]; exact digit_any 1000000000 (by decide) x i _ F xa xc (HX.out.keeps HK.out (fun _ _ h => h))
        · rw [HPQ.out.2]; exact digit_any 1000000000 (by decide) y i _ F ya yc (HY.out.keeps HK.out (fun _ _ h => h))
      have hs := sum_digit (b := 1000000000) (by decide) x y i
      have hcn := carry_plus (b := 1000000000) (by decide) x y (i + 1)
      have hd1 := digit_lt (b := 1000000000) (by decide) x i
      have hd2 := digit_lt (b := 1000000000) (by decide) y i
      rw [← HC.out] at hs
      rw [← hs.2] at hcn
      have HD : Hid ((x / 1000000000 ^ i % 1000000000 + y / 1000000000 ^ i % 1000000000 + c) % 1000000000 = (x + y) / 1000000000 ^ i % 1000000000 ∧ (x / 1000000000 ^ i % 1000000000 + y / 1000000000 ^ i % 1000000000 + c) / 1000000000 = (x % 1000000000 ^ (i + 1) + y % 1000000000 ^ (i + 1)) / 1000000000 ^ (i + 1)) := hs
      have HC2 : Hid ((x / 1000000000 ^ i % 1000000000 + y / 1000000000 ^ i % 1000000000 + c) / 1000000000 < 2) := hcn
      clear hs hcn
      generalize x / 1000000000 ^ i % 1000000000 = d1 at HDG HD hd1 HC2
      generalize y / 1000000000 ^ i % 1000000000 = d2 at HDG HD hd2 HC2
      have hor := hrun.2 hlt
      clear hrun
      have i0 : (0 : Int) ≤ i := by omega
      rcases (show (i < L) ∨ (¬ i < L ∧ 0 < c) by omega) with h | ⟨h, h2⟩
      · have i1 : (i : Int) < L := by omega
        go_wp2_with (first | (at_builtin; refine wpList_append_src _ (by rfl) _ _ 41 (by rfl) 0 3 j0 _ 1 8 Tryz.underlying41 hj0 hz0 hz1 hz2 rfl (by decide) (.slice da i dc) i (digs 1000000000 (x + y) i) (by rfl) (ownsRow_keeps HO.out ((Keeps.refl NoBlk wr).alloc _) (fun _ _ h => h)) (.slice (some ⟨wr.heap.size, 0, none⟩) 1 1) 1 _ (by rfl) (RowAt.src (RowAt.ofBlock (heap_alloc_new wr _))) rfl (by intro q hq; simp only [List.mem_cons, List.not_mem_nil, or_false] at hq; rcases hq with rfl; rfl) (by unfold maxLen; omega) (by omega) (Nat.zero_le _) ?_; intro da2 dc2 w4 ha; have HA := Lib.hid ha; clear ha) | (go_at_call 42; refine (HDG.out _ _ _ (by first | exact .inl ⟨rfl, rfl⟩ | exact .inr ⟨rfl, rfl⟩) rfl).mono ?_; rintro e w2 ⟨rfl, rfl⟩))
        go_roundw
        case rel =>
          obtain ⟨g1, g2, g3⟩ := grow HO.out HK.out HB.out (by rw [← HD.out.1]; congr 1 <;> omega) HA.out
          exact ⟨i + 1, (d1 + d2 + c) / 1000000000, da2, dc2, by omega, by first | rfl | (congr 1 <;> omega), by first | rfl | (congr 1 <;> omega), by go_num, HD.out.2, by have := HC2.out; omega, g1, g2, g3⟩
        case measure => simp [intOf]; omega
      · have i1 : ¬ (i : Int) < L := by omega
        have i2 : (0 : Int) < c := by omega
        go_wp2_with (first | (at_builtin; refine wpList_append_src _ (by rfl) _ _ 41 (by rfl) 0 3 j0 _ 1 8 Tryz.underlying41 hj0 hz0 hz1 hz2 rfl (by decide) (.slice da i dc) i (digs 1000000000 (x + y) i) (by rfl) (ownsRow_keeps HO.out ((Keeps.refl NoBlk wr).alloc _) (fun _ _ h => h)) (.slice (some ⟨wr.heap.size, 0, none⟩) 1 1) 1 _ (by rfl) (RowAt.src (RowAt.ofBlock (heap_alloc_new wr _))) rfl (by intro q hq; simp only [List.mem_cons, List.not_mem_nil, or_false] at hq; rcases hq with rfl; rfl) (by unfold maxLen; omega) (by omega) (Nat.zero_le _) ?_; intro da2 dc2 w4 ha; have HA := Lib.hid ha; clear ha) | (go_at_call 42; refine (HDG.out _ _ _ (by first | exact .inl ⟨rfl, rfl⟩ | exact .inr ⟨rfl, rfl⟩) rfl).mono ?_; rintro e w2 ⟨rfl, rfl⟩))
        go_roundw
        case rel =>
          obtain ⟨g1, g2, g3⟩ := grow HO.out HK.out HB.out (by rw [← HD.out.1]; congr 1 <;> omega) HA.out
          exact ⟨i + 1, (d1 + d2 + c) / 1000000000, da2, dc2, by omega, by first | rfl | (congr 1 <;> omega), by first | rfl | (congr 1 <;> omega), by go_num, HD.out.2, by have := HC2.out; omega, g1, g2, g3⟩
        case measure => simp [intOf]; omega
    · have h1 : ¬ i < L := fun h => hlt (hrun.1 (.inl h))
      have h2 : ¬ 0 < c := fun h => hlt (hrun.1 (.inr h))
      have i1 : ¬ (i : Int) < L := by omega
      have hc0 : c = 0 := by omega
      subst hc0
      clear hrun h1 h2
      obtain rfl : i = N := by omega
      go_wp2_with fail
      go_ret
      first
        | exact ⟨da, dc, by first | rfl | go_num, DigAt.ofRow HO.out HN.out (fun kb e => ⟨HB.out kb e, ownsRow_lt HO.out e⟩), HK.out⟩
        | exact ⟨da, ⟨dc, by first | rfl | go_num⟩, DigAt.ofRow HO.out HN.out (fun kb e => ⟨HB.out kb e, ownsRow_lt HO.out e⟩), HK.out⟩
set_option maxRecDepth 8000 in
set_option maxHeartbeats 1000000 in
theorem times_any (x k : Nat) (w : World) (F : Nat → Prop) (xa : Option Addr) (xc : Nat) (hx : DigAt w F 1000000000 x xa) (lx : (dig 1000000000 x).length ≤ 100000000000) (hk : k ≤ 1000) :
    Calls Tryz.prog 55 #[.slice xa (dig 1000000000 x).length xc, .int .i64 k] w (NewNum 1000000000 (x * k) w) := by
  obtain ⟨j0, hj0, hz0, hz1, hz2⟩ := info_parts infoInt
  by_cases hk0 : k = 0
  · subst hk0
    unfold NewNum
    rw [Nat.mul_zero, dig_zero]
    generalize (dig 1000000000 x).length = p
    clear hx lx
    go_enter Tryz.func55, Tryz.ntmps55
    go_wp2_with fail
    go_ret
    exact ⟨none, 0, rfl, DigAt.zero _ _ _ _, Keeps.refl _ _⟩
  have HX := Lib.hid hx
  have k0 : 0 < k := by omega
  have k0' : ¬ (k : Int) = 0 := by omega
  have k0b : ((k : Int) == 0) = false := by simpa using k0'
  obtain ⟨N, hN⟩ : ∃ N, N = (dig 1000000000 (x * k)).length := ⟨_, rfl⟩
  have HN := Lib.hid hN
  obtain ⟨p, hp⟩ : ∃ p, p = (dig 1000000000 x).length := ⟨_, rfl⟩
  have HPQ : Hid (p = (dig 1000000000 x).length) := hp
  have hrun : ∀ i, (i < p ∨ 0 < x % 1000000000 ^ i * k / 1000000000 ^ i) ↔ i < N := fun i => by rw [hp, hN]; exact run_times (by decide) x k i k0
  have HRUN := Lib.hid hrun
  have hNL : N ≤ p + 1 := by
    rcases Nat.lt_or_ge (p + 1) N with h | h
    · have hx2 : x < 1000000000 ^ p := Nat.lt_of_not_le fun e => by have := (dig_len_lt (by decide) p x).2 e; omega
      have h2 : 1000000000 ^ (p + 1) ≤ x * k := (dig_len_lt (by decide) (p + 1) (x * k)).1 (by omega)
      rw [Nat.pow_succ] at h2
      have h3 : x * k ≤ x * 1000 := Nat.mul_le_mul_left x hk
      omega
    · exact h
  unfold NewNum
  rw [← hN]
  rw [← hp] at lx ⊢
  have hN9 : N ≤ 100000000001 := by omega
  clear hN hx hp hrun hNL hk0
  go_enter Tryz.func55, Tryz.ntmps55
  go_wp2_with fail
  go_loopw [5, 6, 7] (fun ov cv iv wr => ∃ (i c : Nat) (da : Option Addr) (dc : Nat), i ≤ N ∧ iv = .int .i64 i ∧ cv = .int .i64 c ∧ ov = .slice da i dc ∧ Hid (c = x % 1000000000 ^ i * k / 1000000000 ^ i) ∧ c < 1000 ∧ Hid (wr.ownsRow 0 3 1 (.slice da i dc) i (digs 1000000000 (x * k) i)) ∧ Hid (Keeps NoBlk w wr) ∧ Hid (∀ kb, (Value.slice da i dc).ownBlock = some kb → w.heap.size ≤ kb)) (fun _ _ iv _ => N - (intOf iv).toNat)
  case atStart => exact ⟨0, 0, none, 0, Nat.zero_le _, rfl, rfl, rfl, by show _ = _; simp [Nat.mod_one], by decide, World.ownsRow_nil _ _ _ _, Keeps.refl _ _, fun kb e => by simp [Value.ownBlock] at e⟩
  case round =>
    obtain ⟨i, c, da, dc, hi, rfl, rfl, rfl, HC, hc2, HO, HK, HB⟩ := hrel
    have hrun := HRUN.out i
    rw [← HC.out] at hrun
    by_cases hlt : i < N
    · have HDG : Hid (Calls Tryz.prog 42 #[.slice xa p xc, .int .i64 i] wr fun e w' => e = .returned (.int .i64 ((x / 1000000000 ^ i % 1000000000 : Nat) : Int)) ∧ wr = w') := by
        rw [HPQ.out]; exact digit_any 1000000000 (by decide) x i _ F xa xc (HX.out.keeps HK.out (fun _ _ h => h))
      have hs := mul_digit (b := 1000000000) (by decide) x k i
      have hcn := carry_times (b := 1000000000) (by decide) x k (i + 1) k0
      have hd1 := digit_lt (b := 1000000000) (by decide) x i
      rw [← HC.out] at hs
      rw [← hs.2] at hcn
      obtain ⟨m, hm⟩ : ∃ m, m = x / 1000000000 ^ i % 1000000000 * k := ⟨_, rfl⟩
      have hm2 : m ≤ 1000000000 * 1000 := by rw [hm]; exact Nat.mul_le_mul (by omega) hk
      have HD : Hid ((m + c) % 1000000000 = x * k / 1000000000 ^ i % 1000000000 ∧ (m + c) / 1000000000 = x % 1000000000 ^ (i + 1) * k / 1000000000 ^ (i + 1)) := by rw [hm]; exact hs
      have HC2 : Hid ((m + c) / 1000000000 < 1000) := by rw [hm]; show _ < _; omega
      clear hs hcn
      generalize x / 1000000000 ^ i % 1000000000 = d1 at HDG hd1 hm
      have hmi : ((d1 : Int) * (k : Int)) = (m : Int) := by rw [hm, Int.natCast_mul]
      have hor := hrun.2 hlt
      clear hrun hm
      have i0 : (0 : Int) ≤ i := by omega
      rcases (show (i < p) ∨ (¬ i < p ∧ 0 < c) by omega) with h | ⟨h, h2⟩
      · have i1 : (i : Int) < p := by omega
        go_wp2_with (first | (at_builtin; refine wpList_append_src _ (by rfl) _ _ 41 (by rfl) 0 3 j0 _ 1 8 Tryz.underlying41 hj0 hz0 hz1 hz2 rfl (by decide) (.slice da i dc) i (digs 1000000000 (x * k) i) (by rfl) (ownsRow_keeps HO.out ((Keeps.refl NoBlk wr).alloc _) (fun _ _ h => h)) (.slice (some ⟨wr.heap.size, 0, none⟩) 1 1) 1 _ (by rfl) (RowAt.src (RowAt.ofBlock (heap_alloc_new wr _))) rfl (by intro q hq; simp only [List.mem_cons, List.not_mem_nil, or_false] at hq; rcases hq with rfl; rfl) (by unfold maxLen; omega) (by omega) (Nat.zero_le _) ?_; intro da2 dc2 w4 ha; have HA := Lib.hid ha; clear ha) | (go_at_call 42; refine HDG.out.mono ?_; rintro e w2 ⟨rfl, rfl⟩))
        go_roundw
        case rel =>
          obtain ⟨g1, g2, g3⟩ := grow HO.out HK.out HB.out (by rw [← HD.out.1]; congr 1 <;> omega) HA.out
          exact ⟨i + 1, (m + c) / 1000000000, da2, dc2, by omega, by first | rfl | (congr 1 <;> omega), by first | rfl | (congr 1 <;> omega), by go_num, HD.out.2, by have := HC2.out; omega, g1, g2, g3⟩
        case measure => simp [intOf]; omega
      · have i1 : ¬ (i : Int) < p := by omega
        have i2 : (0 : Int) < c := by omega
        go_wp2_with (first | (at_builtin; refine wpList_append_src _ (by rfl) _ _ 41 (by rfl) 0 3 j0 _ 1 8 Tryz.underlying41 hj0 hz0 hz1 hz2 rfl (by decide) (.slice da i dc) i (digs 1000000000 (x * k) i) (by rfl) (ownsRow_keeps HO.out ((Keeps.refl NoBlk wr).alloc _) (fun _ _ h => h)) (.slice (some ⟨wr.heap.size, 0, none⟩) 1 1) 1 _ (by rfl) (RowAt.src (RowAt.ofBlock (heap_alloc_new wr _))) rfl (by intro q hq; simp only [List.mem_cons, List.not_mem_nil, or_false] at hq; rcases hq with rfl; rfl) (by unfold maxLen; omega) (by omega) (Nat.zero_le _) ?_; intro da2 dc2 w4 ha; have HA := Lib.hid ha; clear ha) | (go_at_call 42; refine HDG.out.mono ?_; rintro e w2 ⟨rfl, rfl⟩))
        go_roundw
        case rel =>
          obtain ⟨g1, g2, g3⟩ := grow HO.out HK.out HB.out (by rw [← HD.out.1]; congr 1 <;> omega) HA.out
          exact ⟨i + 1, (m + c) / 1000000000, da2, dc2, by omega, by first | rfl | (congr 1 <;> omega), by first | rfl | (congr 1 <;> omega), by go_num, HD.out.2, by have := HC2.out; omega, g1, g2, g3⟩
        case measure => simp [intOf]; omega
    · have h1 : ¬ i < p := fun h => hlt (hrun.1 (.inl h))
      have h2 : ¬ 0 < c := fun h => hlt (hrun.1 (.inr h))
      have i1 : ¬ (i : Int) < p := by omega
      have hc0 : c = 0 := by omega
      subst hc0
      clear hrun h1 h2
      obtain rfl : i = N := by omega
      go_wp2_with fail
      go_ret
      first
        | exact ⟨da, dc, by first | rfl | go_num, DigAt.ofRow HO.out HN.out (fun kb e => ⟨HB.out kb e, ownsRow_lt HO.out e⟩), HK.out⟩
        | exact ⟨da, ⟨dc, by first | rfl | go_num⟩, DigAt.ofRow HO.out HN.out (fun kb e => ⟨HB.out kb e, ownsRow_lt HO.out e⟩), HK.out⟩
end Go.Proofs.YtbkkpcignmcjnaaGreatDoor
