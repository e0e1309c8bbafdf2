/- Layers 3, 6, 7: units and programs as trees; which may be; in plain Lean. -/
import Derived.Test.YtbkkpcignmcjnaaGreatDoorRows
namespace Go.Proofs.YtbkkpcignmcjnaaGreatDoor
set_option linter.unusedVariables false
set_option linter.unusedSimpArgs false
set_option linter.unnecessarySimpa false

/-- an expression: its kind, its number, its name, its arguments -/
inductive Ex where
  | mk (kind num : Int) (nm : ByteArray) (args : List Ex)
/-- a statement with numbers -/
inductive Ac where
  | mk (kind reg obj : Int) (ex : Ex) (count : Int) (thn els : List Ac)
/-- a statement with names -/
inductive St where
  | mk (kind : Int) (reg name : ByteArray) (ex : Ex) (count : Int) (thn els : List St)
/-- a thread with numbers -/
structure Bd where
  regs : Int
  acts : List Ac
/-- a unit -/
structure Un where
  cells : List Int
  mutexes : Int
  threads : List Bd

namespace Ex
def kind : Ex → Int | .mk k _ _ _ => k
def num : Ex → Int | .mk _ n _ _ => n
def nm : Ex → ByteArray | .mk _ _ s _ => s
def args : Ex → List Ex | .mk _ _ _ l => l
mutual
/-- how many parts -/
def cnt : Ex → Nat
  | .mk _ _ _ l => 1 + cntL l
def cntL : List Ex → Nat
  | [] => 0
  | x :: r => cnt x + cntL r
end
mutual
/-- how many in one another -/
def dep : Ex → Nat
  | .mk _ _ _ l => depL l + 1
def depL : List Ex → Nat
  | [] => 0
  | x :: r => max (dep x) (depL r)
end
end Ex
/-- is it the empty name? -/
def noName (s : ByteArray) : Bool := s.size == 0
/-- the kinds of expressions that are leaves -/
def exLeaf (k num : Int) (nm : ByteArray) (n : Nat) (regs : Int) : Bool :=
  if k = 1 then decide (0 ≤ num) && decide (num ≤ 2147483647) && noName nm && n == 0
  else if k = 2 then decide (0 ≤ num) && decide (num < regs) && noName nm && n == 0
  else decide (3 ≤ k) && decide (k ≤ 17) && num == 0 && noName nm && n == (if k = 3 ∨ k = 4 then 1 else 2)
mutual
/-- may an expression of a thread of so many registers be? -/
def Ex.may (regs : Int) : Ex → Bool
  | .mk k num nm l => exLeaf k num nm l.length regs && Ex.mayL regs l
def Ex.mayL (regs : Int) : List Ex → Bool
  | [] => true
  | x :: r => Ex.may regs x && Ex.mayL regs r
end
/-- is it the zero one? -/
def Ex.none : Ex → Bool
  | .mk k num nm l => k == 0 && num == 0 && noName nm && l.isEmpty
/-- is it gone through? -/
def Ex.there : Ex → Bool
  | .mk k _ _ l => k != 0 || !l.isEmpty
/-- the fields of a kind -/
structure Fl where
  reg : Bool
  name : Bool
  ex : Bool
  count : Bool
  thn : Bool
  els : Bool
deriving DecidableEq
def fields (k : Int) : Fl :=
  if k = 1 then ⟨true, false, true, false, false, false⟩
  else if k = 2 then ⟨true, true, false, false, false, false⟩
  else if k = 3 then ⟨false, true, true, false, false, false⟩
  else if k = 4 then ⟨true, true, true, false, false, false⟩
  else if 5 ≤ k ∧ k ≤ 8 then ⟨false, true, false, false, false, false⟩
  else if k = 9 then ⟨false, false, true, false, false, false⟩
  else if k = 10 then ⟨false, false, true, false, true, true⟩
  else if k = 11 then ⟨false, false, false, true, true, false⟩
  else ⟨false, false, false, false, false, false⟩
/-- how many things a kind may be about -/
def thingsN (u : Un) (k : Int) : Int := if 2 ≤ k ∧ k ≤ 4 then u.cells.length else if k = 5 ∨ k = 6 then u.mutexes else u.threads.length
/-- a statement, without those within it -/
def acLeaf (u : Un) (regs k reg obj : Int) (ex : Ex) (count : Int) (nt ne : Nat) : Bool :=
  decide (1 ≤ k) && decide (k ≤ 11) &&
  (if (fields k).reg then decide (0 ≤ reg) && decide (reg < regs) else reg == 0) &&
  (if (fields k).name then decide (0 ≤ obj) && decide (obj < thingsN u k) else obj == 0) &&
  (if (fields k).ex then ex.may regs else ex.none) &&
  (if (fields k).count then decide (0 ≤ count) && decide (count ≤ 1000) else count == 0) &&
  ((fields k).thn || nt == 0) && ((fields k).els || ne == 0)
mutual
def Ac.may (u : Un) (regs : Int) : Ac → Bool
  | .mk k reg obj ex count t e => acLeaf u regs k reg obj ex count t.length e.length && Ac.mayL u regs t && Ac.mayL u regs e
def Ac.mayL (u : Un) (regs : Int) : List Ac → Bool
  | [] => true
  | x :: r => Ac.may u regs x && Ac.mayL u regs r
end
mutual
/-- how many statements and parts of expressions -/
def Ac.cnt : Ac → Nat
  | .mk _ _ _ ex _ t e => 1 + (if ex.there then ex.cnt else 0) + Ac.cntL t + Ac.cntL e
def Ac.cntL : List Ac → Nat
  | [] => 0
  | x :: r => Ac.cnt x + Ac.cntL r
end
mutual
/-- how deep, of a statement that stands at a depth -/
def Ac.deep (d : Nat) : Ac → Nat
  | .mk _ _ _ ex _ t e => max (max d (if ex.there then ex.dep else 0)) (max (Ac.deepL (d + 1) t) (Ac.deepL (d + 1) e))
def Ac.deepL (d : Nat) : List Ac → Nat
  | [] => 0
  | x :: r => max (Ac.deep d x) (Ac.deepL d r)
end
def numC (n : Int) : Bool := decide (-2147483647 ≤ n) && decide (n ≤ 2147483647)
/-- may a unit be? -/
def rightU (u : Un) : Bool :=
  decide (1 ≤ u.threads.length) && decide (u.threads.length ≤ 8) && decide (u.cells.length ≤ 8) && decide (0 ≤ u.mutexes) && decide (u.mutexes ≤ 8) && u.cells.all numC &&
  u.threads.all (fun b => decide (0 ≤ b.regs) && decide (b.regs ≤ 8) && Ac.mayL u b.regs b.acts) &&
  decide ((u.threads.map fun b => Ac.deepL 1 b.acts).foldr max 0 ≤ 16) && decide ((u.threads.map fun b => Ac.cntL b.acts).foldr (· + ·) 0 ≤ 500)

/-! ### What the code's walkers see -/
mutual
/-- the parts of an expression from a depth on -/
def Ex.deepAt (d : Nat) : Ex → Nat
  | .mk _ _ _ l => max d (Ex.deepAtL (d + 1) l)
def Ex.deepAtL (d : Nat) : List Ex → Nat
  | [] => 0
  | x :: r => max (Ex.deepAt d x) (Ex.deepAtL d r)
end
mutual
theorem Ex.deepAt_eq (d : Nat) : (x : Ex) → Ex.deepAt d x = d + x.dep - 1
  | .mk k n s l => by
    have h := Ex.deepAtL_eq (d + 1) l
    simp only [Ex.deepAt, Ex.dep]
    rw [h]
    by_cases hl : l = []
    · rw [if_pos hl, hl]; simp only [Ex.depL]; omega
    · rw [if_neg hl]
      have h5 : 1 ≤ Ex.depL l := by
        cases l with
        | nil => exact absurd rfl hl
        | cons y r => cases y; simp only [Ex.depL, Ex.dep]; omega
      omega
theorem Ex.deepAtL_eq (d : Nat) : (l : List Ex) → Ex.deepAtL d l = if l = [] then 0 else d + Ex.depL l - 1
  | [] => rfl
  | x :: r => by
    have h1 := Ex.deepAt_eq d x
    have h2 := Ex.deepAtL_eq d r
    have h3 : 1 ≤ x.dep := by cases x; simp [Ex.dep]
    simp only [Ex.deepAtL, Ex.depL, h1, h2]
    have h4 : ¬ (x :: r = []) := by simp
    rw [if_neg h4]
    by_cases hr : r = []
    · rw [if_pos hr, hr]; simp only [Ex.depL]; omega
    · rw [if_neg hr]
      have h5 : 1 ≤ Ex.depL r := by
        cases r with
        | nil => exact absurd rfl hr
        | cons y r => cases y; simp only [Ex.depL, Ex.dep]; omega
      omega
end
theorem Ex.deep1 (x : Ex) : Ex.deepAt 1 x = x.dep := by rw [Ex.deepAt_eq]; omega
end Go.Proofs.YtbkkpcignmcjnaaGreatDoor

/- Layer 7's numbers: digits, in plain Lean. -/
namespace Go.Proofs.YtbkkpcignmcjnaaGreatDoor
set_option linter.unusedVariables false
set_option linter.unusedSimpArgs false
set_option linter.unnecessarySimpa false

/-- a number's digits, the lowest first, none of them nought at the end -/
def dig (b n : Nat) : List Nat :=
  if h : n = 0 ∨ b < 2 then [] else n % b :: dig b (n / b)
termination_by n
decreasing_by
  have h1 : n ≠ 0 := fun e => h (.inl e)
  have h2 : ¬ b < 2 := fun e => h (.inr e)
  exact Nat.div_lt_self (by omega) (by omega)
theorem dig_zero (b : Nat) : dig b 0 = [] := by rw [dig]; simp
theorem dig_pos {b n : Nat} (hb : 2 ≤ b) (hn : n ≠ 0) : dig b n = n % b :: dig b (n / b) := by
  rw [dig, dif_neg (by omega)]
theorem dig_len_lt {b : Nat} (hb : 2 ≤ b) (i : Nat) : ∀ n, i < (dig b n).length ↔ b ^ i ≤ n := by
  induction i with
  | zero =>
    intro n
    by_cases hn : n = 0
    · subst hn; simp [dig_zero]
    · rw [dig_pos hb hn]; simp; omega
  | succ i ih =>
    intro n
    by_cases hn : n = 0
    · subst hn
      have : 0 < b ^ (i + 1) := Nat.pow_pos (by omega)
      simp [dig_zero]; omega
    · rw [dig_pos hb hn]
      simp only [List.length_cons, Nat.add_lt_add_iff_right]
      rw [ih, Nat.le_div_iff_mul_le (by omega), Nat.pow_succ]
theorem dig_get {b : Nat} (hb : 2 ≤ b) (i : Nat) : ∀ n, (dig b n).getD i 0 = n / b ^ i % b := by
  induction i with
  | zero =>
    intro n
    by_cases hn : n = 0
    · subst hn; simp [dig_zero]
    · rw [dig_pos hb hn]; simp
  | succ i ih =>
    intro n
    by_cases hn : n = 0
    · subst hn; simp [dig_zero]
    · rw [dig_pos hb hn]
      have := ih (n / b)
      rw [List.getD_cons_succ, this, Nat.div_div_eq_div_mul, Nat.pow_succ, Nat.mul_comm b]
/-- the digits, told by their places -/
theorem dig_eq {b n i : Nat} (hb : 2 ≤ b) (h1 : n < b ^ i) (h2 : i = 0 ∨ b ^ (i - 1) ≤ n) : dig b n = (List.range i).map fun j => n / b ^ j % b := by
  have hl : (dig b n).length = i := by
    have a := dig_len_lt hb i n
    rcases h2 with h2 | h2
    · subst h2
      have : n = 0 := by simpa using h1
      subst this; simp [dig_zero]
    · have c := (dig_len_lt hb (i - 1) n).2 h2
      have d : ¬ i < (dig b n).length := fun e => by have := a.1 e; omega
      omega
  apply List.ext_getElem?
  intro j
  by_cases hj : j < i
  · have := dig_get hb j n
    rw [List.getD, List.getElem?_eq_getElem (by omega)] at this
    simp only [Option.getD_some] at this
    rw [List.getElem?_eq_getElem (by omega), this]
    simp [hj]
  · rw [List.getElem?_eq_none (by omega), List.getElem?_eq_none (by simp; omega)]
theorem dig_inj {b m n : Nat} (hb : 2 ≤ b) (h : dig b m = dig b n) : m = n := by
  induction m using Nat.strongRecOn generalizing n with
  | _ m ih =>
    by_cases hm : m = 0
    · subst hm
      by_cases hn : n = 0
      · exact hn.symm
      · rw [dig_zero, dig_pos hb hn] at h; cases h
    · by_cases hn : n = 0
      · subst hn; rw [dig_zero, dig_pos hb hm] at h; cases h
      · rw [dig_pos hb hm, dig_pos hb hn] at h
        injection h with h1 h2
        have h3 := ih (m / b) (Nat.div_lt_self (by omega) (by omega)) h2
        have h4 := Nat.div_add_mod m b
        have h5 := Nat.div_add_mod n b
        rw [← h4, ← h5, h1, h3]
/-- a digit of a sum: of the digits and the carry -/
theorem sum_digit {b : Nat} (hb : 2 ≤ b) (x y i : Nat) :
    (x / b ^ i % b + y / b ^ i % b + (x % b ^ i + y % b ^ i) / b ^ i) % b = (x + y) / b ^ i % b ∧
    (x / b ^ i % b + y / b ^ i % b + (x % b ^ i + y % b ^ i) / b ^ i) / b = (x % b ^ (i + 1) + y % b ^ (i + 1)) / b ^ (i + 1) := by
  have hp : 0 < b ^ i := Nat.pow_pos (by omega)
  have e1 : (x + y) / b ^ i = x / b ^ i + y / b ^ i + (x % b ^ i + y % b ^ i) / b ^ i := by
    have hx := Nat.div_add_mod x (b ^ i)
    have hy := Nat.div_add_mod y (b ^ i)
    have : x + y = x % b ^ i + y % b ^ i + b ^ i * (x / b ^ i + y / b ^ i) := by
      rw [Nat.mul_add]; omega
    rw [this, Nat.add_mul_div_left _ _ hp]; omega
  constructor
  · rw [e1]
    simp [Nat.add_mod]
  · have hx : x % b ^ (i + 1) = x % b ^ i + b ^ i * (x / b ^ i % b) := Nat.mod_pow_succ
    have hy : y % b ^ (i + 1) = y % b ^ i + b ^ i * (y / b ^ i % b) := Nat.mod_pow_succ
    rw [hx, hy, Nat.pow_succ, ← Nat.div_div_eq_div_mul]
    congr 1
    have : x % b ^ i + b ^ i * (x / b ^ i % b) + (y % b ^ i + b ^ i * (y / b ^ i % b)) = x % b ^ i + y % b ^ i + b ^ i * (x / b ^ i % b + y / b ^ i % b) := by rw [Nat.mul_add]; omega
    rw [this, Nat.add_mul_div_left _ _ hp]; omega
/-- a digit of a product -/
theorem mul_digit {b : Nat} (hb : 2 ≤ b) (x k i : Nat) :
    (x / b ^ i % b * k + x % b ^ i * k / b ^ i) % b = x * k / b ^ i % b ∧ (x / b ^ i % b * k + x % b ^ i * k / b ^ i) / b = x % b ^ (i + 1) * k / b ^ (i + 1) := by
  have hp : 0 < b ^ i := Nat.pow_pos (by omega)
  have e1 : x * k / b ^ i = x / b ^ i * k + x % b ^ i * k / b ^ i := by
    have hx := Nat.div_add_mod x (b ^ i)
    have : x * k = x % b ^ i * k + b ^ i * (x / b ^ i * k) := by
      rw [← Nat.mul_assoc, ← Nat.add_mul]; congr 1; omega
    rw [this, Nat.add_mul_div_left _ _ hp]; omega
  constructor
  · rw [e1]
    simp [Nat.add_mod, Nat.mul_mod]
  · have hx : x % b ^ (i + 1) = x % b ^ i + b ^ i * (x / b ^ i % b) := Nat.mod_pow_succ
    rw [hx, Nat.pow_succ, ← Nat.div_div_eq_div_mul]
    congr 1
    have : (x % b ^ i + b ^ i * (x / b ^ i % b)) * k = x % b ^ i * k + b ^ i * (x / b ^ i % b * k) := by rw [Nat.add_mul, Nat.mul_assoc]
    rw [this, Nat.add_mul_div_left _ _ hp]; omega
/-- the highest digit that differs decides -/
theorem cmp_digit {b : Nat} (hb : 2 ≤ b) {x y i : Nat} (h : x / b ^ (i + 1) = y / b ^ (i + 1)) :
    (x / b ^ i % b = y / b ^ i % b → x / b ^ i = y / b ^ i) ∧ (x / b ^ i % b < y / b ^ i % b → x < y) := by
  have hp : 0 < b ^ i := Nat.pow_pos (by omega)
  have ex := Nat.div_add_mod (x / b ^ i) b
  have ey := Nat.div_add_mod (y / b ^ i) b
  rw [Nat.div_div_eq_div_mul, ← Nat.pow_succ] at ex ey
  rw [h] at ex
  refine ⟨fun e => by rw [← ex, ← ey, e], fun e => ?_⟩
  have h1 : x / b ^ i < y / b ^ i := by
    generalize b * (y / b ^ (i + 1)) = z at ex ey
    omega
  exact Nat.lt_of_not_le fun hle => by
    have := Nat.div_le_div_right (c := b ^ i) hle
    omega
/-- in base ten -/
def decL (n : Nat) : List UInt8 := if n = 0 then [48] else ((dig 10 n).reverse.map fun d => UInt8.ofNat (48 + d))
/-- so many digits, noughts ahead -/
def padL : Nat → Nat → List UInt8
  | 0, _ => []
  | k + 1, n => padL k (n / 10) ++ [UInt8.ofNat (48 + n % 10)]
theorem padL_len (k : Nat) : ∀ n, (padL k n).length = k := by
  induction k with
  | zero => intro n; rfl
  | succ k ih => intro n; simp [padL, ih]
/-- digits of a number that is not nought, one more -/
theorem decL_step {n : Nat} (hn : n / 10 ≠ 0) : decL n = decL (n / 10) ++ [UInt8.ofNat (48 + n % 10)] := by
  have h0 : n ≠ 0 := fun e => by subst e; simp at hn
  unfold decL
  rw [if_neg h0, if_neg hn, dig_pos (by decide) h0]
  simp
theorem decL_pad (k : Nat) : ∀ q r, q ≠ 0 → r < 10 ^ k → decL (q * 10 ^ k + r) = decL q ++ padL k r := by
  induction k with
  | zero => intro q r hq hr; simp at hr; subst hr; simp [padL]
  | succ k ih =>
    intro q r hq hr
    have e0 : q * 10 ^ (k + 1) = 10 * (q * 10 ^ k) := by rw [Nat.pow_succ, ← Nat.mul_assoc, Nat.mul_comm]
    have e1 : (q * 10 ^ (k + 1) + r) / 10 = q * 10 ^ k + r / 10 := by rw [e0]; omega
    have e2 : (q * 10 ^ (k + 1) + r) % 10 = r % 10 := by rw [e0]; omega
    have hp : 0 < 10 ^ k := Nat.pow_pos (by decide)
    have hm : 1 ≤ q * 10 ^ k := Nat.mul_pos (by omega) hp
    rw [decL_step (by rw [e1]; omega), e1, e2, ih q (r / 10) hq (by rw [Nat.pow_succ] at hr; omega), padL, List.append_assoc]
/-- what stands ahead of a short one -/
theorem padL_dec (k : Nat) : ∀ r, r < 10 ^ k → 0 < k → padL k r = List.replicate (k - (decL r).length) 48 ++ decL r ∧ (decL r).length ≤ k := by
  induction k with
  | zero => intro r _ h; omega
  | succ k ih =>
    intro r hr _
    by_cases hk : k = 0
    · subst hk
      have hr' : r < 10 := by simpa using hr
      have : decL r = [UInt8.ofNat (48 + r)] := by
        unfold decL
        by_cases h0 : r = 0
        · subst h0; rfl
        · rw [if_neg h0, dig_pos (by decide) h0, show r / 10 = 0 by omega, dig_zero, show r % 10 = r by omega]; rfl
      rw [this]
      simp [padL, show r % 10 = r by omega]
    · have h1 := ih (r / 10) (by rw [Nat.pow_succ] at hr; omega) (by omega)
      by_cases h0 : r / 10 = 0
      · have hr' : r < 10 := by omega
        have e1 : decL r = [UInt8.ofNat (48 + r)] := by
          unfold decL
          by_cases h0 : r = 0
          · subst h0; rfl
          · rw [if_neg h0, dig_pos (by decide) h0, show r / 10 = 0 by omega, dig_zero, show r % 10 = r by omega]; rfl
        have e2 : decL 0 = [48] := rfl
        rw [h0, e2] at h1
        rw [padL, h0, h1.1, e1, show r % 10 = r by omega]
        simp only [List.length_singleton]
        refine ⟨?_, by omega⟩
        rw [show k + 1 - 1 = (k - 1) + 1 by omega, List.replicate_succ', List.append_assoc]
      · have e1 := decL_step h0
        have hl : (decL r).length = (decL (r / 10)).length + 1 := by rw [e1]; simp
        rw [padL, h1.1, hl]
        refine ⟨?_, by omega⟩
        rw [show k + 1 - ((decL (r / 10)).length + 1) = k - (decL (r / 10)).length by omega, List.append_assoc, ← e1]
end Go.Proofs.YtbkkpcignmcjnaaGreatDoor
