/- Layer 6: with names in the place of numbers a unit is as right as without; in plain Lean. -/
import Derived.Test.YtbkkpcignmcjnaaGreatDoorP01
namespace Go.Proofs.YtbkkpcignmcjnaaGreatDoor
set_option linter.unusedVariables false
set_option linter.unusedSimpArgs false
set_option linter.unnecessarySimpa false

/-- the one name that is given -/
def xNm : ByteArray := ⟨#[120]⟩
def noNm : ByteArray := ⟨#[]⟩
def isNm (s : ByteArray) : Bool := s.data.toList == [120]
def nameAt (n i : Int) : ByteArray := if 0 ≤ i ∧ i < n then xNm else noNm
theorem nameAt_is (n i : Int) : isNm (nameAt n i) = (decide (0 ≤ i) && decide (i < n)) := by
  unfold nameAt
  split
  · rename_i h; simp [isNm, xNm, h.1, h.2]
  · rename_i h
    by_cases h0 : 0 ≤ i
    · have : ¬ i < n := fun e => h ⟨h0, e⟩
      simp [isNm, noNm, this]
    · simp [isNm, noNm, h0]
theorem noNm_no : noName noNm = true := rfl
theorem noNm_is : isNm noNm = false := rfl
mutual
def Ex.named (regs : Int) : Ex → Ex
  | .mk k num nm l => .mk k (if k = 2 then 0 else num) (if k = 2 then (if noName nm then nameAt regs num else noNm) else nm) (Ex.namedL regs l)
def Ex.namedL (regs : Int) : List Ex → List Ex
  | [] => []
  | x :: r => Ex.named regs x :: Ex.namedL regs r
end
theorem Ex.namedL_map (regs : Int) (l : List Ex) : Ex.namedL regs l = l.map (Ex.named regs) := by
  induction l with
  | nil => rfl
  | cons x r ih => simp [Ex.namedL, ih]
/-- is an expression by its form, without its arguments? -/
def exIs (k num : Int) (nm : ByteArray) (n : Nat) : Bool :=
  if k = 1 then decide (0 ≤ num) && decide (num ≤ 2147483647) && noName nm && n == 0
  else if k = 2 then isNm nm && num == 0 && n == 0
  else decide (3 ≤ k) && decide (k ≤ 17) && n == (if k = 3 ∨ k = 4 then 1 else 2) && num == 0 && noName nm
mutual
def Ex.allIs : Ex → Bool
  | .mk k num nm l => exIs k num nm l.length && Ex.allIsL l
def Ex.allIsL : List Ex → Bool
  | [] => true
  | x :: r => Ex.allIs x && Ex.allIsL r
end
theorem exIs_named (k num regs : Int) (nm : ByteArray) (n : Nat) :
    exIs k (if k = 2 then 0 else num) (if k = 2 then (if noName nm then nameAt regs num else noNm) else nm) n = exLeaf k num nm n regs := by
  unfold exIs exLeaf
  by_cases h1 : k = 1
  · subst h1; simp
  · by_cases h2 : k = 2
    · subst h2
      by_cases h3 : noName nm = true
      · simp [h3, nameAt_is]
      · simp [h3, noNm_is]
    · simp only [h1, h2, if_false]
      cases decide (3 ≤ k) <;> cases decide (k ≤ 17) <;> cases (num == 0) <;> cases noName nm <;> simp
mutual
theorem Ex.allIs_named (regs : Int) : (x : Ex) → Ex.allIs (x.named regs) = x.may regs
  | .mk k num nm l => by
    have h := Ex.allIsL_named regs l
    have hl : (Ex.namedL regs l).length = l.length := by rw [Ex.namedL_map]; simp
    simp only [Ex.named, Ex.allIs, Ex.may, hl, h, exIs_named]
theorem Ex.allIsL_named (regs : Int) : (l : List Ex) → Ex.allIsL (Ex.namedL regs l) = Ex.mayL regs l
  | [] => rfl
  | x :: r => by
    have h1 := Ex.allIs_named regs x
    have h2 := Ex.allIsL_named regs r
    simp only [Ex.namedL, Ex.allIsL, Ex.mayL, h1, h2]
end
mutual
theorem Ex.cnt_named (regs : Int) : (x : Ex) → (x.named regs).cnt = x.cnt
  | .mk k num nm l => by
    have h := Ex.cntL_named regs l
    simp only [Ex.named, Ex.cnt, h]
theorem Ex.cntL_named (regs : Int) : (l : List Ex) → Ex.cntL (Ex.namedL regs l) = Ex.cntL l
  | [] => rfl
  | x :: r => by
    have h1 := Ex.cnt_named regs x
    have h2 := Ex.cntL_named regs r
    simp only [Ex.namedL, Ex.cntL, h1, h2]
end
mutual
theorem Ex.dep_named (regs : Int) : (x : Ex) → (x.named regs).dep = x.dep
  | .mk k num nm l => by
    have h := Ex.depL_named regs l
    simp only [Ex.named, Ex.dep, h]
theorem Ex.depL_named (regs : Int) : (l : List Ex) → Ex.depL (Ex.namedL regs l) = Ex.depL l
  | [] => rfl
  | x :: r => by
    have h1 := Ex.dep_named regs x
    have h2 := Ex.depL_named regs r
    simp only [Ex.namedL, Ex.depL, h1, h2]
end
theorem Ex.there_named (regs : Int) (x : Ex) : (x.named regs).there = x.there := by
  cases x with
  | mk k num nm l =>
    simp only [Ex.named, Ex.there, Ex.namedL_map]
    cases l <;> rfl
theorem Ex.none_named (regs : Int) (x : Ex) : (x.named regs).none = x.none := by
  cases x with
  | mk k num nm l =>
    simp only [Ex.named, Ex.none, Ex.namedL_map]
    by_cases h : k = 0
    · subst h; cases l <;> simp
    · have : (k == 0) = false := by simpa using h
      simp [this]
theorem Ex.kind_named (regs : Int) (x : Ex) : (x.named regs).kind = x.kind := by cases x; rfl
/-! ### Statements -/
def stKind (k reg obj : Int) : Int := if ((fields k).reg = false ∧ reg ≠ 0) ∨ ((fields k).name = false ∧ obj ≠ 0) then 0 else k
def stName (u : Un) (k obj : Int) : ByteArray :=
  if (fields k).name then nameAt (thingsN u k) obj else noNm
mutual
def Ac.named (u : Un) (regs : Int) : Ac → St
  | .mk k reg obj ex count t e => .mk (stKind k reg obj) (if (fields k).reg then nameAt regs reg else noNm) (stName u k obj) (ex.named regs) count (Ac.namedL u regs t) (Ac.namedL u regs e)
def Ac.namedL (u : Un) (regs : Int) : List Ac → List St
  | [] => []
  | x :: r => Ac.named u regs x :: Ac.namedL u regs r
end
theorem Ac.namedL_map (u : Un) (regs : Int) (l : List Ac) : Ac.namedL u regs l = l.map (Ac.named u regs) := by
  induction l with
  | nil => rfl
  | cons x r ih => simp [Ac.namedL, ih]
def isMust (s : ByteArray) (must : Bool) : Bool := must && isNm s || !must && noName s
/-- is a statement by its form, without those within it? -/
def stIs (k : Int) (reg name : ByteArray) (ex : Ex) (count : Int) (nt ne : Nat) : Bool :=
  decide (1 ≤ k ∧ k ≤ 11) && isMust reg (fields k).reg && isMust name (fields k).name && ((fields k).ex && ex.kind != 0 || !(fields k).ex && ex.none) &&
  (count == 0 || (fields k).count && decide (0 < count) && decide (count ≤ 1000)) && ((fields k).thn || nt == 0) && ((fields k).els || ne == 0)
mutual
def St.form : St → Bool
  | .mk k reg name ex count t e => stIs k reg name ex count t.length e.length && (!ex.there || ex.allIs) && St.formL t && St.formL e
def St.formL : List St → Bool
  | [] => true
  | x :: r => St.form x && St.formL r
end
mutual
def St.cnt : St → Nat
  | .mk _ _ _ ex _ t e => 1 + (if ex.there then ex.cnt else 0) + St.cntL t + St.cntL e
def St.cntL : List St → Nat
  | [] => 0
  | x :: r => St.cnt x + St.cntL r
end
mutual
def St.deep (d : Nat) : St → Nat
  | .mk _ _ _ ex _ t e => max (max d (if ex.there then ex.dep else 0)) (max (St.deepL (d + 1) t) (St.deepL (d + 1) e))
def St.deepL (d : Nat) : List St → Nat
  | [] => 0
  | x :: r => max (St.deep d x) (St.deepL d r)
end
theorem may_kind {regs : Int} {x : Ex} (h : x.may regs = true) : x.kind ≠ 0 := by
  cases x with
  | mk k num nm l =>
    intro e
    have e' : k = 0 := e
    subst e'
    simp [Ex.may, exLeaf] at h
theorem fields_in {k : Int} (h : ¬ (1 ≤ k ∧ k ≤ 11)) : fields k = ⟨false, false, false, false, false, false⟩ := by
  unfold fields
  repeat' (first | rw [if_neg (by omega)])
theorem leaf_named (u : Un) (regs k reg obj : Int) (ex : Ex) (count : Int) (nt ne : Nat) :
    (stIs (stKind k reg obj) (if (fields k).reg then nameAt regs reg else noNm) (stName u k obj) (ex.named regs) count nt ne && (!ex.there || ex.may regs)) = acLeaf u regs k reg obj ex count nt ne := by
  by_cases hk : 1 ≤ k ∧ k ≤ 11
  · by_cases hz : ((fields k).reg = false ∧ reg ≠ 0) ∨ ((fields k).name = false ∧ obj ≠ 0)
    · have e1 : stKind k reg obj = 0 := if_pos hz
      have e2 : acLeaf u regs k reg obj ex count nt ne = false := by
        unfold acLeaf
        rcases hz with ⟨h1, h2⟩ | ⟨h1, h2⟩
        · have : (reg == 0) = false := by simpa using h2
          simp [h1, this]
        · have : (obj == 0) = false := by simpa using h2
          simp [h1, this]
      rw [e1, e2]
      simp [stIs]
    · have e1 : stKind k reg obj = k := if_neg hz
      rw [e1]
      have hr : isMust (if (fields k).reg then nameAt regs reg else noNm) (fields k).reg = (if (fields k).reg then decide (0 ≤ reg) && decide (reg < regs) else reg == 0) := by
        cases h : (fields k).reg
        · have : reg = 0 := Classical.byContradiction fun e => hz (.inl ⟨h, e⟩)
          simp [isMust, noNm_no, this]
        · simp [isMust, nameAt_is]
      have hn : isMust (stName u k obj) (fields k).name = (if (fields k).name then decide (0 ≤ obj) && decide (obj < thingsN u k) else obj == 0) := by
        unfold stName
        cases h : (fields k).name
        · have : obj = 0 := Classical.byContradiction fun e => hz (.inr ⟨h, e⟩)
          simp [isMust, noNm_no, this]
        · simp [isMust, nameAt_is]
      have hc : (count == 0 || (fields k).count && decide (0 < count) && decide (count ≤ 1000)) = (if (fields k).count then decide (0 ≤ count) && decide (count ≤ 1000) else count == 0) := by
        cases (fields k).count
        · simp
        · by_cases h0 : count = 0
          · subst h0; simp
          · have h1 : (count == 0) = false := by simpa using h0
            have h2 : decide (0 < count) = decide (0 ≤ count) := by rw [decide_eq_decide]; omega
            simp [h1, h2]
      have hx : (((fields k).ex && (ex.named regs).kind != 0 || !(fields k).ex && (ex.named regs).none) && (!ex.there || ex.may regs)) = (if (fields k).ex then ex.may regs else ex.none) := by
        rw [Ex.kind_named, Ex.none_named]
        cases (fields k).ex
        · cases hn : ex.none
          · simp
          · have : ex.there = false := by
              cases ex with
              | mk a b c l =>
                simp only [Ex.none, Bool.and_eq_true, beq_iff_eq, List.isEmpty_iff] at hn
                simp [Ex.there, hn.1.1.1, hn.2]
            simp [this]
        · cases hm : ex.may regs
          · cases ht : ex.there
            · have : ex.kind = 0 := by
                cases ex with
                | mk a b c l => simp [Ex.there] at ht; exact ht.1
              simp [this]
            · simp
          · have := may_kind hm
            have h1 : (ex.kind != 0) = true := by simpa using this
            simp [h1]
      unfold stIs acLeaf
      rw [hr, hn, hc, ← hx]
      have hk1 : decide (1 ≤ k ∧ k ≤ 11) = true := decide_eq_true hk
      simp only [hk1, decide_eq_true hk.1, decide_eq_true hk.2, Bool.true_and]
      generalize (if (fields k).reg then decide (0 ≤ reg) && decide (reg < regs) else reg == 0) = A
      generalize (if (fields k).name then decide (0 ≤ obj) && decide (obj < thingsN u k) else obj == 0) = B
      generalize ((fields k).ex && (ex.named regs).kind != 0 || !(fields k).ex && (ex.named regs).none) = C
      generalize (if (fields k).count then decide (0 ≤ count) && decide (count ≤ 1000) else count == 0) = D
      generalize ((fields k).thn || nt == 0) = E
      generalize ((fields k).els || ne == 0) = F
      generalize (!ex.there || ex.may regs) = G
      cases A <;> cases B <;> cases C <;> cases D <;> cases E <;> cases F <;> cases G <;> rfl
  · have e2 : acLeaf u regs k reg obj ex count nt ne = false := by
      unfold acLeaf
      have : (decide (1 ≤ k) && decide (k ≤ 11)) = false := by
        by_cases h1 : 1 ≤ k
        · have : ¬ k ≤ 11 := fun e => hk ⟨h1, e⟩
          simp [this]
        · simp [h1]
      rw [this]; simp
    have e1 : ¬ (1 ≤ stKind k reg obj ∧ stKind k reg obj ≤ 11) := by
      unfold stKind
      split
      · omega
      · exact hk
    rw [e2]
    unfold stIs
    rw [decide_eq_false e1]; simp
mutual
theorem Ac.form_named (u : Un) (regs : Int) : (x : Ac) → (x.named u regs).form = x.may u regs
  | .mk k reg obj ex count t e => by
    have h1 := Ac.formL_named u regs t
    have h2 := Ac.formL_named u regs e
    have hl1 : (Ac.namedL u regs t).length = t.length := by rw [Ac.namedL_map]; simp
    have hl2 : (Ac.namedL u regs e).length = e.length := by rw [Ac.namedL_map]; simp
    simp only [Ac.named, St.form, Ac.may, hl1, hl2, h1, h2, Ex.there_named, Ex.allIs_named, leaf_named]
theorem Ac.formL_named (u : Un) (regs : Int) : (l : List Ac) → St.formL (Ac.namedL u regs l) = Ac.mayL u regs l
  | [] => rfl
  | x :: r => by
    have h1 := Ac.form_named u regs x
    have h2 := Ac.formL_named u regs r
    simp only [Ac.namedL, St.formL, Ac.mayL, h1, h2]
end
mutual
theorem Ac.cnt_named (u : Un) (regs : Int) : (x : Ac) → (x.named u regs).cnt = x.cnt
  | .mk k reg obj ex count t e => by
    have h1 := Ac.cntL_named u regs t
    have h2 := Ac.cntL_named u regs e
    simp only [Ac.named, St.cnt, Ac.cnt, h1, h2, Ex.there_named, Ex.cnt_named]
theorem Ac.cntL_named (u : Un) (regs : Int) : (l : List Ac) → St.cntL (Ac.namedL u regs l) = Ac.cntL l
  | [] => rfl
  | x :: r => by
    have h1 := Ac.cnt_named u regs x
    have h2 := Ac.cntL_named u regs r
    simp only [Ac.namedL, St.cntL, Ac.cntL, h1, h2]
end
mutual
theorem Ac.deep_named (u : Un) (regs : Int) (d : Nat) : (x : Ac) → (x.named u regs).deep d = x.deep d
  | .mk k reg obj ex count t e => by
    have h1 := Ac.deepL_named u regs (d + 1) t
    have h2 := Ac.deepL_named u regs (d + 1) e
    simp only [Ac.named, St.deep, Ac.deep, h1, h2, Ex.there_named, Ex.dep_named]
theorem Ac.deepL_named (u : Un) (regs : Int) (d : Nat) : (l : List Ac) → St.deepL d (Ac.namedL u regs l) = Ac.deepL d l
  | [] => rfl
  | x :: r => by
    have h1 := Ac.deep_named u regs d x
    have h2 := Ac.deepL_named u regs d r
    simp only [Ac.namedL, St.deepL, Ac.deepL, h1, h2]
end
end Go.Proofs.YtbkkpcignmcjnaaGreatDoor
