/- Layers 3, 6: the small functions. -/
import Derived.Test.YtbkkpcignmcjnaaGreatDoorP03
import Derived.Test.YtbkkpcignmcjnaaGreatDoorP04
namespace Go.Proofs.YtbkkpcignmcjnaaGreatDoor
open Go.RowKit
set_option linter.unusedVariables false
set_option linter.unusedSimpArgs false
set_option linter.unnecessarySimpa false

theorem noName_iff (s : ByteArray) : noName s = true ↔ s = noNm := by
  constructor
  · intro h
    obtain ⟨a⟩ := s
    have h1 : a.size = 0 := by simpa [noName, ByteArray.size] using h
    have : a = #[] := Array.eq_empty_of_size_eq_zero h1
    subst this
    rfl
  · rintro rfl; rfl
theorem noName_T {s : ByteArray} (h : noName s = true) : s.toList = [] := by
  rw [(noName_iff s).1 h, ByteArray.toList_eq]; rfl
theorem noName_F {s : ByteArray} (h : noName s = false) : ¬ s.toList = [] := by
  intro e
  have : s = noNm := by
    obtain ⟨a⟩ := s
    rw [ByteArray.toList_eq] at e
    have : a = #[] := by simpa using e
    rw [this]; rfl
  rw [this, noNm_no] at h
  cases h
theorem noName_F' {s : ByteArray} (h : noName s = false) : s.toList.isEmpty = false := by
  have := noName_F h
  simpa using this
theorem exNone_any (x : Ex) (w : World) (ad : Option Addr) (cap : Nat) :
    Calls Tryz.prog 67 #[exV x ad cap] w fun e w' => e = .returned (.bool x.none) ∧ Keeps NoBlk w w' := by
  obtain ⟨k, num, nm, l⟩ := x
  show Calls _ _ #[.agg #[.int .i64 k, .int .i64 num, .string nm, .slice ad l.length cap]] _ _
  have hx : Ex.none (.mk k num nm l) = (k == 0 && num == 0 && noName nm && l.isEmpty) := rfl
  rw [hx]
  clear hx
  rcases Classical.em (k = 0) with hk | hk
  · rcases Classical.em (num = 0) with hn | hn
    · cases hs : noName nm
      · have h1 := noName_F hs
        have h2 := noName_F' hs
        go_enter Tryz.func67, Tryz.ntmps67
        go_wp2_with fail
        go_ret
        exact ⟨by simp, (Keeps.refl _ _).alloc _⟩
      · have h1 := noName_T hs
        rcases Nat.eq_zero_or_pos l.length with hl | hl
        · have e0 : l.isEmpty = true := by cases l <;> simp_all
          rw [hl, e0]
          go_enter Tryz.func67, Tryz.ntmps67
          go_wp2_with fail
          go_ret
          exact ⟨by simp [hk, hn], (Keeps.refl _ _).alloc _⟩
        · have e0 : l.isEmpty = false := by cases l <;> simp_all
          have e1 : ¬ ((l.length : Nat) : Int) = 0 := by omega
          have e2 : ¬ l = [] := by intro e; subst e; simp at hl
          rw [e0]
          go_enter Tryz.func67, Tryz.ntmps67
          go_wp2_with fail
          go_ret
          exact ⟨by simp [e2], (Keeps.refl _ _).alloc _⟩
    · have e1 : (num == 0) = false := by simpa using hn
      go_enter Tryz.func67, Tryz.ntmps67
      go_wp2_with fail
      go_ret
      exact ⟨by simp [hn], (Keeps.refl _ _).alloc _⟩
  · have e1 : (k == 0) = false := by simpa using hk
    go_enter Tryz.func67, Tryz.ntmps67
    go_wp2_with fail
    go_ret
    exact ⟨by simp [hk], (Keeps.refl _ _).alloc _⟩
theorem exThere_any (x : Ex) (w : World) (ad : Option Addr) (cap : Nat) :
    Calls Tryz.prog 69 #[exV x ad cap] w fun e w' => e = .returned (.bool x.there) ∧ Keeps NoBlk w w' := by
  obtain ⟨k, num, nm, l⟩ := x
  show Calls _ _ #[.agg #[.int .i64 k, .int .i64 num, .string nm, .slice ad l.length cap]] _ _
  have hx : Ex.there (.mk k num nm l) = (k != 0 || !l.isEmpty) := rfl
  rw [hx]
  clear hx
  rcases Classical.em (k = 0) with hk | hk
  · rcases Nat.eq_zero_or_pos l.length with hl | hl
    · have e0 : l.isEmpty = true := by cases l <;> simp_all
      rw [hl, e0]
      go_enter Tryz.func69, Tryz.ntmps69
      go_wp2_with fail
      go_ret
      exact ⟨by simp [hk], (Keeps.refl _ _).alloc _⟩
    · have e0 : l.isEmpty = false := by cases l <;> simp_all
      have e1 : (0 : Int) < l.length := by omega
      have e2 : ¬ l = [] := by intro e; subst e; simp at hl
      rw [e0]
      go_enter Tryz.func69, Tryz.ntmps69
      go_wp2_with fail
      go_ret
      exact ⟨by simp, (Keeps.refl _ _).alloc _⟩
  · have e1 : (k == 0) = false := by simpa using hk
    go_enter Tryz.func69, Tryz.ntmps69
    go_wp2_with fail
    go_ret
    exact ⟨by simp [hk], (Keeps.refl _ _).alloc _⟩
def flV (f : Fl) : Value := .tuple #[.bool f.reg, .bool f.name, .bool f.ex, .bool f.count, .bool f.thn, .bool f.els]
theorem results_tmp6 {fn : Func} {t u v x y z : Tmp} (h : fn.results = #[.tmp t, .tmp u, .tmp v, .tmp x, .tmp y, .tmp z]) (tmps : Array Value) (P : Program) (w : World) :
    (results fn tmps).run P w = .ok (.tuple #[tmps.getD t undef, tmps.getD u undef, tmps.getD v undef, tmps.getD x undef, tmps.getD y undef, tmps.getD z undef]) w := by
  simp [results, h]
theorem kind_cases (k : Int) : k = 1 ∨ k = 2 ∨ k = 3 ∨ k = 4 ∨ k = 5 ∨ k = 6 ∨ k = 7 ∨ k = 8 ∨ k = 9 ∨ k = 10 ∨ k = 11 ∨ ¬ (1 ≤ k ∧ k ≤ 11) := by omega
theorem fields_any (k : Int) (w : World) :
    Calls Tryz.prog 65 #[.int .i64 k] w fun e w' => e = .returned (flV (fields k)) ∧ Keeps NoBlk w w' := by
  rcases kind_cases k with rfl | rfl | rfl | rfl | rfl | rfl | rfl | rfl | rfl | rfl | rfl | h
  case' inr.inr.inr.inr.inr.inr.inr.inr.inr.inr.inr =>
    rw [fields_in h]
    have n1 : ¬ k = 1 := by omega
    have n2 : ¬ k = 2 := by omega
    have n3 : ¬ k = 3 := by omega
    have n4 : ¬ k = 4 := by omega
    have n5 : ¬ k = 5 := by omega
    have n6 : ¬ k = 6 := by omega
    have n7 : ¬ k = 7 := by omega
    have n8 : ¬ k = 8 := by omega
    have n9 : ¬ k = 9 := by omega
    have n10 : ¬ k = 10 := by omega
    have n11 : ¬ k = 11 := by omega
    clear h
  all_goals (
    go_enter Tryz.func65, Tryz.ntmps65
    go_wp2_with fail
    refine bodyPost_ret (results_tmp6 rfl _ _ _) rfl ?_
    exact ⟨rfl, Keeps.refl _ _⟩)
def hasRegN (k : Int) : Bool := k == 1 || k == 2 || k == 4
def needsN (k : Int) : Int := if 2 ≤ k ∧ k ≤ 4 then 1 else if k = 5 ∨ k = 6 then 2 else if k = 7 ∨ k = 8 then 3 else 0
theorem hasReg_any (k : Int) (w : World) :
    Calls Tryz.prog 82 #[.int .i64 k] w fun e w' => e = .returned (.bool (hasRegN k)) ∧ Keeps NoBlk w w' := by
  rcases (show k = 1 ∨ k = 2 ∨ k = 4 ∨ (¬ k = 1 ∧ ¬ k = 2 ∧ ¬ k = 4) by omega) with rfl | rfl | rfl | ⟨h1, h2, h4⟩
  all_goals (
    go_enter Tryz.func82, Tryz.ntmps82
    go_wp2_with fail
    go_ret
    exact ⟨by simp [hasRegN, *], Keeps.refl _ _⟩)
theorem needs_any (k : Int) (w : World) :
    Calls Tryz.prog 84 #[.int .i64 k] w fun e w' => e = .returned (.int .i64 (needsN k)) ∧ Keeps NoBlk w w' := by
  rcases (show k = 2 ∨ k = 3 ∨ k = 4 ∨ k = 5 ∨ k = 6 ∨ k = 7 ∨ k = 8 ∨ (¬ k = 2 ∧ ¬ k = 3 ∧ ¬ k = 4 ∧ ¬ k = 5 ∧ ¬ k = 6 ∧ ¬ k = 7 ∧ ¬ k = 8) by omega) with rfl | rfl | rfl | rfl | rfl | rfl | rfl | ⟨h2, h3, h4, h5, h6, h7, h8⟩
  case' inr.inr.inr.inr.inr.inr.inr => have e : needsN k = 0 := by unfold needsN; repeat' (first | rw [if_neg (by omega)])
  case' inr.inr.inr.inr.inr.inr.inr => rw [e]
  all_goals (
    go_enter Tryz.func84, Tryz.ntmps84
    go_wp2_with fail
    go_ret
    exact ⟨rfl, Keeps.refl _ _⟩)
/-- so many names -/
def NmsAt (w : World) (F : Nat → Prop) (v : Value) (n : Nat) : Prop := ∃ ad cap, v = .slice ad n cap ∧ ∀ i, i < n → ∃ g o, ad = some ⟨g, o, none⟩ ∧ F g ∧ w.cell? ⟨g, o + i, none⟩ = some (.string xNm)
theorem NmsAt.keeps {S F : Nat → Prop} {w w' : World} {v : Value} {n : Nat} (h : NmsAt w F v n) (hk : Keeps S w w') (hS : ∀ k, F k → ¬ S k) : NmsAt w' F v n := by
  obtain ⟨ad, cap, e, h1⟩ := h
  refine ⟨ad, cap, e, fun i hi => ?_⟩
  obtain ⟨g, o, e1, hg, hc⟩ := h1 i hi
  exact ⟨g, o, e1, hg, hk.cell (p := ⟨g, o + i, none⟩) (hS g hg) hc⟩
theorem at_any {F : Nat → Prop} (v : Value) (n : Nat) (i : Int) (w : World) (h : NmsAt w F v n) :
    Calls Tryz.prog 83 #[v, .int .i64 i] w fun e w' => e = .returned (.string (nameAt n i)) ∧ Keeps NoBlk w w' := by
  obtain ⟨ad, cap, rfl, h1⟩ := h
  rcases (show i < 0 ∨ 0 ≤ i by omega) with h0 | h0
  · have e : nameAt n i = noNm := by unfold nameAt; rw [if_neg (by omega)]
    rw [e]
    go_enter Tryz.func83, Tryz.ntmps83
    go_wp2_with fail
    go_ret
    exact ⟨rfl, Keeps.refl _ _⟩
  · obtain ⟨k, rfl⟩ : ∃ k : Nat, i = k := ⟨i.toNat, by omega⟩
    rcases Nat.lt_or_ge k n with hk | hk
    · have e : nameAt n k = xNm := by unfold nameAt; rw [if_pos (by omega)]
      rw [e]
      obtain ⟨g, o, e1, _, hc⟩ := h1 k hk
      subst e1
      have i2 : (k : Int) < n := by omega
      have i3 : ¬ (n : Int) ≤ k := by omega
      clear h1
      go_enter Tryz.func83, Tryz.ntmps83
      go_wp2_with fail
      go_ret
      exact ⟨rfl, Keeps.refl _ _⟩
    · have e : nameAt n k = noNm := by unfold nameAt; rw [if_neg (by omega)]
      rw [e]
      have i3 : (n : Int) ≤ k := by omega
      clear h1
      go_enter Tryz.func83, Tryz.ntmps83
      go_wp2_with fail
      go_ret
      exact ⟨rfl, Keeps.refl _ _⟩
theorem things_any (u : Un) (k : Int) (w : World) (ca ta : Option Addr) (cc tc : Nat) :
    Calls Tryz.prog 68 #[.int .i64 k, .agg #[.slice ca u.cells.length cc, .int .i64 u.mutexes, .slice ta u.threads.length tc]] w fun e w' => e = .returned (.int .i64 (thingsN u k)) ∧ Keeps NoBlk w w' := by
  rcases (show k = 2 ∨ k = 3 ∨ k = 4 ∨ k = 5 ∨ k = 6 ∨ (¬ k = 2 ∧ ¬ k = 3 ∧ ¬ k = 4 ∧ ¬ k = 5 ∧ ¬ k = 6) by omega) with rfl | rfl | rfl | rfl | rfl | ⟨h2, h3, h4, h5, h6⟩
  case' inr.inr.inr.inr.inr =>
    have e : thingsN u k = u.threads.length := by unfold thingsN; rw [if_neg (by omega), if_neg (by omega)]
    rw [e]
  all_goals (
    go_enter Tryz.func68, Tryz.ntmps68
    go_wp2_with fail
    go_ret
    exact ⟨by first | rfl | simp [thingsN], (Keeps.refl _ _).alloc _⟩)
end Go.Proofs.YtbkkpcignmcjnaaGreatDoor

/- Layer 6: may an expression be? -/
namespace Go.Proofs.YtbkkpcignmcjnaaGreatDoor
open Go.RowKit
set_option linter.unusedVariables false
set_option linter.unusedSimpArgs false
set_option linter.unnecessarySimpa false

theorem Ex.mayL_nil (regs : Int) : Ex.mayL regs [] = true := rfl
/-- a leaf -/
theorem exprMay_one (num : Int) (nm : ByteArray) (n : Nat) (regs : Int) (w : World) (ad : Option Addr) (cap : Nat) :
    Calls Tryz.prog 66 #[.agg #[.int .i64 1, .int .i64 num, .string nm, .slice ad n cap], .int .i64 regs] w fun e w' => e = .returned (.bool (exLeaf 1 num nm n regs)) ∧ Keeps NoBlk w w' := by
  have hx : exLeaf 1 num nm n regs = (decide (0 ≤ num) && decide (num ≤ 2147483647) && noName nm && n == 0) := rfl
  rcases Classical.em (0 ≤ num) with h1 | h1
  · rcases Classical.em (num ≤ 2147483647) with h2 | h2
    · cases hs : noName nm
      · have s1 := noName_F hs
        have s2 := noName_F' hs
        have e0 : exLeaf 1 num nm n regs = false := by rw [hx]; simp [hs]
        rw [e0]; clear hx e0
        go_enter Tryz.func66, Tryz.ntmps66
        go_wp2_with fail
        go_ret
        exact ⟨by first | rfl | simp, (Keeps.refl _ _).alloc _⟩
      · have s1 := noName_T hs
        rcases Classical.em (n = 0) with h3 | h3
        · have e0 : exLeaf 1 num nm n regs = true := by rw [hx]; simp [h1, h2, hs, h3]
          rw [e0]; clear hx e0
          subst h3
          go_enter Tryz.func66, Tryz.ntmps66
          go_wp2_with fail
          go_ret
          exact ⟨by first | rfl | simp, (Keeps.refl _ _).alloc _⟩
        · have h4 : ¬ (n : Int) = 0 := by omega
          have e0 : exLeaf 1 num nm n regs = false := by rw [hx]; simp [h3]
          have H3 := Lib.hid h3
          rw [e0]; clear hx e0
          go_enter Tryz.func66, Tryz.ntmps66
          go_wp2_with fail
          go_ret
          exact ⟨by have := H3.out; first | rfl | (simp; omega), (Keeps.refl _ _).alloc _⟩
    · have e0 : exLeaf 1 num nm n regs = false := by rw [hx]; simp [h2]
      rw [e0]; clear hx e0
      go_enter Tryz.func66, Tryz.ntmps66
      go_wp2_with fail
      go_ret
      exact ⟨by first | rfl | simp, (Keeps.refl _ _).alloc _⟩
  · have e0 : exLeaf 1 num nm n regs = false := by rw [hx]; simp [h1]
    rw [e0]; clear hx e0
    go_enter Tryz.func66, Tryz.ntmps66
    go_wp2_with fail
    go_ret
    exact ⟨by first | rfl | simp, (Keeps.refl _ _).alloc _⟩
theorem exprMay_two (num : Int) (nm : ByteArray) (n : Nat) (regs : Int) (w : World) (ad : Option Addr) (cap : Nat) :
    Calls Tryz.prog 66 #[.agg #[.int .i64 2, .int .i64 num, .string nm, .slice ad n cap], .int .i64 regs] w fun e w' => e = .returned (.bool (exLeaf 2 num nm n regs)) ∧ Keeps NoBlk w w' := by
  have hx : exLeaf 2 num nm n regs = (decide (0 ≤ num) && decide (num < regs) && noName nm && n == 0) := rfl
  rcases Classical.em (0 ≤ num) with h1 | h1
  · rcases Classical.em (num < regs) with h2 | h2
    · cases hs : noName nm
      · have s1 := noName_F hs
        have s2 := noName_F' hs
        have e0 : exLeaf 2 num nm n regs = false := by rw [hx]; simp [hs]
        rw [e0]; clear hx e0
        go_enter Tryz.func66, Tryz.ntmps66
        go_wp2_with fail
        go_ret
        exact ⟨by first | rfl | simp, (Keeps.refl _ _).alloc _⟩
      · have s1 := noName_T hs
        rcases Classical.em (n = 0) with h3 | h3
        · have e0 : exLeaf 2 num nm n regs = true := by rw [hx]; simp [h1, h2, hs, h3]
          rw [e0]; clear hx e0
          subst h3
          go_enter Tryz.func66, Tryz.ntmps66
          go_wp2_with fail
          go_ret
          exact ⟨by first | rfl | simp, (Keeps.refl _ _).alloc _⟩
        · have h4 : ¬ (n : Int) = 0 := by omega
          have e0 : exLeaf 2 num nm n regs = false := by rw [hx]; simp [h3]
          have H3 := Lib.hid h3
          rw [e0]; clear hx e0
          go_enter Tryz.func66, Tryz.ntmps66
          go_wp2_with fail
          go_ret
          exact ⟨by have := H3.out; first | rfl | (simp; omega), (Keeps.refl _ _).alloc _⟩
    · have e0 : exLeaf 2 num nm n regs = false := by rw [hx]; simp [h2]
      rw [e0]; clear hx e0
      go_enter Tryz.func66, Tryz.ntmps66
      go_wp2_with fail
      go_ret
      exact ⟨by first | rfl | simp, (Keeps.refl _ _).alloc _⟩
  · have e0 : exLeaf 2 num nm n regs = false := by rw [hx]; simp [h1]
    rw [e0]; clear hx e0
    go_enter Tryz.func66, Tryz.ntmps66
    go_wp2_with fail
    go_ret
    exact ⟨by first | rfl | simp, (Keeps.refl _ _).alloc _⟩
/-- how many arguments -/
theorem argN_cases (k : Int) : (k = 3) ∨ (k = 4) ∨ (¬ k = 3 ∧ ¬ k = 4) := by omega
theorem exLeaf_else {k num : Int} {nm : ByteArray} {n : Nat} {regs : Int} (h1 : ¬ k = 1) (h2 : ¬ k = 2) :
    exLeaf k num nm n regs = (decide (3 ≤ k) && decide (k ≤ 17) && num == 0 && noName nm && n == (if k = 3 ∨ k = 4 then 1 else 2)) := by
  unfold exLeaf; rw [if_neg h1, if_neg h2]
theorem exprMay_bad (k num : Int) (nm : ByteArray) (n : Nat) (regs : Int) (w : World) (ad : Option Addr) (cap : Nat) (k1 : ¬ k = 1) (k2 : ¬ k = 2) (hb : exLeaf k num nm n regs = false) :
    Calls Tryz.prog 66 #[.agg #[.int .i64 k, .int .i64 num, .string nm, .slice ad n cap], .int .i64 regs] w fun e w' => e = .returned (.bool false) ∧ Keeps NoBlk w w' := by
  rw [exLeaf_else k1 k2] at hb
  rcases Classical.em (k < 1) with h1 | h1
  · have k3 : ¬ k = 3 := by omega
    have k4 : ¬ k = 4 := by omega
    clear hb
    go_enter Tryz.func66, Tryz.ntmps66
    go_wp2_with fail
    go_ret
    exact ⟨rfl, (Keeps.refl _ _).alloc _⟩
  · have h1' : 3 ≤ k := by omega
    rw [decide_eq_true h1'] at hb
    rcases Classical.em (17 < k) with h2 | h2
    · have k3 : ¬ k = 3 := by omega
      have k4 : ¬ k = 4 := by omega
      clear hb
      go_enter Tryz.func66, Tryz.ntmps66
      go_wp2_with fail
      go_ret
      exact ⟨rfl, (Keeps.refl _ _).alloc _⟩
    · have h2' : k ≤ 17 := by omega
      rw [decide_eq_true h2'] at hb
      rcases Classical.em (num = 0) with h3 | h3
      · subst h3
        cases hs : noName nm
        · have s1 := noName_F hs
          have s2 := noName_F' hs
          clear hb
          rcases argN_cases k with rfl | rfl | ⟨k3, k4⟩
          all_goals (
            go_enter Tryz.func66, Tryz.ntmps66
            go_wp2_with fail
            go_ret
            exact ⟨rfl, (Keeps.refl _ _).alloc _⟩)
        · have s1 := noName_T hs
          rw [hs] at hb
          rcases argN_cases k with rfl | rfl | ⟨k3, k4⟩
          · have h5 : ¬ n = 1 := by simpa using hb
            have h6 : ¬ (n : Int) = 1 := by omega
            clear hb
            go_enter Tryz.func66, Tryz.ntmps66
            go_wp2_with fail
            go_ret
            exact ⟨rfl, (Keeps.refl _ _).alloc _⟩
          · have h5 : ¬ n = 1 := by simpa using hb
            have h6 : ¬ (n : Int) = 1 := by omega
            clear hb
            go_enter Tryz.func66, Tryz.ntmps66
            go_wp2_with fail
            go_ret
            exact ⟨rfl, (Keeps.refl _ _).alloc _⟩
          · have h5 : ¬ n = 2 := by simpa [k3, k4] using hb
            have h6 : ¬ (n : Int) = 2 := by omega
            clear hb
            go_enter Tryz.func66, Tryz.ntmps66
            go_wp2_with fail
            go_ret
            exact ⟨rfl, (Keeps.refl _ _).alloc _⟩
      · clear hb
        rcases argN_cases k with rfl | rfl | ⟨k3, k4⟩
        all_goals (
          go_enter Tryz.func66, Tryz.ntmps66
          go_wp2_with fail
          go_ret
          exact ⟨rfl, (Keeps.refl _ _).alloc _⟩)
end Go.Proofs.YtbkkpcignmcjnaaGreatDoor
