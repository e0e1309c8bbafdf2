/- The document's form of an operation. -/
import Derived.Test.YtmkfpkficmmlgaaK27
namespace Go.Proofs.Ytmkfpkficmmlgaa
open Go.RowKit
set_option linter.unusedVariables false
set_option linter.unusedSimpArgs false
set_option linter.unnecessarySimpa false

def wordCells : List Value := opsTab.map fun p => strV p.1
/-- a kind's letter, as the document has it: a blank is nothing -/
def codeR (k : Nat) : UInt8 := if k = 0 then 32 else codeB k
def kr (l : List UInt8) (kd : Nat × Nat × Nat) : Bool := decide (l = [codeR kd.1, codeR kd.2.1, codeR kd.2.2]) && (decide (kd.1 ≤ 6) && decide (kd.2.1 ≤ 6) && decide (kd.2.2 ≤ 6))
def kindStr (kd : Nat × Nat × Nat) : Value := strV [codeR kd.1, codeR kd.2.1, codeR kd.2.2]

set_option maxRecDepth 20000 in
set_option maxHeartbeats 4000000 in
theorem form_any (w : World) (o : Nat) (h1 : 1 ≤ o) (h2 : o ≤ 29) :
    Calls Try.prog 49 #[.int .i64 o] w fun e w' => ∃ S1 : ByteArray, e = .returned (.tuple #[.string S1, kindStr (kindsN o)]) ∧ S1.toList ≠ [] ∧ Keeps NoBlk w w' := by
  obtain ⟨p, hp1, hp2, _⟩ := ops_at h1 h2
  have HC : Hid (wordCells[o]? = some (strV p.1)) := by show _ = _; unfold wordCells; rw [List.getElem?_map, hp1]; rfl
  have HP2 : Hid ((⟨p.1.toArray⟩ : ByteArray).toList ≠ []) := by show _ ≠ _; rw [ByteArray.toList_mk]; exact hp2
  have b1 : decide ((o : Int) < 1) = false := decide_eq_false (by omega)
  have b2 : decide (29 < (o : Int)) = false := decide_eq_false (by omega)
  have i1 : (0 : Int) ≤ o := by omega
  have i2 : (o : Int) < 30 := by omega
  have H12 : Hid (1 ≤ o ∧ o ≤ 29) := ⟨h1, h2⟩
  clear h1 h2 hp1 hp2
  go_enter Try.func49, Try.ntmps49
  go_upto_region 2 with fail
  obtain ⟨wb, hwb⟩ : ∃ z, z = w.heap.size := ⟨_, rfl⟩
  have hrow : RowAt (w.alloc (.cells wordCells.toArray 9)) wb wordCells := by rw [hwb]; exact RowAt.ofBlock (heap_alloc_new w _)
  have hk0 : Keeps NoBlk w (w.alloc (.cells wordCells.toArray 9)) := (Keeps.refl _ _).alloc _
  change Code.wp _ _ _ _ (w.alloc (.cells wordCells.toArray 9))
  rw [← hwb]
  generalize w.alloc (.cells wordCells.toArray 9) = w0 at hrow hk0 ⊢
  have HK0 := Lib.hid hk0
  have o0 := hrow.cell HC.out
  unfold strV at o0
  obtain ⟨S1, hS1⟩ : ∃ S, S = (⟨p.1.toArray⟩ : ByteArray) := ⟨_, rfl⟩
  rw [← hS1] at o0 HP2
  clear hrow hk0 hwb hS1 HC
  go_upto_region 5 with fail
  have h12 := H12.out
  rcases (by omega : o = 1 ∨ o = 2 ∨ o = 3 ∨ o = 4 ∨ o = 18 ∨ o = 19 ∨ o = 20 ∨ o = 21 ∨ o = 22 ∨ o = 23 ∨ o = 24 ∨ o = 25 ∨ o = 26 ∨ o = 27 ∨ o = 28 ∨ o = 29 ∨ (5 ≤ o ∧ o ≤ 17)) with rfl | rfl | rfl | rfl | rfl | rfl | rfl | rfl | rfl | rfl | rfl | rfl | rfl | rfl | rfl | rfl | hd
  · clear b1 b2 i1 i2 o0 H12 h12
    go_wp2_with fail
    go_ret2
    exact ⟨S1, rfl, HP2.out, HK0.out⟩
  · clear b1 b2 i1 i2 o0 H12 h12
    go_wp2_with fail
    go_ret2
    exact ⟨S1, rfl, HP2.out, HK0.out⟩
  · clear b1 b2 i1 i2 o0 H12 h12
    go_wp2_with fail
    go_ret2
    exact ⟨S1, rfl, HP2.out, HK0.out⟩
  · clear b1 b2 i1 i2 o0 H12 h12
    go_wp2_with fail
    go_ret2
    exact ⟨S1, rfl, HP2.out, HK0.out⟩
  · clear b1 b2 i1 i2 o0 H12 h12
    go_wp2_with fail
    go_ret2
    exact ⟨S1, rfl, HP2.out, HK0.out⟩
  · clear b1 b2 i1 i2 o0 H12 h12
    go_wp2_with fail
    go_ret2
    exact ⟨S1, rfl, HP2.out, HK0.out⟩
  · clear b1 b2 i1 i2 o0 H12 h12
    go_wp2_with fail
    go_ret2
    exact ⟨S1, rfl, HP2.out, HK0.out⟩
  · clear b1 b2 i1 i2 o0 H12 h12
    go_wp2_with fail
    go_ret2
    exact ⟨S1, rfl, HP2.out, HK0.out⟩
  · clear b1 b2 i1 i2 o0 H12 h12
    go_wp2_with fail
    go_ret2
    exact ⟨S1, rfl, HP2.out, HK0.out⟩
  · clear b1 b2 i1 i2 o0 H12 h12
    go_wp2_with fail
    go_ret2
    exact ⟨S1, rfl, HP2.out, HK0.out⟩
  · clear b1 b2 i1 i2 o0 H12 h12
    go_wp2_with fail
    go_ret2
    exact ⟨S1, rfl, HP2.out, HK0.out⟩
  · clear b1 b2 i1 i2 o0 H12 h12
    go_wp2_with fail
    go_ret2
    exact ⟨S1, rfl, HP2.out, HK0.out⟩
  · clear b1 b2 i1 i2 o0 H12 h12
    go_wp2_with fail
    go_ret2
    exact ⟨S1, rfl, HP2.out, HK0.out⟩
  · clear b1 b2 i1 i2 o0 H12 h12
    go_wp2_with fail
    go_ret2
    exact ⟨S1, rfl, HP2.out, HK0.out⟩
  · clear b1 b2 i1 i2 o0 H12 h12
    go_wp2_with fail
    go_ret2
    exact ⟨S1, rfl, HP2.out, HK0.out⟩
  · clear b1 b2 i1 i2 o0 H12 h12
    go_wp2_with fail
    go_ret2
    exact ⟨S1, rfl, HP2.out, HK0.out⟩
  · obtain ⟨hd1, hd2⟩ := hd
    have e1 : ((o : Int) == 1) = false := beq_false_of_ne (by omega)
    have e2 : ((o : Int) == 2) = false := beq_false_of_ne (by omega)
    have e3 : ((o : Int) == 3) = false := beq_false_of_ne (by omega)
    have e4 : ((o : Int) == 4) = false := beq_false_of_ne (by omega)
    have e18 : ((o : Int) == 18) = false := beq_false_of_ne (by omega)
    have e19 : ((o : Int) == 19) = false := beq_false_of_ne (by omega)
    have e20 : ((o : Int) == 20) = false := beq_false_of_ne (by omega)
    have e21 : ((o : Int) == 21) = false := beq_false_of_ne (by omega)
    have e22 : ((o : Int) == 22) = false := beq_false_of_ne (by omega)
    have e23 : ((o : Int) == 23) = false := beq_false_of_ne (by omega)
    have e24 : ((o : Int) == 24) = false := beq_false_of_ne (by omega)
    have e25 : ((o : Int) == 25) = false := beq_false_of_ne (by omega)
    have e26 : ((o : Int) == 26) = false := beq_false_of_ne (by omega)
    have e27 : ((o : Int) == 27) = false := beq_false_of_ne (by omega)
    have e28 : ((o : Int) == 28) = false := beq_false_of_ne (by omega)
    have e29 : ((o : Int) == 29) = false := beq_false_of_ne (by omega)
    have HKD : Hid (kindStr (kindsN o) = strV [82, 82, 82]) := by
      show _ = _
      have : kindsN (o : Int) = (2, 2, 2) := by
        unfold kindsN
        repeat rw [if_neg (by omega)]
      rw [this]
      rfl
    clear b1 b2 i1 i2 o0 H12 h12 hd1 hd2
    go_wp2_with fail
    go_ret2
    refine ⟨S1, ?_, HP2.out, HK0.out⟩
    rw [HKD.out]
    rfl
end Go.Proofs.Ytmkfpkficmmlgaa

/- The document's fits; its form out of range. -/
namespace Go.Proofs.Ytmkfpkficmmlgaa
open Go.RowKit
set_option linter.unusedVariables false
set_option linter.unusedSimpArgs false
set_option linter.unnecessarySimpa false

set_option maxRecDepth 20000 in
set_option maxHeartbeats 4000000 in
theorem form_out (w : World) (o : Int) (h : o < 1 ∨ 29 < o) :
    Calls Try.prog 49 #[.int .i64 o] w fun e w' => e = .returned (.tuple #[.string ⟨#[]⟩, .string ⟨#[]⟩]) ∧ Keeps NoBlk w w' := by
  have HX : Hid ((o < 1 ∧ decide (o < 1) = true) ∨ (decide (o < 1) = false ∧ decide (29 < o) = true)) := by
    by_cases h1 : o < 1
    · exact .inl ⟨h1, decide_eq_true h1⟩
    · exact .inr ⟨decide_eq_false h1, decide_eq_true (by omega)⟩
  clear h
  go_enter Try.func49, Try.ntmps49
  go_upto_region 2 with fail
  have hk0 : Keeps NoBlk w (w.alloc (.cells wordCells.toArray 9)) := (Keeps.refl _ _).alloc _
  change Code.wp _ _ _ _ (w.alloc (.cells wordCells.toArray 9))
  generalize w.alloc (.cells wordCells.toArray 9) = w0 at hk0 ⊢
  have HK0 := Lib.hid hk0
  clear hk0
  rcases HX.out with ⟨_, b1⟩ | ⟨b1, b2⟩
  all_goals (
    go_wp2_with fail
    go_ret2
    exact ⟨rfl, HK0.out⟩)

set_option maxRecDepth 8000 in
set_option maxHeartbeats 2000000 in
theorem rfits_any (w : World) (ca ta ia : Option Addr) (cc tc ic : Nat) (x : Img) (c : Cod) (k : Nat) (num : Int) (hk : k ≤ 6) :
    Calls Try.prog 50 #[.int .i64 num, .int .u8 (codeR k).toNat, .agg #[.slice ca x.cells.length cc, .int .i64 x.mutexes, .slice ta x.threads.length tc], .agg #[.int .i64 c.regs, .slice ia c.ins.length ic]] w fun e w' => e = .returned (.bool (fitN x c k num)) ∧ Keeps NoBlk w w' := by
  obtain ⟨nc, hnc⟩ : ∃ n, n = x.cells.length := ⟨_, rfl⟩
  obtain ⟨nt, hnt⟩ : ∃ n, n = x.threads.length := ⟨_, rfl⟩
  obtain ⟨ni, hni⟩ : ∃ n, n = c.ins.length := ⟨_, rfl⟩
  obtain ⟨mu, hmu⟩ : ∃ n, n = x.mutexes := ⟨_, rfl⟩
  obtain ⟨rg, hrg⟩ : ∃ n, n = c.regs := ⟨_, rfl⟩
  obtain ⟨R, hR⟩ : ∃ R, R = fitN x c k num := ⟨_, rfl⟩
  have HFIT : Hid (R = if k = 1 then numN' num else decide (0 ≤ num) && decide (num < if k = 2 then rg else if k = 3 then (ni : Int) else if k = 4 then (nc : Int) else if k = 5 then mu else if k = 6 then (nt : Int) else 1)) := by
    rw [hR, hnc, hnt, hni, hmu, hrg]
    rfl
  rw [← hR, ← hnc, ← hnt, ← hni, ← hmu, ← hrg]
  clear hR hnc hnt hni hmu hrg
  rcases (by omega : k = 0 ∨ k = 1 ∨ k = 2 ∨ k = 3 ∨ k = 4 ∨ k = 5 ∨ k = 6) with rfl | rfl | rfl | rfl | rfl | rfl | rfl
  · show Calls _ _ #[.int .i64 num, .int .u8 32, _, _] _ _
    by_cases hq : (0 : Int) ≤ num
    · have q1 : decide ((0 : Int) ≤ num) = true := decide_eq_true hq
      have HB : Hid (R = decide (num < 1)) := by show _ = _; rw [HFIT.out]; simp [numN', hq]
      clear HFIT hk hq
      go_enter Try.func50, Try.ntmps50
      go_wp2_with fail
      go_ret
      exact ⟨congrArg (fun b => Ending.returned (.bool b)) HB.out.symm, ((Keeps.refl _ _).alloc _).alloc _⟩
    · have q1 : decide ((0 : Int) ≤ num) = false := decide_eq_false hq
      have HB : Hid (R = false) := by show _ = _; rw [HFIT.out]; simp [numN']; omega
      clear HFIT hk hq
      go_enter Try.func50, Try.ntmps50
      go_wp2_with fail
      go_ret
      exact ⟨congrArg (fun b => Ending.returned (.bool b)) HB.out.symm, ((Keeps.refl _ _).alloc _).alloc _⟩
  · show Calls _ _ #[.int .i64 num, .int .u8 78, _, _] _ _
    by_cases hq : (-2147483647 : Int) ≤ num
    · have q1 : decide ((-2147483647 : Int) ≤ num) = true := decide_eq_true hq
      have HB : Hid (R = decide (num ≤ 2147483647)) := by show _ = _; rw [HFIT.out]; simp [numN', hq]
      clear HFIT hk hq
      go_enter Try.func50, Try.ntmps50
      go_wp2_with fail
      go_ret
      exact ⟨congrArg (fun b => Ending.returned (.bool b)) HB.out.symm, ((Keeps.refl _ _).alloc _).alloc _⟩
    · have q1 : decide ((-2147483647 : Int) ≤ num) = false := decide_eq_false hq
      have HB : Hid (R = false) := by show _ = _; rw [HFIT.out]; simp [numN']; omega
      clear HFIT hk hq
      go_enter Try.func50, Try.ntmps50
      go_wp2_with fail
      go_ret
      exact ⟨congrArg (fun b => Ending.returned (.bool b)) HB.out.symm, ((Keeps.refl _ _).alloc _).alloc _⟩
  · show Calls _ _ #[.int .i64 num, .int .u8 82, _, _] _ _
    by_cases hq : (0 : Int) ≤ num
    · have q1 : decide ((0 : Int) ≤ num) = true := decide_eq_true hq
      have HB : Hid (R = decide (num < rg)) := by show _ = _; rw [HFIT.out]; simp [numN', hq]
      clear HFIT hk hq
      go_enter Try.func50, Try.ntmps50
      go_wp2_with fail
      go_ret
      exact ⟨congrArg (fun b => Ending.returned (.bool b)) HB.out.symm, ((Keeps.refl _ _).alloc _).alloc _⟩
    · have q1 : decide ((0 : Int) ≤ num) = false := decide_eq_false hq
      have HB : Hid (R = false) := by show _ = _; rw [HFIT.out]; simp [numN']; omega
      clear HFIT hk hq
      go_enter Try.func50, Try.ntmps50
      go_wp2_with fail
      go_ret
      exact ⟨congrArg (fun b => Ending.returned (.bool b)) HB.out.symm, ((Keeps.refl _ _).alloc _).alloc _⟩
  · show Calls _ _ #[.int .i64 num, .int .u8 73, _, _] _ _
    by_cases hq : (0 : Int) ≤ num
    · have q1 : decide ((0 : Int) ≤ num) = true := decide_eq_true hq
      have HB : Hid (R = decide (num < (ni : Int))) := by show _ = _; rw [HFIT.out]; simp [numN', hq]
      clear HFIT hk hq
      go_enter Try.func50, Try.ntmps50
      go_wp2_with fail
      go_ret
      exact ⟨congrArg (fun b => Ending.returned (.bool b)) HB.out.symm, ((Keeps.refl _ _).alloc _).alloc _⟩
    · have q1 : decide ((0 : Int) ≤ num) = false := decide_eq_false hq
      have HB : Hid (R = false) := by show _ = _; rw [HFIT.out]; simp [numN']; omega
      clear HFIT hk hq
      go_enter Try.func50, Try.ntmps50
      go_wp2_with fail
      go_ret
      exact ⟨congrArg (fun b => Ending.returned (.bool b)) HB.out.symm, ((Keeps.refl _ _).alloc _).alloc _⟩
  · show Calls _ _ #[.int .i64 num, .int .u8 99, _, _] _ _
    by_cases hq : (0 : Int) ≤ num
    · have q1 : decide ((0 : Int) ≤ num) = true := decide_eq_true hq
      have HB : Hid (R = decide (num < (nc : Int))) := by show _ = _; rw [HFIT.out]; simp [numN', hq]
      clear HFIT hk hq
      go_enter Try.func50, Try.ntmps50
      go_wp2_with fail
      go_ret
      exact ⟨congrArg (fun b => Ending.returned (.bool b)) HB.out.symm, ((Keeps.refl _ _).alloc _).alloc _⟩
    · have q1 : decide ((0 : Int) ≤ num) = false := decide_eq_false hq
      have HB : Hid (R = false) := by show _ = _; rw [HFIT.out]; simp [numN']; omega
      clear HFIT hk hq
      go_enter Try.func50, Try.ntmps50
      go_wp2_with fail
      go_ret
      exact ⟨congrArg (fun b => Ending.returned (.bool b)) HB.out.symm, ((Keeps.refl _ _).alloc _).alloc _⟩
  · show Calls _ _ #[.int .i64 num, .int .u8 109, _, _] _ _
    by_cases hq : (0 : Int) ≤ num
    · have q1 : decide ((0 : Int) ≤ num) = true := decide_eq_true hq
      have HB : Hid (R = decide (num < mu)) := by show _ = _; rw [HFIT.out]; simp [numN', hq]
      clear HFIT hk hq
      go_enter Try.func50, Try.ntmps50
      go_wp2_with fail
      go_ret
      exact ⟨congrArg (fun b => Ending.returned (.bool b)) HB.out.symm, ((Keeps.refl _ _).alloc _).alloc _⟩
    · have q1 : decide ((0 : Int) ≤ num) = false := decide_eq_false hq
      have HB : Hid (R = false) := by show _ = _; rw [HFIT.out]; simp [numN']; omega
      clear HFIT hk hq
      go_enter Try.func50, Try.ntmps50
      go_wp2_with fail
      go_ret
      exact ⟨congrArg (fun b => Ending.returned (.bool b)) HB.out.symm, ((Keeps.refl _ _).alloc _).alloc _⟩
  · show Calls _ _ #[.int .i64 num, .int .u8 116, _, _] _ _
    by_cases hq : (0 : Int) ≤ num
    · have q1 : decide ((0 : Int) ≤ num) = true := decide_eq_true hq
      have HB : Hid (R = decide (num < (nt : Int))) := by show _ = _; rw [HFIT.out]; simp [numN', hq]
      clear HFIT hk hq
      go_enter Try.func50, Try.ntmps50
      go_wp2_with fail
      go_ret
      exact ⟨congrArg (fun b => Ending.returned (.bool b)) HB.out.symm, ((Keeps.refl _ _).alloc _).alloc _⟩
    · have q1 : decide ((0 : Int) ≤ num) = false := decide_eq_false hq
      have HB : Hid (R = false) := by show _ = _; rw [HFIT.out]; simp [numN']; omega
      clear HFIT hk hq
      go_enter Try.func50, Try.ntmps50
      go_wp2_with fail
      go_ret
      exact ⟨congrArg (fun b => Ending.returned (.bool b)) HB.out.symm, ((Keeps.refl _ _).alloc _).alloc _⟩
end Go.Proofs.Ytmkfpkficmmlgaa
