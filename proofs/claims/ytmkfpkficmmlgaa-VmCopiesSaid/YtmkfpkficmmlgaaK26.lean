/- asm: fits. -/
import Derived.Test.YtmkfpkficmmlgaaK25
namespace Go.Proofs.Ytmkfpkficmmlgaa
open Go.RowKit
set_option linter.unusedVariables false
set_option linter.unusedSimpArgs false
set_option linter.unnecessarySimpa false

def kdAt (kd : Nat × Nat × Nat) (j : Nat) : Nat := if j = 0 then kd.1 else if j = 1 then kd.2.1 else kd.2.2
def numAt (i : Ins) (j : Nat) : Int := [i.a, i.b, i.c].getD j 0
theorem ins_true {x : Img} {c : Cod} {i : Ins} (h1 : 1 ≤ i.op) (h2 : i.op ≤ 29) (h : ∀ j, j < 3 → fitN x c (kdAt (kindsN i.op) j) (numAt i j) = true) : insN x c i = true := by
  have a0 := h 0 (by decide)
  have a1 := h 1 (by decide)
  have a2 := h 2 (by decide)
  simp [kdAt, numAt] at a0 a1 a2
  simp [insN, h1, h2, a0, a1, a2]
theorem ins_false {x : Img} {c : Cod} {i : Ins} {j : Nat} (hj : j < 3) (h : fitN x c (kdAt (kindsN i.op) j) (numAt i j) = false) : insN x c i = false := by
  rcases (by omega : j = 0 ∨ j = 1 ∨ j = 2) with rfl | rfl | rfl <;> simp [kdAt, numAt] at h <;> simp [insN, h]
theorem ksB_at {l : List UInt8} {kd : Nat × Nat × Nat} (h : ksB l kd = true) {j : Nat} (hj : j < 3) : kdAt kd j ≤ 6 ∧ l.length ≤ 3 ∧ ((kdAt kd j = 0 ∧ l.length ≤ j) ∨ (kdAt kd j ≠ 0 ∧ j < l.length ∧ l[j]? = some (codeB (kdAt kd j)))) := by
  have key : ks1 l j (kdAt kd j) = true := by
    simp only [ksB, Bool.and_eq_true] at h
    rcases (by omega : j = 0 ∨ j = 1 ∨ j = 2) with rfl | rfl | rfl
    · exact h.1.1.2
    · exact h.1.2
    · exact h.2
  have hl : l.length ≤ 3 := by simp only [ksB, Bool.and_eq_true, decide_eq_true_eq] at h; exact h.1.1.1
  simp only [ks1, Bool.and_eq_true, Bool.or_eq_true, decide_eq_true_eq] at key
  refine ⟨key.1, hl, key.2.imp id (fun h => ⟨h.1, (List.getElem?_eq_some_iff.1 h.2).1, h.2⟩)⟩
/-- a letter out of a text -/
theorem str_at (l : List UInt8) (j : Nat) (u : UInt8) (h : l[j]? = some u) (W : World) : (Instr.index 9 (.string ⟨l.toArray⟩) (.int .i64 (j : Int))).run Try.prog W = .ok (.int .u8 u.toNat) W := by
  obtain ⟨hj, e⟩ := List.getElem?_eq_some_iff.1 h
  rw [run_index_string W 9 _ _ _ (by kernel_rfl)]
  have hs : (⟨l.toArray⟩ : ByteArray).size = l.length := by simp [ByteArray.size]
  rw [dif_pos ⟨by omega, by rw [hs]; omega⟩]
  have : ((⟨l.toArray⟩ : ByteArray)[(j : Int).toNat]'(by rw [hs]; omega)) = u := by
    rw [← e]
    simp [ByteArray.getElem_eq_getElem_data]
  rw [this]

set_option maxRecDepth 8000 in
set_option maxHeartbeats 4000000 in
theorem fits_any (w : World) (ca ta ia : Option Addr) (cc tc ic : Nat) (x : Img) (c : Cod) (i : Ins) :
    Calls Try.prog 43 #[.agg #[.slice ca x.cells.length cc, .int .i64 x.mutexes, .slice ta x.threads.length tc], .agg #[.int .i64 c.regs, .slice ia c.ins.length ic], .agg #[.int .i64 i.op, .int .i64 i.a, .int .i64 i.b, .int .i64 i.c]] w fun e w' => e = .returned (.bool (insN x c i)) ∧ Keeps NoBlk w w' := by
  obtain ⟨nc, hnc⟩ : ∃ n, n = x.cells.length := ⟨_, rfl⟩
  obtain ⟨nt, hnt⟩ : ∃ n, n = x.threads.length := ⟨_, rfl⟩
  obtain ⟨ni, hni⟩ : ∃ n, n = c.ins.length := ⟨_, rfl⟩
  obtain ⟨mu, hmu⟩ : ∃ n, n = x.mutexes := ⟨_, rfl⟩
  obtain ⟨rg, hrg⟩ : ∃ n, n = c.regs := ⟨_, rfl⟩
  obtain ⟨op, hop⟩ : ∃ n, n = i.op := ⟨_, rfl⟩
  obtain ⟨na, hna⟩ : ∃ n, n = i.a := ⟨_, rfl⟩
  obtain ⟨nb, hnb⟩ : ∃ n, n = i.b := ⟨_, rfl⟩
  obtain ⟨nn, hnn⟩ : ∃ n, n = i.c := ⟨_, rfl⟩
  have HE : Hid (nc = x.cells.length ∧ nt = x.threads.length ∧ ni = c.ins.length ∧ mu = x.mutexes ∧ rg = c.regs ∧ op = i.op ∧ na = i.a ∧ nb = i.b ∧ nn = i.c) := ⟨hnc, hnt, hni, hmu, hrg, hop, hna, hnb, hnn⟩
  rw [← hnc, ← hnt, ← hni, ← hmu, ← hrg, ← hop, ← hna, ← hnb, ← hnn]
  obtain ⟨R, hR⟩ : ∃ R, R = insN x c i := ⟨_, rfl⟩
  rw [← hR]
  have HR : Hid (R = insN x c i) := hR
  clear hnc hnt hni hmu hrg hop hna hnb hnn hR
  by_cases h1 : op < 1
  · have b1 : decide (op < 1) = true := decide_eq_true h1
    have HF : Hid (R = false) := by rw [HR.out]; have := HE.out.2.2.2.2.2.1; show _ = _; simp [insN]; omega
    clear h1
    go_enter Try.func43, Try.ntmps43
    go_wp2_with (go_at_call 51; refine (operations_any _).mono ?_; rintro e w1 ⟨rfl, rfl⟩)
    go_ret
    exact ⟨congrArg (fun b => Ending.returned (.bool b)) HF.out.symm, ((((Keeps.refl _ _).alloc _).alloc _).alloc _).alloc _⟩
  by_cases h2 : 30 ≤ op
  · have b1 : decide (op < 1) = false := decide_eq_false h1
    have b2 : decide (30 ≤ op) = true := decide_eq_true h2
    have HF : Hid (R = false) := by rw [HR.out]; have := HE.out.2.2.2.2.2.1; show _ = _; simp [insN]; omega
    clear h1 h2
    go_enter Try.func43, Try.ntmps43
    go_wp2_with (go_at_call 51; refine (operations_any _).mono ?_; rintro e w1 ⟨rfl, rfl⟩)
    go_ret
    exact ⟨congrArg (fun b => Ending.returned (.bool b)) HF.out.symm, ((((Keeps.refl _ _).alloc _).alloc _).alloc _).alloc _⟩
  obtain ⟨o, rfl⟩ : ∃ o : Nat, op = o := ⟨op.toNat, by omega⟩
  obtain ⟨p, hp1, hp2, hp3⟩ := ops_at (k := o) (by omega) (by omega)
  have b1 : decide ((o : Int) < 1) = false := decide_eq_false h1
  have b2 : decide (30 ≤ (o : Int)) = false := decide_eq_false h2
  have i1 : (0 : Int) ≤ o := by omega
  have i2 : (o : Int) < 30 := by omega
  have HTRUE : Hid ((∀ j, j < 3 → fitN x c (kdAt (kindsN o) j) (numAt i j) = true) → R = true) := fun h => by
    have e := HE.out.2.2.2.2.2.1
    rw [HR.out]
    exact ins_true (by omega) (by omega) (by rw [← e]; exact h)
  have HFALSE : Hid (∀ j, j < 3 → fitN x c (kdAt (kindsN o) j) (numAt i j) = false → R = false) := fun j hj h => by
    have e := HE.out.2.2.2.2.2.1
    rw [HR.out]
    exact ins_false hj (by rw [← e]; exact h)
  have HKS : Hid (∀ j, j < 3 → kdAt (kindsN o) j ≤ 6 ∧ p.2.length ≤ 3 ∧ ((kdAt (kindsN o) j = 0 ∧ p.2.length ≤ j) ∨ (kdAt (kindsN o) j ≠ 0 ∧ j < p.2.length ∧ p.2[j]? = some (codeB (kdAt (kindsN o) j))))) := fun j hj => ksB_at hp3 hj
  have HC0 : Hid (opsCells[o * 2]? = some (strV p.1)) := by
    have := get_cells tabC 2 (fun _ => rfl) opsTab o 0 (by decide)
    rw [hp1] at this
    exact this
  have HC1 : Hid (opsCells[o * 2 + 1]? = some (strV p.2)) := by
    have := get_cells tabC 2 (fun _ => rfl) opsTab o 1 (by decide)
    rw [hp1] at this
    exact this
  have HP2 := Lib.hid hp2
  clear h1 h2 hp1 hp2 hp3
  go_enter Try.func43, Try.ntmps43
  go_upto_region 2 with (go_at_call 51; refine (operations_any _).mono ?_; rintro e w1 ⟨rfl, rfl⟩)
  have hk : Keeps NoBlk w ((((w.alloc (.cells #[.slice ca nc cc, .int .i64 mu, .slice ta nt tc] 25)).alloc (.cells #[.int .i64 rg, .slice ia ni ic] 51)).alloc (.cells #[.int .i64 o, .int .i64 na, .int .i64 nb, .int .i64 nn] 48)).alloc (.cells opsCells.toArray 98)) := ((((Keeps.refl _ _).alloc _).alloc _).alloc _).alloc _
  have r3 : RowAt ((((w.alloc (.cells #[.slice ca nc cc, .int .i64 mu, .slice ta nt tc] 25)).alloc (.cells #[.int .i64 rg, .slice ia ni ic] 51)).alloc (.cells #[.int .i64 o, .int .i64 na, .int .i64 nb, .int .i64 nn] 48)).alloc (.cells opsCells.toArray 98)) w.heap.size [.slice ca nc cc, .int .i64 mu, .slice ta nt tc] := (((RowAt.ofBlock (heap_alloc_new w _)).alloc _).alloc _).alloc _
  have r4 : RowAt ((((w.alloc (.cells #[.slice ca nc cc, .int .i64 mu, .slice ta nt tc] 25)).alloc (.cells #[.int .i64 rg, .slice ia ni ic] 51)).alloc (.cells #[.int .i64 o, .int .i64 na, .int .i64 nb, .int .i64 nn] 48)).alloc (.cells opsCells.toArray 98)) (w.heap.size + 1) [.int .i64 rg, .slice ia ni ic] := ((RowAt.ofBlock (heap_alloc2 w _ _)).alloc _).alloc _
  have r5 : RowAt ((((w.alloc (.cells #[.slice ca nc cc, .int .i64 mu, .slice ta nt tc] 25)).alloc (.cells #[.int .i64 rg, .slice ia ni ic] 51)).alloc (.cells #[.int .i64 o, .int .i64 na, .int .i64 nb, .int .i64 nn] 48)).alloc (.cells opsCells.toArray 98)) (w.heap.size + 1 + 1) [.int .i64 o, .int .i64 na, .int .i64 nb, .int .i64 nn] := (RowAt.ofBlock (by have h := heap_alloc2 (w.alloc (.cells #[.slice ca nc cc, .int .i64 mu, .slice ta nt tc] 25)) (.cells #[.int .i64 rg, .slice ia ni ic] 51) (.cells #[.int .i64 o, .int .i64 na, .int .i64 nb, .int .i64 nn] 48); simpa using h)).alloc _
  have r6 : RowAt ((((w.alloc (.cells #[.slice ca nc cc, .int .i64 mu, .slice ta nt tc] 25)).alloc (.cells #[.int .i64 rg, .slice ia ni ic] 51)).alloc (.cells #[.int .i64 o, .int .i64 na, .int .i64 nb, .int .i64 nn] 48)).alloc (.cells opsCells.toArray 98)) (w.heap.size + 1 + 1 + 1) opsCells := RowAt.ofBlock (by have h := heap_alloc_new (((w.alloc (.cells #[.slice ca nc cc, .int .i64 mu, .slice ta nt tc] 25)).alloc (.cells #[.int .i64 rg, .slice ia ni ic] 51)).alloc (.cells #[.int .i64 o, .int .i64 na, .int .i64 nb, .int .i64 nn] 48)) (.cells opsCells.toArray 98); simpa using h)
  generalize ((((w.alloc (.cells #[.slice ca nc cc, .int .i64 mu, .slice ta nt tc] 25)).alloc (.cells #[.int .i64 rg, .slice ia ni ic] 51)).alloc (.cells #[.int .i64 o, .int .i64 na, .int .i64 nb, .int .i64 nn] 48)).alloc (.cells opsCells.toArray 98)) = G at hk r3 r4 r5 r6 ⊢
  generalize w.heap.size + 1 + 1 + 1 = bo at r6 ⊢
  generalize w.heap.size + 1 + 1 = b5 at r5 ⊢
  generalize w.heap.size + 1 = b4 at r4 ⊢
  generalize w.heap.size = b3 at r3 ⊢
  have HK := Lib.hid hk
  have R3 := Lib.hid r3
  have R4 := Lib.hid r4
  have R5 := Lib.hid r5
  have x50 := r5.cell (k := 0) (v := .int .i64 o) rfl
  have x51 := r5.cell (k := 1) (v := .int .i64 na) rfl
  have x52 := r5.cell (k := 2) (v := .int .i64 nb) rfl
  have x53 := r5.cell (k := 3) (v := .int .i64 nn) rfl
  have o0 := r6.cell HC0.out
  have o1 := r6.cell HC1.out
  unfold strV at o0 o1
  obtain ⟨S1, hS1⟩ : ∃ S, S = (⟨p.1.toArray⟩ : ByteArray) := ⟨_, rfl⟩
  obtain ⟨S2, hS2⟩ : ∃ S, S = (⟨p.2.toArray⟩ : ByteArray) := ⟨_, rfl⟩
  have HS1 := Lib.hid hS1
  have HS2 := Lib.hid hS2
  rw [← hS1] at o0
  rw [← hS2] at o1
  have hs1 : ¬ S1.toList = [] := by rw [hS1, ByteArray.toList_mk]; exact HP2.out
  obtain ⟨mm, hmm⟩ : ∃ mm, mm = p.2.length := ⟨_, rfl⟩
  have hsz : S2.size = mm := by rw [hS2, hmm]; simp [ByteArray.size]
  have HIX : Hid (∀ (j : Nat) (u : UInt8), p.2[j]? = some u → ∀ W, (Instr.index 9 (.string S2) (.int .i64 (j : Int))).run Try.prog W = .ok (.int .u8 u.toNat) W) := fun j u h W => by rw [hS2]; exact str_at p.2 j u h W
  rw [← hmm] at HKS
  clear hk r3 r4 r5 r6 hS1 hS2 hmm
  go_upto_region 5 with fail
  clear hs1 o0 o1 HP2 HC0 HC1 HS1 HS2
  go_wp2_with fail
  obtain ⟨zb, hzb⟩ : ∃ z, z = G.heap.size := ⟨_, rfl⟩
  have hrow : RowAt (G.alloc (.cells #[.int .i64 na, .int .i64 nb, .int .i64 nn] 3)) zb (ints [na, nb, nn]) := by rw [hzb]; exact RowAt.ofBlock (heap_alloc_new G _)
  have hk1 : Keeps NoBlk G (G.alloc (.cells #[.int .i64 na, .int .i64 nb, .int .i64 nn] 3)) := (Keeps.refl _ _).alloc _
  rw [← hzb]
  generalize G.alloc (.cells #[.int .i64 na, .int .i64 nb, .int .i64 nn] 3) = G1 at hrow hk1 ⊢
  have HROW := Lib.hid hrow
  have HK1 : Hid (Keeps NoBlk w G1) := HK.out.trans0 hk1
  have HKG := Lib.hid hk1
  have HNUM : Hid (∀ j, numAt i j = [na, nb, nn].getD j 0) := fun j => by
    obtain ⟨_, _, _, _, _, _, e1, e2, e3⟩ := HE.out
    unfold numAt
    rw [e1, e2, e3]
  clear hrow hk1 hzb x50 x51 x52 x53
  go_loopw [46] (fun kv wr => ∃ k : Nat, k ≤ 3 ∧ kv = .int .i64 k ∧ Hid (∀ j, j < k → fitN x c (kdAt (kindsN o) j) (numAt i j) = true) ∧ Hid (Keeps NoBlk G1 wr)) (fun kv _ => 3 - (intOf kv).toNat)
  case atStart => exact ⟨0, by decide, rfl, fun j hj => absurd hj (Nat.not_lt_zero _), Keeps.refl _ _⟩
  case round =>
    obtain ⟨k, hk, rfl, hag, hkp⟩ := hrel
    have HKW : Hid (Keeps NoBlk w wr) := HK1.out.trans0 hkp.out
    by_cases hlt : k < 3
    · have i3 : (0 : Int) ≤ k := by omega
      have i4 : (k : Int) < 3 := by omega
      obtain ⟨num, hnum⟩ : ∃ n, n = numAt i k := ⟨_, rfl⟩
      have c0 := (HROW.out.keeps hkp.out (fun h => h)).cell (k := k) (ints_get [na, nb, nn] k hlt)
      rw [← HNUM.out k, ← hnum] at c0
      obtain ⟨h6, hm3, hcase⟩ := HKS.out k hlt
      obtain ⟨kd, hkd⟩ : ∃ kd, kd = kdAt (kindsN o) k := ⟨_, rfl⟩
      rw [← hkd] at h6 hcase
      have KG := HKG.out.trans0 hkp.out
      have x40 := (R4.out.keeps KG (fun h => h)).cell (k := 0) (v := .int .i64 rg) rfl
      have x41 := (R4.out.keeps KG (fun h => h)).cell (k := 1) (v := .slice ia ni ic) rfl
      have x30 := (R3.out.keeps KG (fun h => h)).cell (k := 0) (v := .slice ca nc cc) rfl
      have x31 := (R3.out.keeps KG (fun h => h)).cell (k := 1) (v := .int .i64 mu) rfl
      have x32 := (R3.out.keeps KG (fun h => h)).cell (k := 2) (v := .slice ta nt tc) rfl
      have HNEXT : Hid (fitN x c kd num = true → ∀ j, j < k + 1 → fitN x c (kdAt (kindsN o) j) (numAt i j) = true) := fun hf j hj => by
        by_cases e : j = k
        · subst e; rw [← hkd, ← hnum]; exact hf
        · exact hag.out j (by omega)
      have HBAD : Hid (fitN x c kd num = false → R = false) := fun hf => HFALSE.out k hlt (by rw [← hkd, ← hnum]; exact hf)
      have HFIT : Hid (fitN x c kd num = if kd = 1 then numN' num else decide (0 ≤ num) && decide (num < if kd = 2 then rg else if kd = 3 then (ni : Int) else if kd = 4 then (nc : Int) else if kd = 5 then mu else if kd = 6 then (nt : Int) else 1)) := by
        obtain ⟨e1, e2, e3, e4, e5, _⟩ := HE.out
        unfold fitN mostN
        rw [e1, e2, e3, e4, e5]
        rfl
      clear hnum hkd KG hag hk
      have i5 : (mm : Int) ≤ 3 := by omega
      rcases hcase with ⟨rfl, hle⟩ | ⟨hne, hlk, hat⟩
      · have q0 : decide ((k : Int) < mm) = false := decide_eq_false (by omega)
        have i6 : ¬ ((k : Int) < mm) := by omega
        have i7 : (mm : Int) ≤ k := by omega
        clear hle h6
        by_cases hlo : num < 0
        · have q1 : decide (num < 0) = true := decide_eq_true hlo
          have HB : Hid (R = false) := HBAD.out (by rw [HFIT.out]; simp; omega)
          clear HFIT HNEXT HBAD hlo
          go_wp2_with fail
          go_ret
          exact ⟨congrArg (fun b => Ending.returned (.bool b)) HB.out.symm, HKW.out⟩
        · have q1 : decide (num < 0) = false := decide_eq_false hlo
          by_cases hhi : 1 ≤ num
          · have q2 : decide (1 ≤ num) = true := decide_eq_true hhi
            have HB : Hid (R = false) := HBAD.out (by rw [HFIT.out]; simp; omega)
            clear HFIT HNEXT HBAD hlo hhi
            go_wp2_with fail
            go_ret
            exact ⟨congrArg (fun b => Ending.returned (.bool b)) HB.out.symm, HKW.out⟩
          · have q2 : decide (1 ≤ num) = false := decide_eq_false hhi
            have HN2 := Lib.hid (HNEXT.out (by rw [HFIT.out]; simp; omega))
            clear HFIT HNEXT HBAD hlo hhi
            go_wp2_with fail
            exact ⟨⟨k + 1, by omega, by go_num, HN2.out, hkp.out⟩, by simp [intOf]; omega⟩
      · have q0 : decide ((k : Int) < mm) = true := decide_eq_true (by omega)
        have i6 : (k : Int) < mm := by omega
        rcases (by omega : kd = 1 ∨ kd = 2 ∨ kd = 3 ∨ kd = 4 ∨ kd = 5 ∨ kd = 6) with rfl | rfl | rfl | rfl | rfl | rfl
        · have hix : ∀ W, (Instr.index 9 (.string S2) (.int .i64 (k : Int))).run Try.prog W = .ok (.int .u8 78) W := HIX.out k _ hat
          clear hat hne h6 hlk
          by_cases hv : numN' num = true
          · have HN2 := Lib.hid (HNEXT.out (by rw [HFIT.out, if_pos rfl]; exact hv))
            have HNI : Hid (Calls Try.prog 42 #[.int .i64 num] wr fun e w' => e = .returned (.bool true) ∧ Keeps NoBlk wr w') := by
              have := numberIs_any wr num
              rw [hv] at this
              exact this
            clear HFIT HNEXT HBAD hv
            go_wp2_with (go_at_call 42; refine HNI.out.mono ?_; rintro e w1 ⟨rfl, g1⟩; have G1 := Lib.hid g1; clear g1)
            exact ⟨⟨k + 1, by omega, by go_num, HN2.out, hkp.out.trans0 G1.out⟩, by simp [intOf]; omega⟩
          · have hv : numN' num = false := by simpa using hv
            have HB : Hid (R = false) := HBAD.out (by rw [HFIT.out, if_pos rfl]; exact hv)
            have HNI : Hid (Calls Try.prog 42 #[.int .i64 num] wr fun e w' => e = .returned (.bool false) ∧ Keeps NoBlk wr w') := by
              have := numberIs_any wr num
              rw [hv] at this
              exact this
            clear HFIT HNEXT HBAD hv
            go_wp2_with (go_at_call 42; refine HNI.out.mono ?_; rintro e w1 ⟨rfl, g1⟩; have G1 := Lib.hid g1; clear g1)
            go_ret
            exact ⟨congrArg (fun b => Ending.returned (.bool b)) HB.out.symm, HKW.out.trans0 G1.out⟩
        · have hix : ∀ W, (Instr.index 9 (.string S2) (.int .i64 (k : Int))).run Try.prog W = .ok (.int .u8 82) W := HIX.out k _ hat
          clear hat hne h6 hlk
          by_cases hlo : num < 0
          · have q1 : decide (num < 0) = true := decide_eq_true hlo
            have HB : Hid (R = false) := HBAD.out (by rw [HFIT.out]; simp; omega)
            clear HFIT HNEXT HBAD hlo
            go_wp2_with fail
            go_ret
            exact ⟨congrArg (fun b => Ending.returned (.bool b)) HB.out.symm, HKW.out⟩
          · have q1 : decide (num < 0) = false := decide_eq_false hlo
            by_cases hhi : rg ≤ num
            · have q2 : decide (rg ≤ num) = true := decide_eq_true hhi
              have HB : Hid (R = false) := HBAD.out (by rw [HFIT.out]; simp; omega)
              clear HFIT HNEXT HBAD hlo hhi
              go_wp2_with fail
              go_ret
              exact ⟨congrArg (fun b => Ending.returned (.bool b)) HB.out.symm, HKW.out⟩
            · have q2 : decide (rg ≤ num) = false := decide_eq_false hhi
              have HN2 := Lib.hid (HNEXT.out (by rw [HFIT.out]; simp; omega))
              clear HFIT HNEXT HBAD hlo hhi
              go_wp2_with fail
              exact ⟨⟨k + 1, by omega, by go_num, HN2.out, hkp.out⟩, by simp [intOf]; omega⟩
        · have hix : ∀ W, (Instr.index 9 (.string S2) (.int .i64 (k : Int))).run Try.prog W = .ok (.int .u8 73) W := HIX.out k _ hat
          clear hat hne h6 hlk
          by_cases hlo : num < 0
          · have q1 : decide (num < 0) = true := decide_eq_true hlo
            have HB : Hid (R = false) := HBAD.out (by rw [HFIT.out]; simp; omega)
            clear HFIT HNEXT HBAD hlo
            go_wp2_with fail
            go_ret
            exact ⟨congrArg (fun b => Ending.returned (.bool b)) HB.out.symm, HKW.out⟩
          · have q1 : decide (num < 0) = false := decide_eq_false hlo
            by_cases hhi : (ni : Int) ≤ num
            · have q2 : decide ((ni : Int) ≤ num) = true := decide_eq_true hhi
              have HB : Hid (R = false) := HBAD.out (by rw [HFIT.out]; simp; omega)
              clear HFIT HNEXT HBAD hlo hhi
              go_wp2_with fail
              go_ret
              exact ⟨congrArg (fun b => Ending.returned (.bool b)) HB.out.symm, HKW.out⟩
            · have q2 : decide ((ni : Int) ≤ num) = false := decide_eq_false hhi
              have HN2 := Lib.hid (HNEXT.out (by rw [HFIT.out]; simp; omega))
              clear HFIT HNEXT HBAD hlo hhi
              go_wp2_with fail
              exact ⟨⟨k + 1, by omega, by go_num, HN2.out, hkp.out⟩, by simp [intOf]; omega⟩
        · have hix : ∀ W, (Instr.index 9 (.string S2) (.int .i64 (k : Int))).run Try.prog W = .ok (.int .u8 99) W := HIX.out k _ hat
          clear hat hne h6 hlk
          by_cases hlo : num < 0
          · have q1 : decide (num < 0) = true := decide_eq_true hlo
            have HB : Hid (R = false) := HBAD.out (by rw [HFIT.out]; simp; omega)
            clear HFIT HNEXT HBAD hlo
            go_wp2_with fail
            go_ret
            exact ⟨congrArg (fun b => Ending.returned (.bool b)) HB.out.symm, HKW.out⟩
          · have q1 : decide (num < 0) = false := decide_eq_false hlo
            by_cases hhi : (nc : Int) ≤ num
            · have q2 : decide ((nc : Int) ≤ num) = true := decide_eq_true hhi
              have HB : Hid (R = false) := HBAD.out (by rw [HFIT.out]; simp; omega)
              clear HFIT HNEXT HBAD hlo hhi
              go_wp2_with fail
              go_ret
              exact ⟨congrArg (fun b => Ending.returned (.bool b)) HB.out.symm, HKW.out⟩
            · have q2 : decide ((nc : Int) ≤ num) = false := decide_eq_false hhi
              have HN2 := Lib.hid (HNEXT.out (by rw [HFIT.out]; simp; omega))
              clear HFIT HNEXT HBAD hlo hhi
              go_wp2_with fail
              exact ⟨⟨k + 1, by omega, by go_num, HN2.out, hkp.out⟩, by simp [intOf]; omega⟩
        · have hix : ∀ W, (Instr.index 9 (.string S2) (.int .i64 (k : Int))).run Try.prog W = .ok (.int .u8 109) W := HIX.out k _ hat
          clear hat hne h6 hlk
          by_cases hlo : num < 0
          · have q1 : decide (num < 0) = true := decide_eq_true hlo
            have HB : Hid (R = false) := HBAD.out (by rw [HFIT.out]; simp; omega)
            clear HFIT HNEXT HBAD hlo
            go_wp2_with fail
            go_ret
            exact ⟨congrArg (fun b => Ending.returned (.bool b)) HB.out.symm, HKW.out⟩
          · have q1 : decide (num < 0) = false := decide_eq_false hlo
            by_cases hhi : mu ≤ num
            · have q2 : decide (mu ≤ num) = true := decide_eq_true hhi
              have HB : Hid (R = false) := HBAD.out (by rw [HFIT.out]; simp; omega)
              clear HFIT HNEXT HBAD hlo hhi
              go_wp2_with fail
              go_ret
              exact ⟨congrArg (fun b => Ending.returned (.bool b)) HB.out.symm, HKW.out⟩
            · have q2 : decide (mu ≤ num) = false := decide_eq_false hhi
              have HN2 := Lib.hid (HNEXT.out (by rw [HFIT.out]; simp; omega))
              clear HFIT HNEXT HBAD hlo hhi
              go_wp2_with fail
              exact ⟨⟨k + 1, by omega, by go_num, HN2.out, hkp.out⟩, by simp [intOf]; omega⟩
        · have hix : ∀ W, (Instr.index 9 (.string S2) (.int .i64 (k : Int))).run Try.prog W = .ok (.int .u8 116) W := HIX.out k _ hat
          clear hat hne h6 hlk
          by_cases hlo : num < 0
          · have q1 : decide (num < 0) = true := decide_eq_true hlo
            have HB : Hid (R = false) := HBAD.out (by rw [HFIT.out]; simp; omega)
            clear HFIT HNEXT HBAD hlo
            go_wp2_with fail
            go_ret
            exact ⟨congrArg (fun b => Ending.returned (.bool b)) HB.out.symm, HKW.out⟩
          · have q1 : decide (num < 0) = false := decide_eq_false hlo
            by_cases hhi : (nt : Int) ≤ num
            · have q2 : decide ((nt : Int) ≤ num) = true := decide_eq_true hhi
              have HB : Hid (R = false) := HBAD.out (by rw [HFIT.out]; simp; omega)
              clear HFIT HNEXT HBAD hlo hhi
              go_wp2_with fail
              go_ret
              exact ⟨congrArg (fun b => Ending.returned (.bool b)) HB.out.symm, HKW.out⟩
            · have q2 : decide ((nt : Int) ≤ num) = false := decide_eq_false hhi
              have HN2 := Lib.hid (HNEXT.out (by rw [HFIT.out]; simp; omega))
              clear HFIT HNEXT HBAD hlo hhi
              go_wp2_with fail
              exact ⟨⟨k + 1, by omega, by go_num, HN2.out, hkp.out⟩, by simp [intOf]; omega⟩
    · have hk3 : k = 3 := by omega
      subst hk3
      clear hlt hk
      have HT : Hid (R = true) := HTRUE.out (fun j hj => hag.out j hj)
      go_wp2_with fail
      go_ret
      exact ⟨congrArg (fun b => Ending.returned (.bool b)) HT.out.symm, HKW.out⟩
end Go.Proofs.Ytmkfpkficmmlgaa
