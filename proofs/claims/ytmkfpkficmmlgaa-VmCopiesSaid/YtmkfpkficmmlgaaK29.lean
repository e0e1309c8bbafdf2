/- The document's code: may a thread's code be? -/
import Derived.Test.YtmkfpkficmmlgaaK28
namespace Go.Proofs.Ytmkfpkficmmlgaa
open Go.RowKit
set_option linter.unusedVariables false
set_option linter.unusedSimpArgs false
set_option linter.unnecessarySimpa false

/-- what the operations ahead of a call of fits leave -/
def RcF (b7 fld : Nat) (val : Int) (S2 : ByteArray) (u : Int) (iv cv : Value) (r : Bool) (j : Nat) (v : Value) (W : World) : Prop :=
  match j with
  | 0 => v = .pointer (some ⟨b7, fld, none⟩)
  | 1 => v = .int .i64 val
  | 2 => v = .string S2
  | 3 => v = .int .u8 u
  | 4 => v = iv
  | 5 => v = cv
  | 6 => v = .bool r
  | _ => True
theorem RcF.st {b7 fld : Nat} {val : Int} {S2 : ByteArray} {u : Int} {iv cv : Value} {r : Bool} (j : Nat) (v : Value) (W W' : World) (h : RcF b7 fld val S2 u iv cv r j v W) (_ : Keeps NoBlk W W') : RcF b7 fld val S2 u iv cv r j v W' := h
theorem kind_at (kd : Nat × Nat × Nat) (j : Nat) (hj : j < 3) (W : World) : (Instr.index 9 (kindStr kd) (.int .i64 (j : Int))).run Try.prog W = .ok (.int .u8 (codeR (kdAt kd j)).toNat) W := by
  unfold kindStr strV
  refine str_at _ j _ ?_ W
  rcases (by omega : j = 0 ∨ j = 1 ∨ j = 2) with rfl | rfl | rfl <;> rfl
theorem kd_le (op : Int) (j : Nat) : kdAt (kindsN op) j ≤ 6 := by
  have h : (kindsN op).1 ≤ 6 ∧ (kindsN op).2.1 ≤ 6 ∧ (kindsN op).2.2 ≤ 6 := by
    unfold kindsN
    repeat' split
    all_goals exact ⟨by decide, by decide, by decide⟩
  unfold kdAt
  repeat' split
  · exact h.1
  · exact h.2.1
  · exact h.2.2

set_option maxRecDepth 40000 in
set_option maxHeartbeats 8000000 in
theorem rcode_any (w : World) (ca ta : Option Addr) (cc tc : Nat) (x : Img) (c : Cod) (u : Value) (hu : SrcAt w u c.ins.length (insCells c.ins)) :
    Calls Try.prog 41 #[.agg #[.slice ca x.cells.length cc, .int .i64 x.mutexes, .slice ta x.threads.length tc], .agg #[.int .i64 c.regs, u]] w fun e w' => e = .returned (.bool (codN x c)) ∧ Keeps NoBlk w w' := by
  obtain ⟨ia, ic, rfl, hi⟩ := hu.inss
  have FI := Lib.hid hi
  obtain ⟨nc, hnc⟩ : ∃ n, n = x.cells.length := ⟨_, rfl⟩
  obtain ⟨nt, hnt⟩ : ∃ n, n = x.threads.length := ⟨_, rfl⟩
  obtain ⟨ni, hni⟩ : ∃ n, n = c.ins.length := ⟨_, rfl⟩
  obtain ⟨mu, hmu⟩ : ∃ n, n = x.mutexes := ⟨_, rfl⟩
  obtain ⟨rg, hrg⟩ : ∃ n, n = c.regs := ⟨_, rfl⟩
  have HFT : Hid (∀ W k num, k ≤ 6 → Calls Try.prog 50 #[.int .i64 num, .int .u8 (codeR k).toNat, .agg #[.slice ca nc cc, .int .i64 mu, .slice ta nt tc], .agg #[.int .i64 rg, .slice ia ni ic]] W fun e w' => e = .returned (.bool (fitN x c k num)) ∧ Keeps NoBlk W w') := by
    intro W k num hk
    rw [hnc, hnt, hni, hmu, hrg]
    exact rfits_any W ca ta ia cc tc ic x c k num hk
  obtain ⟨R, hR⟩ : ∃ R, R = codN x c := ⟨_, rfl⟩
  have HR : Hid (R = codN x c) := hR
  have HN : Hid (ni = c.ins.length ∧ rg = c.regs) := ⟨hni, hrg⟩
  have HBAD : Hid (¬ (0 ≤ rg ∧ rg ≤ 64 ∧ 1 ≤ ni ∧ ni ≤ 4000 ∧ (lastOp c = 29 ∨ lastOp c = 18)) → R = false) := fun h => by rw [hR]; rw [hrg, hni] at h; exact cod_false h
  rw [← hR, ← hnc, ← hnt, ← hni, ← hmu, ← hrg]
  clear hu hi hR hnc hnt hni hmu hrg
  by_cases h0 : rg < 0
  · have p0 : decide (rg < 0) = true := decide_eq_true (by omega)
    have HB : Hid (R = false) := HBAD.out (by omega)
    clear h0 FI
    go_enter Try.func41, Try.ntmps41
    go_wp2_with fail
    go_ret
    exact ⟨congrArg (fun b => Ending.returned (.bool b)) HB.out.symm, ((Keeps.refl _ _).alloc _).alloc _⟩
  by_cases h1 : 64 < rg
  · have p0 : decide (rg < 0) = false := decide_eq_false (by omega)
    have p1 : decide (64 < rg) = true := decide_eq_true (by omega)
    have HB : Hid (R = false) := HBAD.out (by omega)
    clear h0 h1 FI
    go_enter Try.func41, Try.ntmps41
    go_wp2_with fail
    go_ret
    exact ⟨congrArg (fun b => Ending.returned (.bool b)) HB.out.symm, ((Keeps.refl _ _).alloc _).alloc _⟩
  by_cases h2 : ni < 1
  · have p0 : decide (rg < 0) = false := decide_eq_false (by omega)
    have p1 : decide (64 < rg) = false := decide_eq_false (by omega)
    have p2 : decide ((ni : Int) < 1) = true := decide_eq_true (by omega)
    have HB : Hid (R = false) := HBAD.out (by omega)
    clear h0 h1 h2 FI
    go_enter Try.func41, Try.ntmps41
    go_wp2_with fail
    go_ret
    exact ⟨congrArg (fun b => Ending.returned (.bool b)) HB.out.symm, ((Keeps.refl _ _).alloc _).alloc _⟩
  by_cases h3 : 4000 < ni
  · have p0 : decide (rg < 0) = false := decide_eq_false (by omega)
    have p1 : decide (64 < rg) = false := decide_eq_false (by omega)
    have p2 : decide ((ni : Int) < 1) = false := decide_eq_false (by omega)
    have p3 : decide ((4000 : Int) < ni) = true := decide_eq_true (by omega)
    have HB : Hid (R = false) := HBAD.out (by omega)
    clear h0 h1 h2 h3 FI
    go_enter Try.func41, Try.ntmps41
    go_wp2_with fail
    go_ret
    exact ⟨congrArg (fun b => Ending.returned (.bool b)) HB.out.symm, ((Keeps.refl _ _).alloc _).alloc _⟩
  have p0 : decide (rg < 0) = false := decide_eq_false (by omega)
  have p1 : decide (64 < rg) = false := decide_eq_false (by omega)
  have p2 : decide ((ni : Int) < 1) = false := decide_eq_false (by omega)
  have p3 : decide ((4000 : Int) < ni) = false := decide_eq_false (by omega)
  obtain ⟨m, rfl⟩ : ∃ m, ni = m + 1 := ⟨ni - 1, by omega⟩
  obtain ⟨g1, o1, rfl, d0, _, _, _⟩ := FI.out m (by have e2 := HN.out.1; omega)
  obtain ⟨lo, hlo⟩ : ∃ q, q = (c.ins.getD m Ins.zero).op := ⟨_, rfl⟩
  rw [← hlo] at d0
  have HLO : Hid (lo = lastOp c) := by show _ = _; rw [hlo]; unfold lastOp Cod.at; rw [← HN.out.1]; rfl
  have lg1 : g1 < w.heap.size := World.block_lt_of_cell? w _ d0
  have ng1 : g1 ≠ w.heap.size := by omega
  have ng2 : g1 ≠ w.heap.size + 1 := by omega
  have m1 : (0 : Int) ≤ m := by omega
  have m2 : (m : Int) ≤ 3999 := by omega
  have p2' : decide ((m : Int) + 1 < 1) = false := decide_eq_false (by omega)
  have p3' : decide ((4000 : Int) < (m : Int) + 1) = false := decide_eq_false (by omega)
  by_cases hl : lo ≠ 29 ∧ lo ≠ 18
  · have e29 : (lo != 29) = true := bne_iff_ne.2 hl.1
    have e18 : (lo != 18) = true := bne_iff_ne.2 hl.2
    have HB : Hid (R = false) := HBAD.out (by have e1 := HLO.out; omega)
    clear h0 h1 h2 h3 FI hl hlo
    go_enter Try.func41, Try.ntmps41
    go_wp2_with fail
    go_ret
    exact ⟨congrArg (fun b => Ending.returned (.bool b)) HB.out.symm, ((Keeps.refl _ _).alloc _).alloc _⟩
  have HCT : Hid ((∀ j, j < m + 1 → insN x c (c.at j) = true) → R = true) := fun h => by
    have e1 := HN.out.1; have e2 := HN.out.2; have e3 := HLO.out
    rw [HR.out]
    exact cod_true (by omega) (by omega) (by omega) (by omega) (by omega) (by rw [← e1]; exact h)
  have HCF : Hid (∀ j, j < m + 1 → insN x c (c.at j) = false → R = false) := fun j hj h => by rw [HR.out]; exact cod_ins (by rw [← HN.out.1]; exact hj) h
  have hmm : m < 4000 := by omega
  have hl2 : lo = 29 ∨ lo = 18 := by omega
  clear h0 h1 h2 h3 hlo hl HBAD
  go_enter Try.func41, Try.ntmps41
  go_upto_region 2 with fail
  obtain ⟨b2, hb2⟩ : ∃ z, z = w.heap.size := ⟨_, rfl⟩
  obtain ⟨b3, hb3⟩ : ∃ z, z = w.heap.size + 1 := ⟨_, rfl⟩
  have hr2 : RowAt ((w.alloc (.cells #[.slice ca nc cc, .int .i64 mu, .slice ta nt tc] 25)).alloc (.cells #[.int .i64 rg, .slice (some ⟨g1, o1, none⟩) (m + 1) ic] 51)) b2 [.slice ca nc cc, .int .i64 mu, .slice ta nt tc] := by rw [hb2]; exact (RowAt.ofBlock (heap_alloc_new w _)).alloc _
  have hr3 : RowAt ((w.alloc (.cells #[.slice ca nc cc, .int .i64 mu, .slice ta nt tc] 25)).alloc (.cells #[.int .i64 rg, .slice (some ⟨g1, o1, none⟩) (m + 1) ic] 51)) b3 [.int .i64 rg, .slice (some ⟨g1, o1, none⟩) (m + 1) ic] := by rw [hb3]; exact RowAt.ofBlock (heap_alloc2 w _ _)
  have hk0 : Keeps NoBlk w ((w.alloc (.cells #[.slice ca nc cc, .int .i64 mu, .slice ta nt tc] 25)).alloc (.cells #[.int .i64 rg, .slice (some ⟨g1, o1, none⟩) (m + 1) ic] 51)) := ((Keeps.refl _ _).alloc _).alloc _
  rw [← hb3, ← hb2]
  generalize ((w.alloc (.cells #[.slice ca nc cc, .int .i64 mu, .slice ta nt tc] 25)).alloc (.cells #[.int .i64 rg, .slice (some ⟨g1, o1, none⟩) (m + 1) ic] 51)) = w0 at hr2 hr3 hk0 ⊢
  have R2 := Lib.hid hr2
  have R3 := Lib.hid hr3
  have HK0 := Lib.hid hk0
  have d0' := hk0.cell (p := ⟨g1, _, none⟩) (fun h => h) d0
  have y0 := hr3.cell (k := 0) (v := .int .i64 rg) rfl
  have y1 := hr3.cell (k := 1) (v := .slice (some ⟨g1, o1, none⟩) (m + 1) ic) rfl
  clear hr2 hr3 hk0 hb2 hb3 d0 lg1 ng1 ng2
  have HLL := Lib.hid hl2
  go_upto_region 2 with fail
  go_cut [51] from 13 (fun c wx => c = .bool false ∧ wx = w0)
  case first =>
    rcases hl2 with rfl | rfl
    all_goals (
      go_wp2_with fail
      go_meet
      exact ⟨rfl, rfl⟩)
  case rest =>
    obtain ⟨rfl, rfl⟩ := hcut
    clear d0' y0 y1 hl2
    go_wp2_with fail
    go_loopw [6] (fun kv w3 => ∃ j : Nat, j ≤ m + 1 ∧ kv = .int .i64 j ∧ Hid (∀ q, q < j → insN x c (c.at q) = true) ∧ Hid (Keeps NoBlk wc w3)) (fun kv _ => m + 1 - (intOf kv).toNat)
    case atStart => exact ⟨0, Nat.zero_le _, rfl, fun j hj => absurd hj (Nat.not_lt_zero _), Keeps.refl _ _⟩
    case round =>
      obtain ⟨j, hj, rfl, hag, hkp3⟩ := hrel
      have HKW : Hid (Keeps NoBlk w wr) := HK0.out.trans0 hkp3.out
      by_cases hjl : j < m + 1
      · have j1 : (0 : Int) ≤ j := by omega
        have j2 : (j : Int) < (m : Int) + 1 := by omega
        have j2' : (j : Int) < ((m + 1 : Nat) : Int) := by omega
        obtain ⟨g', o', e', a0, a1, a2, a3⟩ := FI.out j (by rw [← HN.out.1]; exact hjl)
        cases e'
        have a0' := HKW.out.cell (p := ⟨g1, _, none⟩) (fun h => h) a0
        have a1' := HKW.out.cell (p := ⟨g1, _, none⟩) (fun h => h) a1
        have a2' := HKW.out.cell (p := ⟨g1, _, none⟩) (fun h => h) a2
        have a3' := HKW.out.cell (p := ⟨g1, _, none⟩) (fun h => h) a3
        have y1' := (R3.out.keeps hkp3.out (fun h => h)).cell (k := 1) (v := .slice (some ⟨g1, o1, none⟩) (m + 1) ic) rfl
        obtain ⟨I, hI⟩ : ∃ I, I = c.at j := ⟨_, rfl⟩
        have hI2 : c.ins.getD j Ins.zero = I := hI.symm
        rw [hI2] at a0' a1' a2' a3'
        have HN3 : Hid (insN x c I = true → ∀ q, q < j + 1 → insN x c (c.at q) = true) := fun h q hq => by
          by_cases e : q = j
          · subst e; rw [← hI]; exact h
          · exact hag.out q (by omega)
        have HB3 : Hid (insN x c I = false → R = false) := fun h => HCF.out j hjl (by rw [← hI]; exact h)
        clear a0 a1 a2 a3 hag hj hI hI2
        obtain ⟨op, va, vb, vc⟩ := I
        dsimp only at a0' a1' a2' a3'
        go_upto_region 8 with fail
        obtain ⟨b7, hb7⟩ : ∃ z, z = wr.heap.size := ⟨_, rfl⟩
        have hr7 : RowAt (wr.alloc (.cells #[.int .i64 op, .int .i64 va, .int .i64 vb, .int .i64 vc] 48)) b7 [.int .i64 op, .int .i64 va, .int .i64 vb, .int .i64 vc] := by rw [hb7]; exact RowAt.ofBlock (heap_alloc_new wr _)
        have hk7 : Keeps NoBlk wr (wr.alloc (.cells #[.int .i64 op, .int .i64 va, .int .i64 vb, .int .i64 vc] 48)) := (Keeps.refl _ _).alloc _
        rw [← hb7]
        generalize wr.alloc (.cells #[.int .i64 op, .int .i64 va, .int .i64 vb, .int .i64 vc] 48) = w7 at hr7 hk7 ⊢
        have HR7 := Lib.hid hr7
        have HK7 : Hid (Keeps NoBlk wc w7) := hkp3.out.trans0 hk7
        have x70 := hr7.cell (k := 0) (v := .int .i64 op) rfl
        clear hr7 hk7 hb7 a0' a1' a2' a3' y1' HKW
        by_cases hop : op < 1 ∨ 29 < op
        · have HB : Hid (R = false) := HB3.out (by simp [insN]; omega)
          have HFO := Lib.hid (form_out w7 op hop)
          clear HB3 HN3 hop
          go_wp2_with (go_at_call 49; refine HFO.out.mono ?_; rintro e w8 ⟨rfl, g1⟩; have G1 := Lib.hid g1; clear g1)
          go_ret
          exact ⟨congrArg (fun b => Ending.returned (.bool b)) HB.out.symm, (HK0.out.trans0 HK7.out).trans0 G1.out⟩
        obtain ⟨o, rfl⟩ : ∃ o : Nat, op = o := ⟨op.toNat, by omega⟩
        have HFO := Lib.hid (form_any w7 o (by omega) (by omega))
        have HINS : Hid (insN x c ⟨o, va, vb, vc⟩ = (fitN x c (kdAt (kindsN o) 0) va && fitN x c (kdAt (kindsN o) 1) vb && fitN x c (kdAt (kindsN o) 2) vc)) := by
          show _ = _
          unfold insN
          rw [decide_eq_true (by omega : (1 : Int) ≤ o), decide_eq_true (by omega : (o : Int) ≤ 29)]
          rfl
        have HK60 : Hid (kdAt (kindsN o) 0 ≤ 6 ∧ kdAt (kindsN o) 1 ≤ 6 ∧ kdAt (kindsN o) 2 ≤ 6) := ⟨kd_le _ _, kd_le _ _, kd_le _ _⟩
        have HIX0 : Hid (∀ W, (Instr.index 9 (kindStr (kindsN o)) (.int .i64 0)).run Try.prog W = .ok (.int .u8 (codeR (kdAt (kindsN o) 0)).toNat) W) := fun W => kind_at (kindsN o) 0 (by decide) W
        have HIX1 : Hid (∀ W, (Instr.index 9 (kindStr (kindsN o)) (.int .i64 1)).run Try.prog W = .ok (.int .u8 (codeR (kdAt (kindsN o) 1)).toNat) W) := fun W => kind_at (kindsN o) 1 (by decide) W
        have HIX2 : Hid (∀ W, (Instr.index 9 (kindStr (kindsN o)) (.int .i64 2)).run Try.prog W = .ok (.int .u8 (codeR (kdAt (kindsN o) 2)).toNat) W) := fun W => kind_at (kindsN o) 2 (by decide) W
        obtain ⟨S2, hS2⟩ : ∃ S : ByteArray, Value.string S = kindStr (kindsN o) := ⟨_, rfl⟩
        rw [← hS2] at HFO HIX0 HIX1 HIX2
        generalize kdAt (kindsN o) 0 = k0 at HINS HK60 HIX0
        generalize kdAt (kindsN o) 1 = k1 at HINS HK60 HIX1
        generalize kdAt (kindsN o) 2 = k2 at HINS HK60 HIX2
        have HF0 : Hid (∀ W, Calls Try.prog 50 #[.int .i64 va, .int .u8 (codeR k0).toNat, .agg #[.slice ca nc cc, .int .i64 mu, .slice ta nt tc], .agg #[.int .i64 rg, .slice (some ⟨g1, o1, none⟩) (m + 1) ic]] W fun e w' => e = .returned (.bool (fitN x c k0 va)) ∧ Keeps NoBlk W w') := fun W => HFT.out W k0 va HK60.out.1
        have HF1 : Hid (∀ W, Calls Try.prog 50 #[.int .i64 vb, .int .u8 (codeR k1).toNat, .agg #[.slice ca nc cc, .int .i64 mu, .slice ta nt tc], .agg #[.int .i64 rg, .slice (some ⟨g1, o1, none⟩) (m + 1) ic]] W fun e w' => e = .returned (.bool (fitN x c k1 vb)) ∧ Keeps NoBlk W w') := fun W => HFT.out W k1 vb HK60.out.2.1
        have HF2 : Hid (∀ W, Calls Try.prog 50 #[.int .i64 vc, .int .u8 (codeR k2).toNat, .agg #[.slice ca nc cc, .int .i64 mu, .slice ta nt tc], .agg #[.int .i64 rg, .slice (some ⟨g1, o1, none⟩) (m + 1) ic]] W fun e w' => e = .returned (.bool (fitN x c k2 vc)) ∧ Keeps NoBlk W w') := fun W => HFT.out W k2 vc HK60.out.2.2
        rw [HINS.out] at HN3 HB3
        generalize fitN x c k0 va = r0 at HN3 HB3 HF0
        generalize fitN x c k1 vb = r1 at HN3 HB3 HF1
        generalize fitN x c k2 vc = r2 at HN3 HB3 HF2
        generalize ((codeR k0).toNat : Int) = q0 at HF0 HIX0
        generalize ((codeR k1).toNat : Int) = q1 at HF1 HIX1
        generalize ((codeR k2).toNat : Int) = q2 at HF2 HIX2
        clear HINS HK60 hop hS2
        go_upto_region 11 with (go_at_call 49; refine HFO.out.mono ?_; rintro e w8 ⟨S1, rfl, hs0, g1⟩; have hs1 : S1.toList.isEmpty = false := List.isEmpty_eq_false_iff.2 hs0; clear hs0; have G1 := Lib.hid g1; clear g1)
        clear hs1 x70 HFO
        have HKA : Hid (Keeps NoBlk wc w8) := HK7.out.trans0 G1.out
        have HRA : Hid (RowAt w8 b7 [.int .i64 o, .int .i64 va, .int .i64 vb, .int .i64 vc]) := HR7.out.keeps G1.out (fun h => h)
        refine wp_region_table 7 (by kernel_rfl) (by kernel_rfl) (Keeps NoBlk) (Keeps.refl NoBlk) (fun a b c h h' => Keeps.trans0 h h') (RcF b7 1 va S2 q0 (.agg #[.slice ca nc cc, .int .i64 mu, .slice ta nt tc]) (.agg #[.int .i64 rg, .slice (some ⟨g1, o1, none⟩) (m + 1) ic]) r0) RcF.st ?_ ?_
        · intro i o' hi ho vs W Q' hR hd hK
          have HR' : Keeps NoBlk w8 W := ((Keeps.refl NoBlk w8).drew).trans0 hR
          have x7 := (HRA.out.keeps HR' (fun h => h)).cell (k := 1) (v := .int .i64 va) rfl
          have KW := HKA.out.trans0 HR'
          have x0 := (R2.out.keeps KW (fun h => h)).cell (k := 0) (v := .slice ca nc cc) rfl
          have x1 := (R2.out.keeps KW (fun h => h)).cell (k := 1) (v := .int .i64 mu) rfl
          have x2 := (R2.out.keeps KW (fun h => h)).cell (k := 2) (v := .slice ta nt tc) rfl
          have y0 := (R3.out.keeps KW (fun h => h)).cell (k := 0) (v := .int .i64 rg) rfl
          have y1 := (R3.out.keeps KW (fun h => h)).cell (k := 1) (v := .slice (some ⟨g1, o1, none⟩) (m + 1) ic) rfl
          have hix := HIX0.out
          clear KW HR'
          rcases (show i = 0 ∨ i = 1 ∨ i = 2 ∨ i = 3 ∨ i = 4 ∨ i = 5 ∨ i = 6 by omega) with rfl | rfl | rfl | rfl | rfl | rfl | rfl
          all_goals (simp only [List.getElem?_cons_zero, List.getElem?_cons_succ, Option.some.injEq] at ho; subst ho; simp only [putsTo, List.getElem?_cons_zero, List.getElem?_cons_succ, Option.bind_some, Option.bind, Act.put, List.setIfInBounds_toArray, List.set_cons_zero, List.set_cons_succ] at hK ⊢; clear hi)
          · clear hd
            go_wp2_with fail
            exact hK _ _ (Keeps.refl _ _) rfl
          · have e0 : vs 0 = _ := hd 0 (by kernel_rfl)
            rw [e0] at hK ⊢
            clear hd
            go_wp2_with fail
            exact hK _ _ (Keeps.refl _ _) rfl
          · clear hd
            go_wp2_with fail
            exact hK _ _ (Keeps.refl _ _) rfl
          · have e2 : vs 2 = _ := hd 2 (by kernel_rfl)
            rw [e2] at hK ⊢
            clear hd
            go_wp2_with fail
            exact hK _ _ (Keeps.refl _ _) rfl
          · clear hd
            go_wp2_with fail
            exact hK _ _ (Keeps.refl _ _) rfl
          · clear hd
            go_wp2_with fail
            exact hK _ _ (Keeps.refl _ _) rfl
          · have e1 : vs 1 = _ := hd 1 (by kernel_rfl)
            have e3 : vs 3 = _ := hd 3 (by kernel_rfl)
            have e4 : vs 4 = _ := hd 4 (by kernel_rfl)
            have e5 : vs 5 = _ := hd 5 (by kernel_rfl)
            rw [e1, e3, e4, e5] at hK ⊢
            clear hd
            go_wp2_with (go_at_call 50; refine (HF0.out _).mono ?_; rintro e W1 ⟨rfl, g1⟩)
            exact hK _ _ g1 rfl
        intro vs wA hR hF
        have KwA : Hid (Keeps NoBlk wc wA) := HKA.out.trans0 (((Keeps.refl NoBlk w8).drew).trans0 hR)
        have RwA : Hid (RowAt wA b7 [.int .i64 o, .int .i64 va, .int .i64 vb, .int .i64 vc]) := HRA.out.keeps (((Keeps.refl NoBlk w8).drew).trans0 hR) (fun h => h)
        have e6 : vs 6 = _ := hF 6 (by decide)
        simp only [putsTo, List.getElem?_cons_zero, List.getElem?_cons_succ, Option.bind_some, Option.bind, Act.put, List.setIfInBounds_toArray, List.set_cons_zero, List.set_cons_succ, List.drop_succ_cons, List.drop_zero]
        rw [e6]
        clear hF e6
        generalize vs 0 = yy00
        generalize vs 1 = yy01
        generalize vs 2 = yy02
        generalize vs 3 = yy03
        generalize vs 4 = yy04
        generalize vs 5 = yy05
        clear hR vs
        go_upto_region 12 with fail
        refine wp_region_table 7 (by kernel_rfl) (by kernel_rfl) (Keeps NoBlk) (Keeps.refl NoBlk) (fun a b c h h' => Keeps.trans0 h h') (RcF b7 2 vb S2 q1 (.agg #[.slice ca nc cc, .int .i64 mu, .slice ta nt tc]) (.agg #[.int .i64 rg, .slice (some ⟨g1, o1, none⟩) (m + 1) ic]) r1) RcF.st ?_ ?_
        · intro i o' hi ho vs W Q' hR hd hK
          have HR' : Keeps NoBlk wA W := ((Keeps.refl NoBlk wA).drew).trans0 hR
          have x7 := (RwA.out.keeps HR' (fun h => h)).cell (k := 2) (v := .int .i64 vb) rfl
          have KW := KwA.out.trans0 HR'
          have x0 := (R2.out.keeps KW (fun h => h)).cell (k := 0) (v := .slice ca nc cc) rfl
          have x1 := (R2.out.keeps KW (fun h => h)).cell (k := 1) (v := .int .i64 mu) rfl
          have x2 := (R2.out.keeps KW (fun h => h)).cell (k := 2) (v := .slice ta nt tc) rfl
          have y0 := (R3.out.keeps KW (fun h => h)).cell (k := 0) (v := .int .i64 rg) rfl
          have y1 := (R3.out.keeps KW (fun h => h)).cell (k := 1) (v := .slice (some ⟨g1, o1, none⟩) (m + 1) ic) rfl
          have hix := HIX1.out
          clear KW HR'
          rcases (show i = 0 ∨ i = 1 ∨ i = 2 ∨ i = 3 ∨ i = 4 ∨ i = 5 ∨ i = 6 by omega) with rfl | rfl | rfl | rfl | rfl | rfl | rfl
          all_goals (simp only [List.getElem?_cons_zero, List.getElem?_cons_succ, Option.some.injEq] at ho; subst ho; simp only [putsTo, List.getElem?_cons_zero, List.getElem?_cons_succ, Option.bind_some, Option.bind, Act.put, List.setIfInBounds_toArray, List.set_cons_zero, List.set_cons_succ] at hK ⊢; clear hi)
          · clear hd
            go_wp2_with fail
            exact hK _ _ (Keeps.refl _ _) rfl
          · have e0 : vs 0 = _ := hd 0 (by kernel_rfl)
            rw [e0] at hK ⊢
            clear hd
            go_wp2_with fail
            exact hK _ _ (Keeps.refl _ _) rfl
          · clear hd
            go_wp2_with fail
            exact hK _ _ (Keeps.refl _ _) rfl
          · have e2 : vs 2 = _ := hd 2 (by kernel_rfl)
            rw [e2] at hK ⊢
            clear hd
            go_wp2_with fail
            exact hK _ _ (Keeps.refl _ _) rfl
          · clear hd
            go_wp2_with fail
            exact hK _ _ (Keeps.refl _ _) rfl
          · clear hd
            go_wp2_with fail
            exact hK _ _ (Keeps.refl _ _) rfl
          · have e1 : vs 1 = _ := hd 1 (by kernel_rfl)
            have e3 : vs 3 = _ := hd 3 (by kernel_rfl)
            have e4 : vs 4 = _ := hd 4 (by kernel_rfl)
            have e5 : vs 5 = _ := hd 5 (by kernel_rfl)
            rw [e1, e3, e4, e5] at hK ⊢
            clear hd
            go_wp2_with (go_at_call 50; refine (HF1.out _).mono ?_; rintro e W1 ⟨rfl, g1⟩)
            exact hK _ _ g1 rfl
        intro vs wB hR hF
        have KwB : Hid (Keeps NoBlk wc wB) := KwA.out.trans0 (((Keeps.refl NoBlk wA).drew).trans0 hR)
        have RwB : Hid (RowAt wB b7 [.int .i64 o, .int .i64 va, .int .i64 vb, .int .i64 vc]) := RwA.out.keeps (((Keeps.refl NoBlk wA).drew).trans0 hR) (fun h => h)
        have e6 : vs 6 = _ := hF 6 (by decide)
        simp only [putsTo, List.getElem?_cons_zero, List.getElem?_cons_succ, Option.bind_some, Option.bind, Act.put, List.setIfInBounds_toArray, List.set_cons_zero, List.set_cons_succ, List.drop_succ_cons, List.drop_zero]
        rw [e6]
        clear hF e6
        generalize vs 0 = yy10
        generalize vs 1 = yy11
        generalize vs 2 = yy12
        generalize vs 3 = yy13
        generalize vs 4 = yy14
        generalize vs 5 = yy15
        clear hR vs
        go_upto_region 13 with fail
        refine wp_region_table 7 (by kernel_rfl) (by kernel_rfl) (Keeps NoBlk) (Keeps.refl NoBlk) (fun a b c h h' => Keeps.trans0 h h') (RcF b7 3 vc S2 q2 (.agg #[.slice ca nc cc, .int .i64 mu, .slice ta nt tc]) (.agg #[.int .i64 rg, .slice (some ⟨g1, o1, none⟩) (m + 1) ic]) r2) RcF.st ?_ ?_
        · intro i o' hi ho vs W Q' hR hd hK
          have HR' : Keeps NoBlk wB W := ((Keeps.refl NoBlk wB).drew).trans0 hR
          have x7 := (RwB.out.keeps HR' (fun h => h)).cell (k := 3) (v := .int .i64 vc) rfl
          have KW := KwB.out.trans0 HR'
          have x0 := (R2.out.keeps KW (fun h => h)).cell (k := 0) (v := .slice ca nc cc) rfl
          have x1 := (R2.out.keeps KW (fun h => h)).cell (k := 1) (v := .int .i64 mu) rfl
          have x2 := (R2.out.keeps KW (fun h => h)).cell (k := 2) (v := .slice ta nt tc) rfl
          have y0 := (R3.out.keeps KW (fun h => h)).cell (k := 0) (v := .int .i64 rg) rfl
          have y1 := (R3.out.keeps KW (fun h => h)).cell (k := 1) (v := .slice (some ⟨g1, o1, none⟩) (m + 1) ic) rfl
          have hix := HIX2.out
          clear KW HR'
          rcases (show i = 0 ∨ i = 1 ∨ i = 2 ∨ i = 3 ∨ i = 4 ∨ i = 5 ∨ i = 6 by omega) with rfl | rfl | rfl | rfl | rfl | rfl | rfl
          all_goals (simp only [List.getElem?_cons_zero, List.getElem?_cons_succ, Option.some.injEq] at ho; subst ho; simp only [putsTo, List.getElem?_cons_zero, List.getElem?_cons_succ, Option.bind_some, Option.bind, Act.put, List.setIfInBounds_toArray, List.set_cons_zero, List.set_cons_succ] at hK ⊢; clear hi)
          · clear hd
            go_wp2_with fail
            exact hK _ _ (Keeps.refl _ _) rfl
          · have e0 : vs 0 = _ := hd 0 (by kernel_rfl)
            rw [e0] at hK ⊢
            clear hd
            go_wp2_with fail
            exact hK _ _ (Keeps.refl _ _) rfl
          · clear hd
            go_wp2_with fail
            exact hK _ _ (Keeps.refl _ _) rfl
          · have e2 : vs 2 = _ := hd 2 (by kernel_rfl)
            rw [e2] at hK ⊢
            clear hd
            go_wp2_with fail
            exact hK _ _ (Keeps.refl _ _) rfl
          · clear hd
            go_wp2_with fail
            exact hK _ _ (Keeps.refl _ _) rfl
          · clear hd
            go_wp2_with fail
            exact hK _ _ (Keeps.refl _ _) rfl
          · have e1 : vs 1 = _ := hd 1 (by kernel_rfl)
            have e3 : vs 3 = _ := hd 3 (by kernel_rfl)
            have e4 : vs 4 = _ := hd 4 (by kernel_rfl)
            have e5 : vs 5 = _ := hd 5 (by kernel_rfl)
            rw [e1, e3, e4, e5] at hK ⊢
            clear hd
            go_wp2_with (go_at_call 50; refine (HF2.out _).mono ?_; rintro e W1 ⟨rfl, g1⟩)
            exact hK _ _ g1 rfl
        intro vs wC hR hF
        have KwC : Hid (Keeps NoBlk wc wC) := KwB.out.trans0 (((Keeps.refl NoBlk wB).drew).trans0 hR)
        have RwC : Hid (RowAt wC b7 [.int .i64 o, .int .i64 va, .int .i64 vb, .int .i64 vc]) := RwB.out.keeps (((Keeps.refl NoBlk wB).drew).trans0 hR) (fun h => h)
        have e6 : vs 6 = _ := hF 6 (by decide)
        simp only [putsTo, List.getElem?_cons_zero, List.getElem?_cons_succ, Option.bind_some, Option.bind, Act.put, List.setIfInBounds_toArray, List.set_cons_zero, List.set_cons_succ, List.drop_succ_cons, List.drop_zero]
        rw [e6]
        clear hF e6
        generalize vs 0 = yy20
        generalize vs 1 = yy21
        generalize vs 2 = yy22
        generalize vs 3 = yy23
        generalize vs 4 = yy24
        generalize vs 5 = yy25
        clear hR vs
        go_upto_region 14 with fail
        cases r0
        · have HB : Hid (R = false) := HB3.out rfl
          clear HB3 HN3
          go_wp2_with fail
          go_ret
          exact ⟨congrArg (fun b => Ending.returned (.bool b)) HB.out.symm, HK0.out.trans0 KwC.out⟩
        cases r1
        · have HB : Hid (R = false) := HB3.out rfl
          clear HB3 HN3
          go_wp2_with fail
          go_ret
          exact ⟨congrArg (fun b => Ending.returned (.bool b)) HB.out.symm, HK0.out.trans0 KwC.out⟩
        cases r2
        · have HB : Hid (R = false) := HB3.out rfl
          clear HB3 HN3
          go_wp2_with fail
          go_ret
          exact ⟨congrArg (fun b => Ending.returned (.bool b)) HB.out.symm, HK0.out.trans0 KwC.out⟩
        have HN4 := Lib.hid (HN3.out rfl)
        clear HB3 HN3
        go_wp2_with fail
        exact ⟨⟨j + 1, by omega, by go_num, HN4.out, KwC.out⟩, by simp [intOf]; omega⟩
      · have hjm : j = m + 1 := by omega
        subst hjm
        clear hjl hj
        have HN4 := Lib.hid (HCT.out hag.out)
        go_wp2_with fail
        go_ret
        exact ⟨congrArg (fun b => Ending.returned (.bool b)) HN4.out.symm, HKW.out⟩
end Go.Proofs.Ytmkfpkficmmlgaa
