/- The document's machine: Step, the step itself. -/
import Derived.Test.YtmkfpkficmmlgaaK20
namespace Go.Proofs.Ytmkfpkficmmlgaa
open Go.RowKit
set_option linter.unusedVariables false
set_option linter.unusedSimpArgs false
set_option linter.unnecessarySimpa false

set_option maxRecDepth 8000 in
set_option maxHeartbeats 8000000 in
theorem rstep_go (w : World) (T : Tags) (id b gf cf i : Nat) (x : Img) (m : Mach) (f : Fr) (h : RmAt w T id b gf cf x m) (hg : VGood x m) (hz : VZero x m) (hr0 : refusedN x m i = 0) (hf : m.fr[i]? = some f) (hr : f.st = 2) (h29 : ((x.cod i).at f.at_).op ≠ 29) :
    Calls Try.prog 13 #[.pointer (some ⟨b, 0, none⟩), .int .i64 i] w (RStepEnd w T id b gf cf x ((doneN x m i).1, (doneN x m i).2, 0)) := by
  have h8 := (right_parts hg.right).1.2
  have hi : i < m.fr.length := (List.getElem?_eq_some_iff.1 hf).1
  have hi2 : i < x.threads.length := by rw [← hg.len]; exact hi
  have hc := right_cod hg.right hi2
  have HV := Lib.hid h
  have HG := Lib.hid hg
  have HZER := Lib.hid hz
  have HF := Lib.hid hf
  have HI := Lib.hid hi
  have HI2 := Lib.hid hi2
  have H8 := Lib.hid h8
  have HST := Lib.hid hr
  have HE : Hid (∀ W, Keeps NoBlk w W → Calls Try.prog 31 #[.pointer (some ⟨b, 0, none⟩), .int .i64 i] W fun e w' => e = .returned (.bool true) ∧ Keeps NoBlk W w') := fun W hk => (ren_any W T id b gf cf i x m f (h.keeps hk (fun _ _ h => h)) hf hg).mono (fun e w' h => ⟨by rw [h.1, decide_eq_true hr0], h.2⟩)
  obtain ⟨k, ek⟩ : ∃ k, k = (actN x m i).1 := ⟨_, rfl⟩
  obtain ⟨o, eo⟩ : ∃ k, k = (actN x m i).2 := ⟨_, rfl⟩
  have EK := Lib.hid ek
  have EO := Lib.hid eo
  have HA : Hid (∀ W, Keeps NoBlk w W → Calls Try.prog 32 #[.pointer (some ⟨b, 0, none⟩), .int .i64 i] W fun e w' => e = .returned (.agg #[.int .i64 k, .int .i64 o]) ∧ Keeps NoBlk W w') := fun W hk => by
    rw [ek, eo]
    exact raction_any W T id b gf cf i x m f (h.keeps hk (fun _ _ h => h)) hf hg
  obtain ⟨I, hI⟩ : ∃ I : Ins, I = (x.cod i).at f.at_ := ⟨_, rfl⟩
  have HIN := Lib.hid hI
  rw [← hI] at h29
  have HNX : Hid (∀ W, Keeps NoBlk w W → Calls Try.prog 33 #[.pointer (some ⟨b, 0, none⟩), .int .i64 i] W fun e w' => e = .returned (.agg #[.int .i64 I.op, .int .i64 I.a, .int .i64 I.b, .int .i64 I.c]) ∧ Keeps NoBlk W w') := fun W hk => by
    rw [hI]
    exact rnext_any W T id b gf cf i x m f (h.keeps hk (fun _ _ h => h)) hf hi2 h8 hg.len hc (hg.ok.each i f hf).at_
  obtain ⟨k5, t0, t2, _, _⟩ := h.cells5 hf
  have lb : b < w.heap.size := World.block_lt_of_cell? w _ k5
  have lf : gf < w.heap.size := World.block_lt_of_cell? w _ t0
  have nb : b ≠ w.heap.size := by omega
  have nf : gf ≠ w.heap.size := by omega
  have i1 : (0 : Int) ≤ i := by omega
  have i2 : (i : Int) < m.fr.length := by omega
  have e1 : decide ((i : Int) < 0) = false := decide_eq_false (by omega)
  rw [hr] at t0
  clear h hg hf hi hi2 h8 hr hc hr0 ek eo hI hz t2
  go_enter Try.func13, Try.ntmps13
  go_wp2_with fail
  refine (HE.out _ ((Keeps.refl _ w).alloc _)).mono ?_
  rintro e w1 ⟨rfl, h1⟩
  have H1 : Hid (Keeps NoBlk w w1) := ((Keeps.refl _ w).alloc _).trans h1 (fun _ _ h => h)
  have hz := h1.heap (k := w.heap.size) (fun h => h) (heap_alloc_new w _)
  have HROW : Hid (RowAt w1 w.heap.size [.int .i64 0, .int .i64 0, .int .i64 0, .int .i64 0, .int .i64 0]) := RowAt.ofBlock hz
  obtain ⟨z, hz0⟩ : ∃ z, z = w.heap.size := ⟨_, rfl⟩
  have HZ : Hid (z = w.heap.size ∧ z < w1.heap.size) := ⟨hz0, by rw [hz0]; exact Nat.lt_of_lt_of_le (by simp) h1.size⟩
  rw [← hz0] at HROW ⊢
  clear hz h1 hz0
  go_wp2_with fail
  refine (HA.out _ H1.out).mono ?_
  rintro e w2 ⟨rfl, h2⟩
  have H2 : Hid (Keeps NoBlk w w2) := H1.out.trans h2 (fun _ _ h => h)
  have H12 := Lib.hid h2
  clear h2
  go_wp2_with fail
  refine (HNX.out _ (H2.out.alloc _)).mono ?_
  rintro e w3 ⟨rfl, h3⟩
  have H3 : Hid (Keeps NoBlk w w3) := (H2.out.alloc _).trans h3 (fun _ _ h => h)
  have H13 : Hid (Keeps NoBlk w1 w3) := ((H12.out.alloc _).trans h3 (fun _ _ h => h))
  have hy := h3.heap (k := w2.heap.size) (fun h => h) (heap_alloc_new w2 _)
  have y0 : w3.cell? ⟨w2.heap.size, 0, none⟩ = some (.int .i64 k) := cell_of_row w3 _ 0 _ _ _ hy
  have y1 : w3.cell? ⟨w2.heap.size, 1, none⟩ = some (.int .i64 o) := cell_of_row w3 _ 1 _ _ _ hy
  obtain ⟨y, hy0⟩ : ∃ y, y = w2.heap.size := ⟨_, rfl⟩
  rw [← hy0] at y0 y1 ⊢
  have ly : y < w3.heap.size := World.block_lt_of_cell? w3 _ y0
  have n2 : y ≠ w3.heap.size := by omega
  have n2' : y ≠ w3.heap.size + 1 := by omega
  have V3 : Hid (RmAt w3 T id b gf cf x m) := HV.out.keeps H3.out (fun _ _ h => h)
  have TZ : Hid (T z = none) := HV.out.free (by rw [HZ.out.1]; exact Nat.le_refl _)
  obtain ⟨k5, t0, t2, ff0, ff2⟩ := V3.out.cells5 HF.out
  have hzr : RowAt w3 z [.int .i64 0, .int .i64 0, .int .i64 0, .int .i64 0, .int .i64 0] := HROW.out.keeps H13.out (fun h => h)
  have ZR := Lib.hid hzr
  have lz : z < w3.heap.size := hzr.lt (by simp)
  have lf : gf < w3.heap.size := World.block_lt_of_cell? w3 _ t0
  have lb : b < w3.heap.size := World.block_lt_of_cell? w3 _ k5
  have zgf : z ≠ gf := fun e => by have h9 := V3.out.frTag; rw [← e, TZ.out] at h9; cases h9
  have n6 : gf ≠ z := fun e => zgf e.symm
  have n1 : z ≠ w3.heap.size := by omega
  have n1' : z ≠ w3.heap.size + 1 := by omega
  have n3 : gf ≠ w3.heap.size := by omega
  have n3' : gf ≠ w3.heap.size + 1 := by omega
  have n4 : w3.heap.size ≠ z := by omega
  have n4' : w3.heap.size + 1 ≠ z := by omega
  have n5 : w3.heap.size ≠ gf := by omega
  have n5' : w3.heap.size + 1 ≠ gf := by omega
  have n7 : b ≠ w3.heap.size := by omega
  have n7' : b ≠ w3.heap.size + 1 := by omega
  have GW : Hid (w.heap.size ≤ w3.heap.size) := H3.out.size
  clear hy hy0 h3 nb nf
  have e9 : (I.op == 29) = false := by rw [beq_eq_false_iff_ne]; exact h29
  have h29' : ((x.cod i).at f.at_).op ≠ 29 := by rw [← HIN.out]; exact h29
  have HS := Lib.hid (step_ok HG.out i f HF.out HST.out h29')
  have HNXT := Lib.hid (step_next HG.out i f HF.out HST.out h29')
  have H29 := Lib.hid h29'
  have hKW : Keeps NoBlk w3 ((w3.alloc (.cells #[.int .i64 I.op, .int .i64 I.a, .int .i64 I.b, .int .i64 I.c] 48)).alloc (.cells #[.int .i64 i, .int .i64 k, .int .i64 o, .int .i64 0, .int .i64 0] 40)) := ((Keeps.refl _ w3).alloc _).alloc _
  have HAL : Hid (RmAt ((w3.alloc (.cells #[.int .i64 I.op, .int .i64 I.a, .int .i64 I.b, .int .i64 I.c] 48)).alloc (.cells #[.int .i64 i, .int .i64 k, .int .i64 o, .int .i64 0, .int .i64 0] 40)) T id b gf cf x m) := V3.out.keeps hKW (fun _ _ h => h)
  have HEV : Hid (RowAt ((w3.alloc (.cells #[.int .i64 I.op, .int .i64 I.a, .int .i64 I.b, .int .i64 I.c] 48)).alloc (.cells #[.int .i64 i, .int .i64 k, .int .i64 o, .int .i64 0, .int .i64 0] 40)) (w3.heap.size + 1) [.int .i64 i, .int .i64 k, .int .i64 o, .int .i64 0, .int .i64 0]) := RowAt.ofBlock (heap_alloc2 w3 _ _)
  have HINS : Hid (RowAt ((w3.alloc (.cells #[.int .i64 I.op, .int .i64 I.a, .int .i64 I.b, .int .i64 I.c] 48)).alloc (.cells #[.int .i64 i, .int .i64 k, .int .i64 o, .int .i64 0, .int .i64 0] 40)) w3.heap.size [.int .i64 I.op, .int .i64 I.a, .int .i64 I.b, .int .i64 I.c]) := RowAt.ofBlock ((Below.heap_alloc _ _ _ (by simp)).trans (heap_alloc_new w3 _))
  have HZ3 : Hid (RowAt ((w3.alloc (.cells #[.int .i64 I.op, .int .i64 I.a, .int .i64 I.b, .int .i64 I.c] 48)).alloc (.cells #[.int .i64 i, .int .i64 k, .int .i64 o, .int .i64 0, .int .i64 0] 40)) z [.int .i64 0, .int .i64 0, .int .i64 0, .int .i64 0, .int .i64 0]) := ZR.out.keeps hKW (fun h => h)
  have K3 : Hid (Keeps NoBlk w ((w3.alloc (.cells #[.int .i64 I.op, .int .i64 I.a, .int .i64 I.b, .int .i64 I.c] 48)).alloc (.cells #[.int .i64 i, .int .i64 k, .int .i64 o, .int .i64 0, .int .i64 0] 40))) := H3.out.trans hKW (fun _ _ h => h)
  have TQ : Hid (T (w3.heap.size + 1) = none) := V3.out.free (Nat.le_succ _)
  clear hKW t0 t2 ff0 ff2 k5
  go_upto_region 19 with fail
  obtain ⟨W, hW⟩ : ∃ W, W = (w3.alloc (.cells #[.int .i64 I.op, .int .i64 I.a, .int .i64 I.b, .int .i64 I.c] 48)).alloc (.cells #[.int .i64 i, .int .i64 k, .int .i64 o, .int .i64 0, .int .i64 0] 40) := ⟨_, rfl⟩
  have hsz : W.heap.size = w3.heap.size + 2 := by rw [hW]; simp
  rw [← hW] at HAL HEV HINS HZ3 K3 ⊢
  have HWS : Hid (z < W.heap.size ∧ w3.heap.size + 1 < W.heap.size) := ⟨by omega, by omega⟩
  have p0 := HINS.out.cell (k := 0) rfl
  have p1 := HINS.out.cell (k := 1) rfl
  have p2 := HINS.out.cell (k := 2) rfl
  have p3 := HINS.out.cell (k := 3) rfl
  obtain ⟨q, hq⟩ : ∃ q, q = w3.heap.size + 1 := ⟨_, rfl⟩
  obtain ⟨p, hp⟩ : ∃ p, p = w3.heap.size := ⟨_, rfl⟩
  rw [← hq] at HEV TQ HWS n1' ⊢
  rw [← hp] at p0 p1 p2 p3 ⊢
  have NQ : Hid (w.heap.size ≤ q) := by rw [hq]; have := GW.out; exact Nat.le_succ_of_le this
  have hd := rdo_any W T id b gf cf x m i f HAL.out HF.out HG.out HZER.out HST.out H29.out
  rw [← HIN.out] at hd
  have HD := Lib.hid hd
  clear hd hW hsz hq hp n1 n2 n2' n3 n3' n4 n4' n5 n5' n7 n7' ly lz lf lb HINS hzr y0 y1 h29 h29'
  go_wp2_with fail
  refine HD.out.mono ?_
  rintro e w4 ⟨rfl, T', hTN, hv, hk⟩
  obtain ⟨hg1, f1, e1, e2, e3, e4⟩ := HS.out
  have hdn := done_go x m i f f1 HF.out HST.out H29.out EK.out EO.out e1
  rw [← HIN.out] at hg1 e1 hdn
  obtain ⟨⟨m1, v, bad⟩, hRR⟩ : ∃ R, R = stepN x m i I := ⟨_, rfl⟩
  rw [← hRR] at hv hg1 e1 hdn ⊢
  dsimp only at hv hg1 e1 hdn ⊢
  have DN := Lib.hid hdn
  have E1 := Lib.hid e1
  have E2 := Lib.hid e2
  have E3 := Lib.hid e3
  have G1 := Lib.hid hg1
  have TQ' : Hid (T' q = none) := hTN.none TQ.out HWS.out.2
  have TZ' : Hid (T' z = none) := hTN.none TZ.out HWS.out.1
  have hTW : ExtN T T' id w := ⟨hTN.1, fun k y e => (hTN.2 k y e).imp_right (fun h' => ⟨Nat.le_trans K3.out.size h'.1, h'.2⟩)⟩
  have HTW := Lib.hid hTW
  have K4 : Hid (Keeps (Own T id) w w4) := (K3.out.mono (fun _ _ h => h.elim)).trans hk (fun _ _ h => h)
  have hev4 : RowAt w4 q [.int .i64 i, .int .i64 k, .int .i64 o, .int .i64 0, .int .i64 0] := HEV.out.keeps hk (fun h => not_own TQ.out (.inr h))
  have hzr : RowAt w4 z [.int .i64 0, .int .i64 0, .int .i64 0, .int .i64 0, .int .i64 0] := HZ3.out.keeps hk (fun h => not_own TZ.out (.inr h))
  have HEV5 : Hid (RowAt ((w4.setCell ⟨q, 3, none⟩ (.int .i64 v)).setCell ⟨q, 4, none⟩ (.int .i64 bad)) q [.int .i64 i, .int .i64 k, .int .i64 o, .int .i64 v, .int .i64 bad]) := (hev4.set 3 (by simp) (.int .i64 v)).set 4 (by simp) (.int .i64 bad)
  have V5 : Hid (RmAt ((w4.setCell ⟨q, 3, none⟩ (.int .i64 v)).setCell ⟨q, 4, none⟩ (.int .i64 bad)) T' id b gf cf x m1) := (hv.put TQ'.out 3 (.int .i64 v)).put TQ'.out 4 (.int .i64 bad)
  have zq : z ≠ q := n1'
  have qz : q ≠ z := fun e => n1' e.symm
  have ZR5 : Hid (RowAt ((w4.setCell ⟨q, 3, none⟩ (.int .i64 v)).setCell ⟨q, 4, none⟩ (.int .i64 bad)) z [.int .i64 0, .int .i64 0, .int .i64 0, .int .i64 0, .int .i64 0]) := (hzr.other (p := ⟨q, 3, none⟩) qz _).other (p := ⟨q, 4, none⟩) qz _
  have K5 : Hid (Keeps (Own T id) w ((w4.setCell ⟨q, 3, none⟩ (.int .i64 v)).setCell ⟨q, 4, none⟩ (.int .i64 bad))) := (K4.out.setCell (p := ⟨q, 3, none⟩) (fun h => absurd h (Nat.not_lt.2 NQ.out)) _).setCell (p := ⟨q, 4, none⟩) (fun h => absurd h (Nat.not_lt.2 NQ.out)) _
  have q3 := hev4.cell (k := 3) rfl
  have q4 := hev4.cell (k := 4) rfl
  have qf3 := hev4.free (k := 3) (by simp)
  have qf4 := hev4.free (k := 4) (by simp)
  clear hdn e1 e2 e3 e4 hg1 hRR hTN hTW hv hk hev4 hzr HD HS
  go_upto_region 22 with fail
  generalize (w4.setCell ⟨q, 3, none⟩ (.int .i64 v)).setCell ⟨q, 4, none⟩ (.int .i64 bad) = w5 at HEV5 V5 ZR5 K5 ⊢
  clear q3 q4 qf3 qf4 p0 p1 p2 p3
  obtain ⟨k5, t0, t2, ff0, ff2⟩ := V5.out.cells5 E1.out
  have hm1 : m1.fr.length = m.fr.length := by rw [G1.out.len, HG.out.len]
  rw [hm1] at k5
  have hev := HEV5.out
  have hzr := ZR5.out
  have lq : q < w5.heap.size := hev.lt (by simp)
  have lz : z < w5.heap.size := hzr.lt (by simp)
  have lf : gf < w5.heap.size := World.block_lt_of_cell? w5 _ t0
  have qf : q ≠ gf := fun e => by have h9 := V5.out.frTag; rw [← e, TQ'.out] at h9; cases h9
  have fq : gf ≠ q := fun e => qf e.symm
  have bq : b ≠ gf := fun e => by have h9 := V5.out.frTag; rw [← e, V5.out.tag] at h9; simp at h9
  have bq' : gf ≠ b := fun e => bq e.symm
  have v0 := hev.cell (k := 0) (v := .int .i64 i) rfl
  have v1 := hev.cell (k := 1) (v := .int .i64 k) rfl
  have v2 := hev.cell (k := 2) (v := .int .i64 o) rfl
  have v3 := hev.cell (k := 3) (v := .int .i64 v) rfl
  have v4 := hev.cell (k := 4) (v := .int .i64 bad) rfl
  have z0 := hzr.cell (k := 0) rfl
  have z1 := hzr.cell (k := 1) rfl
  have z2 := hzr.cell (k := 2) rfl
  have z3 := hzr.cell (k := 3) rfl
  have z4 := hzr.cell (k := 4) rfl
  have zf0 := hzr.free (k := 0) (by simp)
  have zf1 := hzr.free (k := 1) (by simp)
  have zf2 := hzr.free (k := 2) (by simp)
  have zf3 := hzr.free (k := 3) (by simp)
  have zf4 := hzr.free (k := 4) (by simp)
  by_cases hb : bad = 0
  · subst hb
    have e0 : ((0 : Int) != 0) = false := by simp
    have a1 : (0 : Int) ≤ f1.at_ := by omega
    have a2 : (f1.at_ : Int) < 4000 := by
      have h1 := (G1.out.ok.each i f1 E1.out).at_
      have h2 := (codN_parts (right_cod HG.out.right HI2.out)).2.1.2
      omega
    have v6 := V5.out.setAt E1.out E3.out (f1.at_ + 1)
    have hl6 : (m1.setFr i { f1 with at_ := f1.at_ + 1 }).fr[i]? = some { f1 with at_ := f1.at_ + 1 } := get_setFr_eq _ _ _ (List.getElem?_eq_some_iff.1 E1.out).1
    have HL := Lib.hid (rlocal_any _ T' id b gf cf i x _ { f1 with at_ := f1.at_ + 1 } v6 hl6 E3.out HI2.out H8.out (by simp [Mach.setFr]; exact G1.out.len) (right_cod HG.out.right HI2.out) ⟨(G1.out.ok.each i f1 E1.out).regs, by show f1.at_ + 1 < _; rw [E2.out]; exact HNXT.out⟩)
    have hfr : Own T id gf := ⟨_, V3.out.frTag, by simp⟩
    have KO6 : Hid (Keeps (Own T id) w (w5.setCell ⟨gf, i * 3 + 2, none⟩ (.int .i64 ((f1.at_ + 1 : Nat) : Int)))) := K5.out.setCell (p := ⟨gf, i * 3 + 2, none⟩) (fun _ => hfr) _
    have Q6 : Hid (RowAt (w5.setCell ⟨gf, i * 3 + 2, none⟩ (.int .i64 ((f1.at_ + 1 : Nat) : Int))) q [.int .i64 i, .int .i64 k, .int .i64 o, .int .i64 v, .int .i64 0]) := HEV5.out.other (p := ⟨gf, i * 3 + 2, none⟩) fq _
    have Z6 : Hid (RowAt (w5.setCell ⟨gf, i * 3 + 2, none⟩ (.int .i64 ((f1.at_ + 1 : Nat) : Int))) z [.int .i64 0, .int .i64 0, .int .i64 0, .int .i64 0, .int .i64 0]) := ZR5.out.other (p := ⟨gf, i * 3 + 2, none⟩) n6 _
    clear v6 hl6 hzr hev hfr
    go_wp2_with fail
    refine HL.out.mono ?_
    rintro e w6 ⟨rfl, hv6, hk6⟩
    have hev := Q6.out.keeps hk6 (fun h => not_own TQ'.out (.inr h))
    have hzr := Z6.out.keeps hk6 (fun h => not_own TZ'.out (.inr h))
    have V6 := Lib.hid hv6
    have K6 := Lib.hid (HTW.out.own hk6 KO6.out.size KO6.out)
    have ZR6 := Lib.hid hzr
    clear hv6 hk6
    have lq : q < w6.heap.size := hev.lt (by simp)
    have lz : z < w6.heap.size := hzr.lt (by simp)
    have v0 := hev.cell (k := 0) (v := .int .i64 i) rfl
    have v1 := hev.cell (k := 1) (v := .int .i64 k) rfl
    have v2 := hev.cell (k := 2) (v := .int .i64 o) rfl
    have v3 := hev.cell (k := 3) (v := .int .i64 v) rfl
    have v4 := hev.cell (k := 4) (v := .int .i64 0) rfl
    have z0 := hzr.cell (k := 0) rfl
    have z1 := hzr.cell (k := 1) rfl
    have z2 := hzr.cell (k := 2) rfl
    have z3 := hzr.cell (k := 3) rfl
    have z4 := hzr.cell (k := 4) rfl
    have zf0 := hzr.free (k := 0) (by simp)
    have zf1 := hzr.free (k := 1) (by simp)
    have zf2 := hzr.free (k := 2) (by simp)
    have zf3 := hzr.free (k := 3) (by simp)
    have zf4 := hzr.free (k := 4) (by simp)
    clear hev hzr
    go_wp2
    have v7 := V6.out.five TZ'.out (.int .i64 i) (.int .i64 k) (.int .i64 o) (.int .i64 v) (.int .i64 0)
    have f5 := five_row ZR6.out (.int .i64 i) (.int .i64 k) (.int .i64 o) (.int .i64 v) (.int .i64 0)
    have k7 := five_keeps (S := Own T id) K6.out (z := z) (fun h => absurd h (by rw [HZ.out.1]; exact Nat.lt_irrefl _)) (.int .i64 i) (.int .i64 k) (.int .i64 o) (.int .i64 v) (.int .i64 0)
    change bodyPost _ _ _ _ _ (five w6 z (.int .i64 i) (.int .i64 k) (.int .i64 o) (.int .i64 v) (.int .i64 0))
    generalize five w6 z (.int .i64 i) (.int .i64 k) (.int .i64 o) (.int .i64 v) (.int .i64 0) = w7 at v7 f5 k7 ⊢
    refine bodyPost_ret (v := .tuple #[.agg #[.int .i64 i, .int .i64 k, .int .i64 o, .int .i64 v, .int .i64 0], .int .i64 0]) (by simp [results, Try.results13, go_sem, f5.cell (k := 0) rfl, f5.cell (k := 1) rfl, f5.cell (k := 2) rfl, f5.cell (k := 3) rfl, f5.cell (k := 4) rfl]) rfl ⟨by rw [DN.out]; rfl, T', HTW.out, ?_, k7⟩
    rw [DN.out]
    rw [Mach.setFr_set] at v7
    exact v7
  · have e0 : (bad != 0) = true := by rw [bne_iff_ne]; exact hb
    clear hzr hev
    go_wp2
    have v7 := (V5.out.setSt E1.out E3.out 4 (by decide)).five TZ'.out (.int .i64 i) (.int .i64 k) (.int .i64 o) (.int .i64 v) (.int .i64 bad)
    have f5 := five_row (ZR5.out.other (p := ⟨gf, i * 3, none⟩) n6 (.int .i64 4)) (.int .i64 i) (.int .i64 k) (.int .i64 o) (.int .i64 v) (.int .i64 bad)
    have k7 := five_keeps (S := Own T id) (K5.out.setCell (p := ⟨gf, i * 3, none⟩) (fun _ => ⟨_, V3.out.frTag, by simp⟩) (.int .i64 4)) (z := z) (fun h => absurd h (by rw [HZ.out.1]; exact Nat.lt_irrefl _)) (.int .i64 i) (.int .i64 k) (.int .i64 o) (.int .i64 v) (.int .i64 bad)
    change bodyPost _ _ _ _ _ (five (w5.setCell ⟨gf, i * 3, none⟩ (.int .i64 4)) z (.int .i64 i) (.int .i64 k) (.int .i64 o) (.int .i64 v) (.int .i64 bad))
    generalize five (w5.setCell ⟨gf, i * 3, none⟩ (.int .i64 4)) z (.int .i64 i) (.int .i64 k) (.int .i64 o) (.int .i64 v) (.int .i64 bad) = w7 at v7 f5 k7 ⊢
    have DN2 : doneN x m i = (m1.setFr i { f1 with st := 4 }, ⟨i, k, o, v, bad⟩) := by rw [DN.out, if_pos hb]
    refine bodyPost_ret (v := .tuple #[.agg #[.int .i64 i, .int .i64 k, .int .i64 o, .int .i64 v, .int .i64 bad], .int .i64 0]) (by simp [results, Try.results13, go_sem, f5.cell (k := 0) rfl, f5.cell (k := 1) rfl, f5.cell (k := 2) rfl, f5.cell (k := 3) rfl, f5.cell (k := 4) rfl]) rfl ⟨by rw [DN2]; rfl, T', HTW.out, by rw [DN2]; exact v7, k7⟩


theorem rstep_do (w : World) (T : Tags) (id b gf cf i : Nat) (x : Img) (m : Mach) (f : Fr) (h : RmAt w T id b gf cf x m) (hg : VGood x m) (hz : VZero x m) (hr0 : refusedN x m i = 0) (hf : m.fr[i]? = some f) (hr : f.st = 2) :
    Calls Try.prog 13 #[.pointer (some ⟨b, 0, none⟩), .int .i64 i] w (RStepEnd w T id b gf cf x ((doneN x m i).1, (doneN x m i).2, 0)) := by
  by_cases h29 : ((x.cod i).at f.at_).op = 29
  · exact rstep_end w T id b gf cf i x m f h hg hz hr0 hf hr h29
  · exact rstep_go w T id b gf cf i x m f h hg hz hr0 hf hr h29

theorem rstep_any (w : World) (T : Tags) (id b gf cf : Nat) (x : Img) (m : Mach) (i : Int) (h : RmAt w T id b gf cf x m) (hg : VGood x m) (hz : VZero x m) :
    Calls Try.prog 13 #[.pointer (some ⟨b, 0, none⟩), .int .i64 i] w (RStepEnd w T id b gf cf x (stepR x m i)) := by
  by_cases hlo : i < 0
  · have e : refusedN x m i = 2 := by unfold refusedN; rw [if_pos (.inl hlo)]
    have e2 : stepR x m i = (m, zeroEv, 2) := by unfold stepR; rw [e]; rfl
    rw [e2]
    exact rstep_low w T id b gf cf x m i h hlo
  by_cases hhi : (m.fr.length : Int) ≤ i
  · have e : refusedN x m i = 2 := by unfold refusedN; rw [if_pos (.inr hhi)]
    have e2 : stepR x m i = (m, zeroEv, 2) := by unfold stepR; rw [e]; rfl
    rw [e2]
    exact rstep_high w T id b gf cf x m i h (by omega) hhi
  obtain ⟨k, rfl⟩ : ∃ k : Nat, i = k := ⟨i.toNat, by omega⟩
  have hk : k < m.fr.length := by omega
  have hf : m.fr[k]? = some m.fr[k] := List.getElem?_eq_getElem hk
  generalize m.fr[k] = f at hf
  have hst := hg.sts k f hf
  by_cases h2 : f.st = 2
  · by_cases hr : refusedN x m k = 0
    · have e2 : stepR x m k = ((doneN x m k).1, (doneN x m k).2, 0) := by unfold stepR; rw [if_neg (by rw [hr]; simp)]; rfl
      rw [e2]
      exact rstep_do w T id b gf cf k x m f h hg hz hr hf h2
    · have e : refusedN x m k = 83 := by
        rw [refused_run hf h2] at hr ⊢
        split at hr
        · rename_i hw; rw [if_pos hw]
        · exact absurd rfl hr
      have e2 : stepR x m k = (m, zeroEv, 83) := by unfold stepR; rw [e]; rfl
      rw [e2]
      exact rstep_waits w T id b gf cf x m k f h hg hf h2 hr
  · have h3 : f.st = 1 ∨ f.st = 3 ∨ f.st = 4 := by omega
    have e := refused_idle (x := x) hf h3
    have e2 : stepR x m k = (m, zeroEv, if f.st = 1 then 80 else if f.st = 3 then 81 else 82) := by
      unfold stepR
      rw [e, if_pos]
      · rfl
      · rcases h3 with e | e | e <;> simp [e]
    rw [e2]
    exact rstep_state w T id b gf cf x m k f h hf f.st rfl h3
end Go.Proofs.Ytmkfpkficmmlgaa

/- Idle threads' registers stay nought; the machine at its beginning may be. -/
namespace Go.Proofs.Ytmkfpkficmmlgaa
open Go.RowKit
set_option linter.unusedVariables false
set_option linter.unusedSimpArgs false
set_option linter.unnecessarySimpa false

/-- who is idle behind was so before -/
def Idle (m m' : Mach) : Prop := ∀ (i : Nat) (f : Fr), m'.fr[i]? = some f → f.st = 1 → m.fr[i]? = some f
theorem Idle.refl (m : Mach) : Idle m m := fun _ _ h _ => h
theorem Idle.trans {a b c : Mach} (h : Idle a b) (h' : Idle b c) : Idle a c := fun i f e s => h i f (h' i f e s) s
theorem Idle.setFr (m : Mach) (k : Nat) (g : Fr) (hg : g.st ≠ 1) : Idle m (m.setFr k g) := by
  intro i f e s
  by_cases hk : k = i
  · subst hk
    have hlt : k < m.fr.length := by
      have := (List.getElem?_eq_some_iff.1 e).1
      simpa [Mach.setFr] using this
    rw [get_setFr_eq m k g hlt] at e
    cases e
    exact absurd s hg
  · rw [get_setFr_ne m k i g hk] at e
    exact e
theorem Idle.begin (x : Img) (m : Mach) (k : Nat) : Idle m (beginN x m k) := by
  refine Idle.setFr m k _ ?_
  rcases loc_st (x.cod k) 100000 { m.get k with st := 2 } with e | e <;> rw [e] <;> simp
theorem Idle.step (x : Img) (m : Mach) (i : Nat) (n : Ins) (h : (m.get i).st ≠ 1) : Idle m (stepN x m i n).1 := by
  unfold stepN
  dsimp only
  repeat' split
  all_goals first
  | exact Idle.refl m
  | exact Idle.setFr m i _ h
  | exact Idle.begin x m _
  | exact fun _ _ h _ => h
  | (refine Idle.trans (b := { m with cells := _ }) ?_ (Idle.setFr _ i _ h); exact fun _ _ h _ => h)
theorem Idle.done {x : Img} {m : Mach} (hg : VGood x m) (i : Nat) (f : Fr) (hf : m.fr[i]? = some f) (hr : f.st = 2) : Idle m (doneN x m i).1 := by
  have hgf : m.get i = f := by simp [Mach.get, List.getD, hf]
  unfold doneN
  by_cases h29 : ((x.cod i).at (m.get i).at_).op = 29
  · simp only [h29, if_true]
    exact Idle.setFr m i _ (by simp)
  · simp only [if_neg h29]
    have hs := Idle.step x m i ((x.cod i).at (m.get i).at_) (by rw [hgf, hr]; decide)
    rw [hgf] at h29 hs ⊢
    obtain ⟨_, f1, h1, _, h3, _⟩ := step_ok hg i f hf hr h29
    have hg1 : (stepN x m i ((x.cod i).at f.at_)).1.get i = f1 := by simp [Mach.get, List.getD, h1]
    split
    · exact hs.trans (Idle.setFr _ i _ (by simp))
    · refine hs.trans (Idle.setFr _ i _ ?_)
      rw [hg1]
      rcases loc_st (x.cod i) 100000 f1.on with e | e <;> rw [e]
      · show f1.st ≠ 1
        rw [h3]; decide
      · decide
theorem VZero.idle {x : Img} {m m' : Mach} (hz : VZero x m) (h : Idle m m') : VZero x m' := fun i f e s => hz i f (h i f e s) s
theorem stepR_zero {x : Img} {m : Mach} (i : Int) (hg : VGood x m) (hz : VZero x m) : VZero x (stepR x m i).1 := by
  unfold stepR
  by_cases hr : refusedN x m i = 0
  · obtain ⟨k, f, rfl, hf, hst⟩ := refused_zero hg hr
    rw [if_neg (by rw [hr]; simp)]
    exact hz.idle (Idle.done hg k f hf hst)
  · rw [if_pos hr]
    exact hz
/-- the machine ahead of its first thread's beginning -/
def new0 (x : Img) : Mach := ⟨x.cells, List.replicate x.mutexes.toNat (-1), x.threads.map fun c => ⟨1, List.replicate c.regs.toNat 0, 0⟩⟩
theorem new0_get (x : Img) (i : Nat) (f : Fr) (h : (new0 x).fr[i]? = some f) : i < x.threads.length ∧ f = ⟨1, List.replicate (x.cod i).regs.toNat 0, 0⟩ := by
  have hi : i < x.threads.length := by have := (List.getElem?_eq_some_iff.1 h).1; simpa [new0] using this
  refine ⟨hi, ?_⟩
  simp [new0, hi] at h
  simp [Img.cod, List.getD, hi, h]
theorem new0_zero (x : Img) : VZero x (new0 x) := by
  intro i f h _
  obtain ⟨_, rfl⟩ := new0_get x i f h
  rfl
theorem new0_good {x : Img} (h : rightN x = true) : VGood x (new0 x) := by
  have hp := right_parts h
  refine ⟨h, ⟨rfl, ?_, by simp [new0], ?_⟩, ?_, ?_⟩
  · simp [new0]
    omega
  · intro i f e
    obtain ⟨hi, rfl⟩ := new0_get x i f e
    have hc := codN_parts (right_cod h hi)
    refine ⟨?_, by show 0 < _; omega⟩
    simp
    omega
  · intro i f e e2
    obtain ⟨hi, rfl⟩ := new0_get x i f e
    cases e2
  · intro i f e
    obtain ⟨hi, rfl⟩ := new0_get x i f e
    exact .inl rfl
theorem newN_eq (x : Img) : newN x = beginN x (new0 x) 0 := rfl
theorem newN_good {x : Img} (h : rightN x = true) : VGood x (newN x) := good_begin (new0_good h) 0 (by have := (right_parts h).1; omega)
theorem newN_zero (x : Img) : VZero x (newN x) := (new0_zero x).idle (Idle.begin x (new0 x) 0)
end Go.Proofs.Ytmkfpkficmmlgaa
