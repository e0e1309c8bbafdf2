/- The document's machine: what a step does, whole. -/
import Derived.Test.YtmkfpkficmmlgaaK19
namespace Go.Proofs.Ytmkfpkficmmlgaa
open Go.RowKit
set_option linter.unusedVariables false
set_option linter.unusedSimpArgs false
set_option linter.unnecessarySimpa false

/-- what a step does -/
theorem rdo_any (w : World) (T : Tags) (id b gf cf : Nat) (x : Img) (m : Mach) (i : Nat) (f : Fr) (h : RmAt w T id b gf cf x m) (hf : m.fr[i]? = some f) (hg : VGood x m) (hz : VZero x m) (hr : f.st = 2) (h29 : ((x.cod i).at f.at_).op ≠ 29) :
    Calls Try.prog 34 #[.pointer (some ⟨b, 0, none⟩), .int .i64 i, .agg #[.int .i64 ((x.cod i).at f.at_).op, .int .i64 ((x.cod i).at f.at_).a, .int .i64 ((x.cod i).at f.at_).b, .int .i64 ((x.cod i).at f.at_).c]] w
      (RDoesEnd w T id b gf cf x (stepN x m i ((x.cod i).at f.at_)).1 (stepN x m i ((x.cod i).at f.at_)).2.1 (stepN x m i ((x.cod i).at f.at_)).2.2) := by
  have h8 := (right_parts hg.right).1.2
  have hm := hg.ok
  have hop := steps_nine (hg.stands i f hf hr)
  obtain ⟨fa, fb, fc⟩ := insN_fit (hg.ins hf)
  have hgf : m.get i = f := by simp [Mach.get, List.getD, hf]
  have hok := hm.each i f hf
  unfold stepN
  simp only [hgf]
  generalize (x.cod i).at f.at_ = n at hop fa fb fc h29 ⊢
  obtain ⟨op, a, b', c⟩ := n
  dsimp only at hop fa fb fc h29 ⊢
  have regN : ∀ z, fitN x (x.cod i) 2 z = true → ∃ kz : Nat, z = kz ∧ kz < f.regs.length := fun z hz => by
    obtain ⟨h1, h2⟩ := fit_reg hok hz
    exact ⟨z.toNat, by omega, by omega⟩
  have celN : ∀ z, fitN x (x.cod i) 4 z = true → ∃ kz : Nat, z = kz ∧ kz < m.cells.length := fun z hz => by
    simp [fitN, mostN] at hz
    exact ⟨z.toNat, by omega, by rw [hm.cells]; omega⟩
  have ownN : ∀ z, fitN x (x.cod i) 5 z = true → ∃ kz : Nat, z = kz ∧ kz < m.owners.length := fun z hz => by
    simp [fitN, mostN] at hz
    have := hm.owners
    exact ⟨z.toNat, by omega, by omega⟩
  have thrN : ∀ z, fitN x (x.cod i) 6 z = true → ∃ kz : Nat, z = kz ∧ kz < m.fr.length := fun z hz => by
    simp [fitN, mostN] at hz
    have := hm.len
    exact ⟨z.toNat, by omega, by omega⟩
  rcases hop with rfl | rfl | rfl | rfl | rfl | rfl | rfl | rfl | rfl
  · simp [kindsN] at fa fb fc
    obtain ⟨ka, rfl, hka⟩ := regN a fa
    obtain ⟨kb, rfl, hkb⟩ := celN b' fb
    have := rds_read w T id b gf cf x m i f h hf hr hm h8 ka hka kb hkb c
    simpa [Fr.reg] using this
  · simp [kindsN] at fa fb fc
    obtain ⟨ka, rfl, hka⟩ := celN a fa
    obtain ⟨kb, rfl, hkb⟩ := regN b' fb
    have := rds_write w T id b gf cf x m i f h hf hr hm h8 ka hka kb hkb c
    simpa [Fr.reg] using this
  · simp [kindsN] at fa fb fc
    obtain ⟨ka, rfl, hka⟩ := regN a fa
    obtain ⟨kb, rfl, hkb⟩ := celN b' fb
    obtain ⟨kc, rfl, hkc⟩ := regN c fc
    have := rds_fetch w T id b gf cf x m i f h hf hr hm h8 ka hka kb hkb kc hkc
    simpa [Fr.reg] using this
  · simp [kindsN] at fa fb fc
    obtain ⟨ka, rfl, hka⟩ := ownN a fa
    have := rds_lock w T id b gf cf x m i f h hf hr hm h8 ka hka b' c
    simpa using this
  · simp [kindsN] at fa fb fc
    obtain ⟨ka, rfl, hka⟩ := ownN a fa
    by_cases hw : m.owners.getD ka 0 = i
    · have := rds_unlock w T id b gf cf x m i f h hf hr hm h8 ka hka b' c hw
      have e : m.owners[ka]?.getD 0 = i := by simpa [List.getD] using hw
      simpa [e] using this
    · have := rds_unlock1 w T id b gf cf x m i f h hf hr hm h8 ka hka b' c hw
      have e : ¬ m.owners[ka]?.getD 0 = i := by simpa [List.getD] using hw
      simpa [e] using this
  · simp [kindsN] at fa fb fc
    obtain ⟨ka, rfl, hka⟩ := thrN a fa
    obtain ⟨f2, hf2, hgf2⟩ := hg.get (i := ka) (by rw [← hm.len]; exact hka)
    by_cases hs : f2.st = 1
    · have := rds_start w T id b gf cf x m i f h hf hr hm h8 ka hka f2 hf2 b' c hs hg hz
      simpa [hgf2, hs] using this
    · have := rds_start1 w T id b gf cf x m i f h hf hr hm h8 ka hka f2 hf2 b' c hs
      simpa [hgf2, hs] using this
  · simp [kindsN] at fa fb fc
    obtain ⟨ka, rfl, hka⟩ := thrN a fa
    obtain ⟨f2, hf2, hgf2⟩ := hg.get (i := ka) (by rw [← hm.len]; exact hka)
    by_cases hs : f2.st = 1
    · have := rds_join1 w T id b gf cf x m i f h hf hr hm h8 ka hka f2 hf2 b' c hs
      simpa [hgf2, hs] using this
    · have := rds_join w T id b gf cf x m i f h hf hr hm h8 ka hka f2 hf2 b' c hs
      simpa [hgf2, hs] using this
  · simp [kindsN] at fa fb fc
    obtain ⟨ka, rfl, hka⟩ := regN a fa
    by_cases hzz : f.regs.getD ka 0 = 0
    · have := rds_assert1 w T id b gf cf x m i f h hf hr hm h8 ka hka b' c hzz
      have e : f.regs[ka]?.getD 0 = 0 := by simpa [List.getD] using hzz
      simpa [Fr.reg, e] using this
    · have := rds_assert w T id b gf cf x m i f h hf hr hm h8 ka hka b' c hzz
      have e : ¬ f.regs[ka]?.getD 0 = 0 := by simpa [List.getD] using hzz
      simpa [Fr.reg, e] using this
  · exact absurd rfl h29
end Go.Proofs.Ytmkfpkficmmlgaa

/- The document's machine: Step. -/
namespace Go.Proofs.Ytmkfpkficmmlgaa
open Go.RowKit
set_option linter.unusedVariables false
set_option linter.unusedSimpArgs false
set_option linter.unnecessarySimpa false

def RStepEnd (w : World) (T : Tags) (id b gf cf : Nat) (x : Img) (r : Mach × Evt × Int) (e : Ending) (w' : World) : Prop :=
  e = .returned (.tuple #[evV r.2.1, .int .i64 r.2.2]) ∧ ∃ T', ExtN T T' id w ∧ RmAt w' T' id b gf cf x r.1 ∧ Keeps (Own T id) w w'
theorem RmAt.free {w : World} {T : Tags} {id b gf cf : Nat} {x : Img} {m : Mach} (h : RmAt w T id b gf cf x m) {z : Nat} (hz : w.heap.size ≤ z) : T z = none := by
  cases e : T z with
  | none => rfl
  | some y => exact absurd (h.ok z y e) (Nat.not_lt.2 hz)
theorem RmAt.five {w : World} {T : Tags} {id b gf cf : Nat} {x : Img} {m : Mach} (h : RmAt w T id b gf cf x m) {z : Nat} (hz : T z = none) (b0 b1 b2 b3 b4 : Value) : RmAt (five w z b0 b1 b2 b3 b4) T id b gf cf x m :=
  h.keeps (five_keeps (Keeps.refl (fun k => k = z) w) (fun _ => rfl) b0 b1 b2 b3 b4) (fun k e e' => not_own hz (by rw [← e']; exact e))
theorem RmAt.put {w : World} {T : Tags} {id b gf cf : Nat} {x : Img} {m : Mach} (h : RmAt w T id b gf cf x m) {z : Nat} (hz : T z = none) (j : Nat) (u : Value) : RmAt (w.setCell ⟨z, j, none⟩ u) T id b gf cf x m :=
  h.keeps (Keeps.setCell (p := ⟨z, j, none⟩) (Keeps.refl (fun k => k = z) w) (fun _ => rfl) u) (fun k e e' => not_own hz (by rw [← e']; exact e))
theorem ExtN.none {T T' : Tags} {id z : Nat} {w : World} (h : ExtN T T' id w) (hz : T z = none) (hl : z < w.heap.size) : T' z = none := by
  cases e : T' z with
  | none => rfl
  | some y =>
    rcases h.2 z y e with h1 | h1
    · rw [hz] at h1; cases h1
    · omega
def zeroEv : Evt := ⟨0, 0, 0, 0, 0⟩

section
variable (w : World) (T : Tags) (id b gf cf : Nat) (x : Img) (m : Mach)
set_option maxRecDepth 8000 in
set_option maxHeartbeats 1000000 in
theorem rstep_low (i : Int) (h : RmAt w T id b gf cf x m) (hi : i < 0) :
    Calls Try.prog 13 #[.pointer (some ⟨b, 0, none⟩), .int .i64 i] w (RStepEnd w T id b gf cf x (m, zeroEv, 2)) := by
  have HV := Lib.hid h
  clear h
  go_enter Try.func13, Try.ntmps13
  go_wp2
  have hk := (Keeps.refl NoBlk w).alloc (.cells #[.int .i64 0, .int .i64 0, .int .i64 0, .int .i64 0, .int .i64 0] 40)
  refine bodyPost_ret (v := .tuple #[.agg #[.int .i64 0, .int .i64 0, .int .i64 0, .int .i64 0, .int .i64 0], .int .i64 2]) (by simp [results, Try.results13, go_sem]) rfl ⟨rfl, T, ExtN.refl T id w, HV.out.keeps hk (fun _ _ h => h), hk.mono (fun _ _ h => h.elim)⟩
set_option maxRecDepth 8000 in
set_option maxHeartbeats 1000000 in
theorem rstep_high (i : Int) (h : RmAt w T id b gf cf x m) (hi : 0 ≤ i) (hn : (m.fr.length : Int) ≤ i) :
    Calls Try.prog 13 #[.pointer (some ⟨b, 0, none⟩), .int .i64 i] w (RStepEnd w T id b gf cf x (m, zeroEv, 2)) := by
  have HV := Lib.hid h
  have k5 : w.cell? ⟨b, 5, none⟩ = some (.slice (some ⟨gf, 0, none⟩) m.fr.length cf) := by
    obtain ⟨xc, xt, cv, ov, hb, _, _⟩ := h.ex
    exact hb.cell (k := 5) rfl
  have lb : b < w.heap.size := World.block_lt_of_cell? w _ k5
  have nb : b ≠ w.heap.size := by omega
  have e1 : decide (i < 0) = false := decide_eq_false (by omega)
  clear h
  go_enter Try.func13, Try.ntmps13
  go_wp2
  have hk := (Keeps.refl NoBlk w).alloc (.cells #[.int .i64 0, .int .i64 0, .int .i64 0, .int .i64 0, .int .i64 0] 40)
  refine bodyPost_ret (v := .tuple #[.agg #[.int .i64 0, .int .i64 0, .int .i64 0, .int .i64 0, .int .i64 0], .int .i64 2]) (by simp [results, Try.results13, go_sem]) rfl ⟨rfl, T, ExtN.refl T id w, HV.out.keeps hk (fun _ _ h => h), hk.mono (fun _ _ h => h.elim)⟩
set_option maxRecDepth 8000 in
set_option maxHeartbeats 1000000 in
theorem rstep_state (i : Nat) (f : Fr) (h : RmAt w T id b gf cf x m) (hf : m.fr[i]? = some f) (st : Int) (hst : f.st = st) (hs : st = 1 ∨ st = 3 ∨ st = 4) :
    Calls Try.prog 13 #[.pointer (some ⟨b, 0, none⟩), .int .i64 i] w (RStepEnd w T id b gf cf x (m, zeroEv, if st = 1 then 80 else if st = 3 then 81 else 82)) := by
  have HV := Lib.hid h
  obtain ⟨k5, t0, t2, _, _⟩ := h.cells5 hf
  have hi : i < m.fr.length := (List.getElem?_eq_some_iff.1 hf).1
  have lb : b < w.heap.size := World.block_lt_of_cell? w _ k5
  have lf : gf < w.heap.size := World.block_lt_of_cell? w _ t0
  have nb : b ≠ w.heap.size := by omega
  have nf : gf ≠ w.heap.size := by omega
  have i1 : (0 : Int) ≤ i := by omega
  have i2 : (i : Int) < m.fr.length := by omega
  have e1 : decide ((i : Int) < 0) = false := decide_eq_false (by omega)
  rw [hst] at t0
  clear h hf hst t2
  rcases hs with rfl | rfl | rfl
  all_goals (
    go_enter Try.func13, Try.ntmps13
    go_wp2
    have hk := (Keeps.refl NoBlk w).alloc (.cells #[.int .i64 0, .int .i64 0, .int .i64 0, .int .i64 0, .int .i64 0] 40)
    first
    | refine bodyPost_ret (v := .tuple #[.agg #[.int .i64 0, .int .i64 0, .int .i64 0, .int .i64 0, .int .i64 0], .int .i64 80]) (by simp [results, Try.results13, go_sem]) rfl ⟨rfl, T, ExtN.refl T id w, HV.out.keeps hk (fun _ _ h => h), hk.mono (fun _ _ h => h.elim)⟩
    | refine bodyPost_ret (v := .tuple #[.agg #[.int .i64 0, .int .i64 0, .int .i64 0, .int .i64 0, .int .i64 0], .int .i64 81]) (by simp [results, Try.results13, go_sem]) rfl ⟨rfl, T, ExtN.refl T id w, HV.out.keeps hk (fun _ _ h => h), hk.mono (fun _ _ h => h.elim)⟩
    | refine bodyPost_ret (v := .tuple #[.agg #[.int .i64 0, .int .i64 0, .int .i64 0, .int .i64 0, .int .i64 0], .int .i64 82]) (by simp [results, Try.results13, go_sem]) rfl ⟨rfl, T, ExtN.refl T id w, HV.out.keeps hk (fun _ _ h => h), hk.mono (fun _ _ h => h.elim)⟩)
set_option maxRecDepth 8000 in
set_option maxHeartbeats 1000000 in
theorem rstep_waits (i : Nat) (f : Fr) (h : RmAt w T id b gf cf x m) (hg : VGood x m) (hf : m.fr[i]? = some f) (hst : f.st = 2) (hr : refusedN x m i ≠ 0) :
    Calls Try.prog 13 #[.pointer (some ⟨b, 0, none⟩), .int .i64 i] w (RStepEnd w T id b gf cf x (m, zeroEv, 83)) := by
  have HV := Lib.hid h
  obtain ⟨k5, t0, t2, _, _⟩ := h.cells5 hf
  have hi : i < m.fr.length := (List.getElem?_eq_some_iff.1 hf).1
  have lb : b < w.heap.size := World.block_lt_of_cell? w _ k5
  have lf : gf < w.heap.size := World.block_lt_of_cell? w _ t0
  have nb : b ≠ w.heap.size := by omega
  have nf : gf ≠ w.heap.size := by omega
  have i1 : (0 : Int) ≤ i := by omega
  have i2 : (i : Int) < m.fr.length := by omega
  have e1 : decide ((i : Int) < 0) = false := decide_eq_false (by omega)
  rw [hst] at t0
  have HE : Hid (∀ W, Keeps NoBlk w W → Calls Try.prog 31 #[.pointer (some ⟨b, 0, none⟩), .int .i64 i] W fun e w' => e = .returned (.bool false) ∧ Keeps NoBlk W w') := fun W hk => (ren_any W T id b gf cf i x m f (h.keeps hk (fun _ _ h => h)) hf hg).mono (fun e w' h => ⟨by rw [h.1, decide_eq_false hr], h.2⟩)
  clear h hf hst t2 hg hr
  go_enter Try.func13, Try.ntmps13
  go_wp2_with fail
  refine (HE.out _ ((Keeps.refl _ w).alloc _)).mono ?_
  rintro e w1 ⟨rfl, h1⟩
  have H1 : Hid (Keeps NoBlk w w1) := ((Keeps.refl _ w).alloc _).trans h1 (fun _ _ h => h)
  have hz := h1.heap (k := w.heap.size) (fun h => h) (heap_alloc_new w _)
  have hrow : RowAt w1 w.heap.size [.int .i64 0, .int .i64 0, .int .i64 0, .int .i64 0, .int .i64 0] := RowAt.ofBlock hz
  obtain ⟨z, hz0⟩ : ∃ z, z = w.heap.size := ⟨_, rfl⟩
  have HZ : Hid (w.heap.size ≤ z) := by show _ ≤ _; omega
  rw [← hz0] at hrow ⊢
  have HROW := Lib.hid hrow
  have z0 := hrow.cell (k := 0) rfl
  have z1 := hrow.cell (k := 1) rfl
  have z2 := hrow.cell (k := 2) rfl
  have z3 := hrow.cell (k := 3) rfl
  have z4 := hrow.cell (k := 4) rfl
  have zf0 := hrow.free (k := 0) (by simp)
  have zf1 := hrow.free (k := 1) (by simp)
  have zf2 := hrow.free (k := 2) (by simp)
  have zf3 := hrow.free (k := 3) (by simp)
  have zf4 := hrow.free (k := 4) (by simp)
  clear hz h1 hz0 hrow t0 k5
  go_wp2
  change bodyPost _ _ _ _ _ (five w1 z (.int .i64 0) (.int .i64 0) (.int .i64 0) (.int .i64 0) (.int .i64 0))
  have f5 := five_row HROW.out (.int .i64 0) (.int .i64 0) (.int .i64 0) (.int .i64 0) (.int .i64 0)
  have k5 := five_keeps H1.out (fun h => absurd h (Nat.not_lt.2 HZ.out)) (.int .i64 0) (.int .i64 0) (.int .i64 0) (.int .i64 0) (.int .i64 0)
  generalize five w1 z (.int .i64 0) (.int .i64 0) (.int .i64 0) (.int .i64 0) (.int .i64 0) = w5 at f5 k5 ⊢
  refine bodyPost_ret (v := .tuple #[.agg #[.int .i64 0, .int .i64 0, .int .i64 0, .int .i64 0, .int .i64 0], .int .i64 83]) (by simp [results, Try.results13, go_sem, f5.cell (k := 0) rfl, f5.cell (k := 1) rfl, f5.cell (k := 2) rfl, f5.cell (k := 3) rfl, f5.cell (k := 4) rfl]) rfl ⟨rfl, T, ExtN.refl T id w, HV.out.keeps k5 (fun _ _ h => h), k5.mono (fun _ _ h => h.elim)⟩
end
end Go.Proofs.Ytmkfpkficmmlgaa

/- The document's machine: Step, the step itself. -/
namespace Go.Proofs.Ytmkfpkficmmlgaa
open Go.RowKit
set_option linter.unusedVariables false
set_option linter.unusedSimpArgs false
set_option linter.unnecessarySimpa false

set_option maxRecDepth 8000 in
set_option maxHeartbeats 8000000 in
theorem rstep_end (w : World) (T : Tags) (id b gf cf i : Nat) (x : Img) (m : Mach) (f : Fr) (h : RmAt w T id b gf cf x m) (hg : VGood x m) (hz : VZero x m) (hr0 : refusedN x m i = 0) (hf : m.fr[i]? = some f) (hr : f.st = 2) (h29 : ((x.cod i).at f.at_).op = 29) :
    Calls Try.prog 13 #[.pointer (some ⟨b, 0, none⟩), .int .i64 i] w (RStepEnd w T id b gf cf x ((doneN x m i).1, (doneN x m i).2, 0)) := by
  have h8 := (right_parts hg.right).1.2
  have hi : i < m.fr.length := (List.getElem?_eq_some_iff.1 hf).1
  have hi2 : i < x.threads.length := by rw [← hg.len]; exact hi
  have hc := right_cod hg.right hi2
  have HV := Lib.hid h
  have HG := Lib.hid hg
  have HZER := Lib.hid hz
  have HF := Lib.hid hf
  have HI := Lib.hid hi
  have HI2 := Lib.hid hi2
  have H8 := Lib.hid h8
  have HST := Lib.hid hr
  have HE : Hid (∀ W, Keeps NoBlk w W → Calls Try.prog 31 #[.pointer (some ⟨b, 0, none⟩), .int .i64 i] W fun e w' => e = .returned (.bool true) ∧ Keeps NoBlk W w') := fun W hk => (ren_any W T id b gf cf i x m f (h.keeps hk (fun _ _ h => h)) hf hg).mono (fun e w' h => ⟨by rw [h.1, decide_eq_true hr0], h.2⟩)
  obtain ⟨k, ek⟩ : ∃ k, k = (actN x m i).1 := ⟨_, rfl⟩
  obtain ⟨o, eo⟩ : ∃ k, k = (actN x m i).2 := ⟨_, rfl⟩
  have EK := Lib.hid ek
  have EO := Lib.hid eo
  have HA : Hid (∀ W, Keeps NoBlk w W → Calls Try.prog 32 #[.pointer (some ⟨b, 0, none⟩), .int .i64 i] W fun e w' => e = .returned (.agg #[.int .i64 k, .int .i64 o]) ∧ Keeps NoBlk W w') := fun W hk => by
    rw [ek, eo]
    exact raction_any W T id b gf cf i x m f (h.keeps hk (fun _ _ h => h)) hf hg
  obtain ⟨I, hI⟩ : ∃ I : Ins, I = (x.cod i).at f.at_ := ⟨_, rfl⟩
  have HIN := Lib.hid hI
  rw [← hI] at h29
  have HNX : Hid (∀ W, Keeps NoBlk w W → Calls Try.prog 33 #[.pointer (some ⟨b, 0, none⟩), .int .i64 i] W fun e w' => e = .returned (.agg #[.int .i64 I.op, .int .i64 I.a, .int .i64 I.b, .int .i64 I.c]) ∧ Keeps NoBlk W w') := fun W hk => by
    rw [hI]
    exact rnext_any W T id b gf cf i x m f (h.keeps hk (fun _ _ h => h)) hf hi2 h8 hg.len hc (hg.ok.each i f hf).at_
  obtain ⟨k5, t0, t2, _, _⟩ := h.cells5 hf
  have lb : b < w.heap.size := World.block_lt_of_cell? w _ k5
  have lf : gf < w.heap.size := World.block_lt_of_cell? w _ t0
  have nb : b ≠ w.heap.size := by omega
  have nf : gf ≠ w.heap.size := by omega
  have i1 : (0 : Int) ≤ i := by omega
  have i2 : (i : Int) < m.fr.length := by omega
  have e1 : decide ((i : Int) < 0) = false := decide_eq_false (by omega)
  rw [hr] at t0
  clear h hg hf hi hi2 h8 hr hc hr0 ek eo hI hz t2
  go_enter Try.func13, Try.ntmps13
  go_wp2_with fail
  refine (HE.out _ ((Keeps.refl _ w).alloc _)).mono ?_
  rintro e w1 ⟨rfl, h1⟩
  have H1 : Hid (Keeps NoBlk w w1) := ((Keeps.refl _ w).alloc _).trans h1 (fun _ _ h => h)
  have hz := h1.heap (k := w.heap.size) (fun h => h) (heap_alloc_new w _)
  have HROW : Hid (RowAt w1 w.heap.size [.int .i64 0, .int .i64 0, .int .i64 0, .int .i64 0, .int .i64 0]) := RowAt.ofBlock hz
  obtain ⟨z, hz0⟩ : ∃ z, z = w.heap.size := ⟨_, rfl⟩
  have HZ : Hid (z = w.heap.size ∧ z < w1.heap.size) := ⟨hz0, by rw [hz0]; exact Nat.lt_of_lt_of_le (by simp) h1.size⟩
  rw [← hz0] at HROW ⊢
  clear hz h1 hz0
  go_wp2_with fail
  refine (HA.out _ H1.out).mono ?_
  rintro e w2 ⟨rfl, h2⟩
  have H2 : Hid (Keeps NoBlk w w2) := H1.out.trans h2 (fun _ _ h => h)
  have H12 := Lib.hid h2
  clear h2
  go_wp2_with fail
  refine (HNX.out _ (H2.out.alloc _)).mono ?_
  rintro e w3 ⟨rfl, h3⟩
  have H3 : Hid (Keeps NoBlk w w3) := (H2.out.alloc _).trans h3 (fun _ _ h => h)
  have H13 : Hid (Keeps NoBlk w1 w3) := ((H12.out.alloc _).trans h3 (fun _ _ h => h))
  have hy := h3.heap (k := w2.heap.size) (fun h => h) (heap_alloc_new w2 _)
  have y0 : w3.cell? ⟨w2.heap.size, 0, none⟩ = some (.int .i64 k) := cell_of_row w3 _ 0 _ _ _ hy
  have y1 : w3.cell? ⟨w2.heap.size, 1, none⟩ = some (.int .i64 o) := cell_of_row w3 _ 1 _ _ _ hy
  obtain ⟨y, hy0⟩ : ∃ y, y = w2.heap.size := ⟨_, rfl⟩
  rw [← hy0] at y0 y1 ⊢
  have ly : y < w3.heap.size := World.block_lt_of_cell? w3 _ y0
  have n2 : y ≠ w3.heap.size := by omega
  have n2' : y ≠ w3.heap.size + 1 := by omega
  have V3 : Hid (RmAt w3 T id b gf cf x m) := HV.out.keeps H3.out (fun _ _ h => h)
  have TZ : Hid (T z = none) := HV.out.free (by rw [HZ.out.1]; exact Nat.le_refl _)
  obtain ⟨k5, t0, t2, ff0, ff2⟩ := V3.out.cells5 HF.out
  have hzr : RowAt w3 z [.int .i64 0, .int .i64 0, .int .i64 0, .int .i64 0, .int .i64 0] := HROW.out.keeps H13.out (fun h => h)
  have ZR := Lib.hid hzr
  have lz : z < w3.heap.size := hzr.lt (by simp)
  have lf : gf < w3.heap.size := World.block_lt_of_cell? w3 _ t0
  have lb : b < w3.heap.size := World.block_lt_of_cell? w3 _ k5
  have zgf : z ≠ gf := fun e => by have h9 := V3.out.frTag; rw [← e, TZ.out] at h9; cases h9
  have n6 : gf ≠ z := fun e => zgf e.symm
  have n1 : z ≠ w3.heap.size := by omega
  have n1' : z ≠ w3.heap.size + 1 := by omega
  have n3 : gf ≠ w3.heap.size := by omega
  have n3' : gf ≠ w3.heap.size + 1 := by omega
  have n4 : w3.heap.size ≠ z := by omega
  have n4' : w3.heap.size + 1 ≠ z := by omega
  have n5 : w3.heap.size ≠ gf := by omega
  have n5' : w3.heap.size + 1 ≠ gf := by omega
  have n7 : b ≠ w3.heap.size := by omega
  have n7' : b ≠ w3.heap.size + 1 := by omega
  have GW : Hid (w.heap.size ≤ w3.heap.size) := H3.out.size
  clear hy hy0 h3 nb nf
  have e9 : (I.op == 29) = true := by rw [h29]; rfl
  have hk9 : 9 = (actN x m i).1 := by rw [act_run x m i f HF.out HST.out, ← HIN.out, h29]; rfl
  have hk : Hid (k = 9) := by show k = 9; rw [EK.out]; exact hk9.symm
  have D := Lib.hid (done_end x m i f HF.out HST.out hk9 EO.out)
  have z0 := hzr.cell (k := 0) rfl
  have z1 := hzr.cell (k := 1) rfl
  have z2 := hzr.cell (k := 2) rfl
  have z3 := hzr.cell (k := 3) rfl
  have z4 := hzr.cell (k := 4) rfl
  have zf0 := hzr.free (k := 0) (by simp)
  have zf1 := hzr.free (k := 1) (by simp)
  have zf2 := hzr.free (k := 2) (by simp)
  have zf3 := hzr.free (k := 3) (by simp)
  have zf4 := hzr.free (k := 4) (by simp)
  clear hzr h29 hk9
  go_wp2
  have v6 := (V3.out.setSt HF.out HST.out 3 (by decide)).five TZ.out (.int .i64 i) (.int .i64 k) (.int .i64 o) (.int .i64 0) (.int .i64 0)
  have f6 := five_row (ZR.out.other (p := ⟨gf, i * 3, none⟩) n6 (.int .i64 3)) (.int .i64 i) (.int .i64 k) (.int .i64 o) (.int .i64 0) (.int .i64 0)
  have k6 := five_keeps (S := Own T id) ((H3.out.mono (fun _ _ h => h.elim)).setCell (p := ⟨gf, i * 3, none⟩) (fun _ => ⟨_, V3.out.frTag, by simp⟩) (.int .i64 3)) (z := z) (fun h => absurd h (by rw [HZ.out.1]; exact Nat.lt_irrefl _)) (.int .i64 i) (.int .i64 k) (.int .i64 o) (.int .i64 0) (.int .i64 0)
  change bodyPost _ _ _ _ _ (((five (w3.setCell ⟨gf, i * 3, none⟩ (.int .i64 3)) z (.int .i64 i) (.int .i64 k) (.int .i64 o) (.int .i64 0) (.int .i64 0)).alloc _).alloc _)
  generalize five (w3.setCell ⟨gf, i * 3, none⟩ (.int .i64 3)) z (.int .i64 i) (.int .i64 k) (.int .i64 o) (.int .i64 0) (.int .i64 0) = w6 at v6 f6 k6 ⊢
  have f5 := (f6.alloc (.cells #[.int .i64 I.op, .int .i64 I.a, .int .i64 I.b, .int .i64 I.c] 48)).alloc (.cells #[.int .i64 i, .int .i64 k, .int .i64 o, .int .i64 0, .int .i64 0] 40)
  refine bodyPost_ret (v := .tuple #[.agg #[.int .i64 i, .int .i64 k, .int .i64 o, .int .i64 0, .int .i64 0], .int .i64 0]) (by simp [results, Try.results13, go_sem, f5.cell (k := 0) rfl, f5.cell (k := 1) rfl, f5.cell (k := 2) rfl, f5.cell (k := 3) rfl, f5.cell (k := 4) rfl]) rfl ⟨by rw [D.out, hk.out]; rfl, T, ExtN.refl T id w, ?_, (k6.alloc _).alloc _⟩
  rw [D.out]
  exact v6.keeps (((Keeps.refl NoBlk w6).alloc _).alloc _) (fun _ _ h => h)
end Go.Proofs.Ytmkfpkficmmlgaa
