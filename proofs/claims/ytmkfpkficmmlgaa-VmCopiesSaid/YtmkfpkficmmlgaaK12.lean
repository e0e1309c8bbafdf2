/- Package vm: Step. -/
import Derived.Test.YtmkfpkficmmlgaaK11
import Derived.StillTailTactics
namespace Go.Proofs.Ytmkfpkficmmlgaa
open Go.RowKit
set_option linter.unusedVariables false
set_option linter.unusedSimpArgs false
set_option linter.unnecessarySimpa false

def evV (e : Evt) : Value := .agg #[.int .i64 e.thread, .int .i64 e.kind, .int .i64 e.obj, .int .i64 e.value, .int .i64 e.bad]
/-- a call of Step: the machine, the event, the error -/
def stepR (x : Img) (m : Mach) (i : Int) : Mach × Evt × Int :=
  if refusedN x m i ≠ 0 then (m, ⟨0, 0, 0, 0, 0⟩, refusedN x m i) else ((doneN x m i.toNat).1, (doneN x m i.toNat).2, 0)
def StepEnd (w : World) (T : Tags) (id b gf cf : Nat) (x : Img) (r : Mach × Evt × Int) (e : Ending) (w' : World) : Prop :=
  e = .returned (.tuple #[evV r.2.1, .int .i64 r.2.2]) ∧ VmAt w' T id b gf cf x r.1 ∧ Keeps (Own T id) w w'

/-- five cells are written over -/
def five (w : World) (z : Nat) (b0 b1 b2 b3 b4 : Value) : World := ((((w.setCell ⟨z, 0, none⟩ b0).setCell ⟨z, 1, none⟩ b1).setCell ⟨z, 2, none⟩ b2).setCell ⟨z, 3, none⟩ b3).setCell ⟨z, 4, none⟩ b4
theorem five_row {w : World} {z : Nat} {a0 a1 a2 a3 a4 : Value} (h : RowAt w z [a0, a1, a2, a3, a4]) (b0 b1 b2 b3 b4 : Value) : RowAt (five w z b0 b1 b2 b3 b4) z [b0, b1, b2, b3, b4] :=
  ((((h.set 0 (by simp) b0).set 1 (by simp) b1).set 2 (by simp) b2).set 3 (by simp) b3).set 4 (by simp) b4
theorem five_keeps {S : Nat → Prop} {w w' : World} {z : Nat} (h : Keeps S w w') (hz : z < w.heap.size → S z) (b0 b1 b2 b3 b4 : Value) : Keeps S w (five w' z b0 b1 b2 b3 b4) :=
  have hn : ∀ j, (⟨z, j, none⟩ : Addr).block < w.heap.size → S (⟨z, j, none⟩ : Addr).block := fun j h' => hz h'
  ((((h.setCell (p := ⟨z, 0, none⟩) (hn 0) b0).setCell (p := ⟨z, 1, none⟩) (hn 1) b1).setCell (p := ⟨z, 2, none⟩) (hn 2) b2).setCell (p := ⟨z, 3, none⟩) (hn 3) b3).setCell (p := ⟨z, 4, none⟩) (hn 4) b4

theorem VmAt.three {w : World} {T : Tags} {id b gf cf : Nat} {x : Img} {m : Mach} (h : VmAt w T id b gf cf x m) {i : Nat} {f : Fr} (hf : m.fr[i]? = some f) :
    w.cell? ⟨gf, i * 3, none⟩ = some (.int .i64 f.st) ∧ w.cell? ⟨gf, i * 3 + 2, none⟩ = some (.int .i64 f.at_) ∧ w.frozen? ⟨gf, i * 3, none⟩ = false ∧ w.frozen? ⟨gf, i * 3 + 2, none⟩ = false := by
  obtain ⟨cv, ov, dv, h1, h2, h3⟩ := h.ex
  obtain ⟨H, hF⟩ := h2.frames
  obtain ⟨rv, ha, _⟩ := hF.get hf
  have hi := (List.getElem?_eq_some_iff.1 hf).1
  exact ⟨(hF.three ha).1, (hF.three ha).2.2, hF.free hi 0 (by decide), hF.free hi 2 (by decide)⟩
theorem VmAt.free {w : World} {T : Tags} {id b gf cf : Nat} {x : Img} {m : Mach} (h : VmAt w T id b gf cf x m) {z : Nat} (hz : w.heap.size ≤ z) : T z = none := by
  cases e : T z with
  | none => rfl
  | some y => exact absurd (h.ok z y e) (Nat.not_lt.2 hz)
theorem not_own {T : Tags} {id z : Nat} (h : T z = none) : ¬ (Cd T z ∨ Own T id z) := by
  rintro (⟨y, e⟩ | ⟨y, e, _⟩)
  · rw [h] at e; cases e
  · rw [h] at e; cases e
/-- the five cells of the event that is handed back are written: the machine stays -/
theorem VmAt.five {w : World} {T : Tags} {id b gf cf : Nat} {x : Img} {m : Mach} (h : VmAt w T id b gf cf x m) {z : Nat} (hz : T z = none) (b0 b1 b2 b3 b4 : Value) : VmAt (five w z b0 b1 b2 b3 b4) T id b gf cf x m :=
  h.keeps (five_keeps (Keeps.refl (fun k => k = z) w) (fun _ => rfl) b0 b1 b2 b3 b4) (fun k e e' => not_own hz (by rw [← e']; exact e))

set_option maxRecDepth 8000 in
set_option maxHeartbeats 1000000 in
theorem vstep_ref (w : World) (T : Tags) (id b gf cf : Nat) (x : Img) (m : Mach) (i : Int) (h : VmAt w T id b gf cf x m) (hg : VGood x m) (hr : refusedN x m i ≠ 0) :
    Calls Try.prog 14 #[.pointer (some ⟨b, 0, none⟩), .int .i64 i] w (StepEnd w T id b gf cf x (stepR x m i)) := by
  have e0 : stepR x m i = (m, ⟨0, 0, 0, 0, 0⟩, refusedN x m i) := by unfold stepR; rw [if_pos hr]
  rw [e0]
  have HV := Lib.hid h
  have HR : Hid (∀ W, Keeps NoBlk w W → Calls Try.prog 36 #[.pointer (some ⟨b, 0, none⟩), .int .i64 i] W fun e w' => e = .returned (.int .i64 (refusedN x m i)) ∧ Keeps NoBlk W w') := fun W hk => vrefused_any W T id b gf cf i x m (h.keeps hk (fun _ _ h => h)) hg
  obtain ⟨r, er⟩ : ∃ r, r = refusedN x m i := ⟨_, rfl⟩
  rw [← er] at HR hr ⊢
  have e1 : (r != 0) = true := by rw [bne_iff_ne]; exact hr
  clear h hg e0 er hr
  go_enter Try.func14, Try.ntmps14
  go_wp2_with fail
  refine (HR.out _ ((Keeps.refl _ w).alloc _)).mono ?_
  rintro e w1 ⟨rfl, h1⟩
  have H1 : Hid (Keeps NoBlk w w1) := ((Keeps.refl _ w).alloc _).trans h1 (fun _ _ h => h)
  have hz := h1.heap (k := w.heap.size) (fun h => h) (heap_alloc_new w _)
  have hrow : RowAt w1 w.heap.size [.int .i64 0, .int .i64 0, .int .i64 0, .int .i64 0, .int .i64 0] := RowAt.ofBlock hz
  obtain ⟨z, hz0⟩ : ∃ z, z = w.heap.size := ⟨_, rfl⟩
  have HZ : Hid (w.heap.size ≤ z) := by show _ ≤ _; omega
  rw [← hz0] at hrow ⊢
  have HROW := Lib.hid hrow
  have z0 := hrow.cell (k := 0) rfl
  have z1 := hrow.cell (k := 1) rfl
  have z2 := hrow.cell (k := 2) rfl
  have z3 := hrow.cell (k := 3) rfl
  have z4 := hrow.cell (k := 4) rfl
  have zf0 := hrow.free (k := 0) (by simp)
  have zf1 := hrow.free (k := 1) (by simp)
  have zf2 := hrow.free (k := 2) (by simp)
  have zf3 := hrow.free (k := 3) (by simp)
  have zf4 := hrow.free (k := 4) (by simp)
  clear hz h1 hz0 hrow
  go_wp2
  change bodyPost _ _ _ _ _ (five w1 z (.int .i64 0) (.int .i64 0) (.int .i64 0) (.int .i64 0) (.int .i64 0))
  have f5 := five_row HROW.out (.int .i64 0) (.int .i64 0) (.int .i64 0) (.int .i64 0) (.int .i64 0)
  have k5 := five_keeps H1.out (fun h => absurd h (Nat.not_lt.2 HZ.out)) (.int .i64 0) (.int .i64 0) (.int .i64 0) (.int .i64 0) (.int .i64 0)
  generalize five w1 z (.int .i64 0) (.int .i64 0) (.int .i64 0) (.int .i64 0) (.int .i64 0) = w5 at f5 k5 ⊢
  refine bodyPost_ret (v := .tuple #[.agg #[.int .i64 0, .int .i64 0, .int .i64 0, .int .i64 0, .int .i64 0], .int .i64 r]) (by simp [results, Try.results14, go_sem, f5.cell (k := 0) rfl, f5.cell (k := 1) rfl, f5.cell (k := 2) rfl, f5.cell (k := 3) rfl, f5.cell (k := 4) rfl]) rfl ⟨rfl, HV.out.keeps k5 (fun _ _ h => h), k5.mono (fun _ _ h => h.elim)⟩

theorem act_run (x : Img) (m : Mach) (i : Nat) (f : Fr) (hf : m.fr[i]? = some f) (hr : f.st = 2) : (actN x m i).1 = ((x.cod i).at f.at_).op - 20 := by
  have hgf : m.get i = f := by simp [Mach.get, List.getD, hf]
  unfold actN
  simp [hgf, hr]
theorem done_end (x : Img) (m : Mach) (i : Nat) (f : Fr) (hf : m.fr[i]? = some f) (hr : f.st = 2) {o : Int} (hk : 9 = (actN x m i).1) (ho : o = (actN x m i).2) : doneN x m i = (m.setFr i { f with st := 3 }, ⟨i, 9, o, 0, 0⟩) := by
  have hgf : m.get i = f := by simp [Mach.get, List.getD, hf]
  have h1 := act_run x m i f hf hr
  have h29 : ((x.cod i).at f.at_).op = 29 := by omega
  unfold doneN
  simp only [hgf]
  rw [if_pos h29, ← hk, ← ho]
theorem done_go (x : Img) (m : Mach) (i : Nat) (f f1 : Fr) (hf : m.fr[i]? = some f) (hr : f.st = 2) (h29 : ((x.cod i).at f.at_).op ≠ 29) {k o : Int} (hk : k = (actN x m i).1) (ho : o = (actN x m i).2) (h1 : (stepN x m i ((x.cod i).at f.at_)).1.fr[i]? = some f1) :
    doneN x m i = if (stepN x m i ((x.cod i).at f.at_)).2.2 ≠ 0 then ((stepN x m i ((x.cod i).at f.at_)).1.setFr i { f1 with st := 4 }, ⟨i, k, o, (stepN x m i ((x.cod i).at f.at_)).2.1, (stepN x m i ((x.cod i).at f.at_)).2.2⟩)
      else ((stepN x m i ((x.cod i).at f.at_)).1.setFr i (localF (x.cod i) 100000 { f1 with at_ := f1.at_ + 1 }), ⟨i, k, o, (stepN x m i ((x.cod i).at f.at_)).2.1, (stepN x m i ((x.cod i).at f.at_)).2.2⟩) := by
  have hgf : m.get i = f := by simp [Mach.get, List.getD, hf]
  have hg1 : (stepN x m i ((x.cod i).at f.at_)).1.get i = f1 := by simp [Mach.get, List.getD, h1]
  unfold doneN
  simp only [hgf]
  rw [if_neg h29, hg1, ← hk, ← ho]
  rfl
set_option maxRecDepth 8000 in
set_option maxHeartbeats 2000000 in
theorem vstep_do (w : World) (T : Tags) (id b gf cf i : Nat) (x : Img) (m : Mach) (f : Fr) (h : VmAt w T id b gf cf x m) (hg : VGood x m) (hr0 : refusedN x m i = 0) (hf : m.fr[i]? = some f) (hr : f.st = 2) :
    Calls Try.prog 14 #[.pointer (some ⟨b, 0, none⟩), .int .i64 i] w (StepEnd w T id b gf cf x (stepR x m i)) := by
  have h8 := (right_parts hg.right).1.2
  have hi : i < m.fr.length := (List.getElem?_eq_some_iff.1 hf).1
  have hi2 : i < x.threads.length := by rw [← hg.len]; exact hi
  have hc := right_cod hg.right hi2
  have HV := Lib.hid h
  have HG := Lib.hid hg
  have HF := Lib.hid hf
  have HI := Lib.hid hi
  have HI2 := Lib.hid hi2
  have H8 := Lib.hid h8
  have HST := Lib.hid hr
  have HR : Hid (∀ W, Keeps NoBlk w W → Calls Try.prog 36 #[.pointer (some ⟨b, 0, none⟩), .int .i64 i] W fun e w' => e = .returned (.int .i64 0) ∧ Keeps NoBlk W w') := fun W hk => (vrefused_any W T id b gf cf i x m (h.keeps hk (fun _ _ h => h)) hg).mono (fun e w' h => ⟨by rw [h.1, hr0], h.2⟩)
  obtain ⟨k, ek⟩ : ∃ k, k = (actN x m i).1 := ⟨_, rfl⟩
  obtain ⟨o, eo⟩ : ∃ k, k = (actN x m i).2 := ⟨_, rfl⟩
  have EK := Lib.hid ek
  have EO := Lib.hid eo
  have HA : Hid (∀ W, Keeps NoBlk w W → Calls Try.prog 37 #[.pointer (some ⟨b, 0, none⟩), .int .i64 i] W fun e w' => e = .returned (.agg #[.int .i64 k, .int .i64 o]) ∧ Keeps NoBlk W w') := fun W hk => by
    rw [ek, eo]
    exact vaction_any W T id b gf cf i x m f (h.keeps hk (fun _ _ h => h)) hf h8 hg.ok hg.stands hc
  have hr0' : stepR x m i = ((doneN x m i).1, (doneN x m i).2, 0) := by unfold stepR; rw [if_neg (by rw [hr0]; simp)]; rfl
  rw [hr0']
  have i1 : (0 : Int) ≤ i := by omega
  have i2 : (i : Int) < m.fr.length := by omega
  clear h hg hf hi hi2 h8 hr hc hr0 hr0' ek eo
  go_enter Try.func14, Try.ntmps14
  go_wp2_with fail
  refine (HR.out _ ((Keeps.refl _ w).alloc _)).mono ?_
  rintro e w1 ⟨rfl, h1⟩
  have H1 : Hid (Keeps NoBlk w w1) := ((Keeps.refl _ w).alloc _).trans h1 (fun _ _ h => h)
  have hz := h1.heap (k := w.heap.size) (fun h => h) (heap_alloc_new w _)
  have HROW : Hid (RowAt w1 w.heap.size [.int .i64 0, .int .i64 0, .int .i64 0, .int .i64 0, .int .i64 0]) := RowAt.ofBlock hz
  have k3 : w1.cell? ⟨b, 3, none⟩ = some (.slice (some ⟨gf, 0, none⟩) m.fr.length cf) := by
    obtain ⟨cv, ov, dv, hb, _, _⟩ := (HV.out.keeps H1.out (fun _ _ h => h)).ex
    exact hb.cell (k := 3) rfl
  have lb : b < w1.heap.size := World.block_lt_of_cell? w1 _ k3
  have nb : b ≠ w1.heap.size := by omega
  have nb' : w1.heap.size ≠ b := by omega
  obtain ⟨z, hz0⟩ : ∃ z, z = w.heap.size := ⟨_, rfl⟩
  have HZ : Hid (z = w.heap.size ∧ z < w1.heap.size) := ⟨hz0, by rw [hz0]; exact Nat.lt_of_lt_of_le (by simp) h1.size⟩
  rw [← hz0] at HROW ⊢
  clear hz h1 hz0
  go_upto_region 4 with fail
  go_region_held3 (fun w' => w'.cell? ⟨b, 3, none⟩ = some (.slice (some ⟨gf, 0, none⟩) m.fr.length cf)) (first | go_keep | exact k3' | (rw [World.cell?_setCell_other _ _ _ _ (by simp; omega), World.cell?_setCell_other _ _ _ _ (by simp; omega)]; exact k3') | trivial) ((go_at_call 37; refine (HA.out _ (by repeat (first | exact H1.out | apply Keeps.drew | apply Keeps.drewN | apply Keeps.alloc))).mono ?_; rintro e w2 ⟨rfl, h2⟩; have k3' := h2.cell (p := ⟨b, 3, none⟩) (fun h => h) (by refine Keeps.cell (S := NoBlk) (p := ⟨b, 3, none⟩) (w := w1) ?_ (fun h => h) k3; repeat (first | exact Keeps.refl _ _ | apply Keeps.drew | apply Keeps.drewN | apply Keeps.alloc)); (first | (have hy : w2.heap[w1.heap.size]? = some (.cells #[.int .i64 0, .int .i64 0] 75 (0, 0)) := h2.heap (k := w1.heap.size) (fun h => h) (heap_alloc_new w1 (.cells #[.int .i64 0, .int .i64 0] 75)); have y0 : w2.cell? ⟨w1.heap.size, 0, none⟩ = some (.int .i64 0) := cell_of_row w2 _ 0 _ _ _ hy; have y1 : w2.cell? ⟨w1.heap.size, 1, none⟩ = some (.int .i64 0) := cell_of_row w2 _ 1 _ _ _ hy; have yf0 : w2.frozen? ⟨w1.heap.size, 0, none⟩ = false := frozen_of_row w2 _ _ _ _ hy; have yf1 : w2.frozen? ⟨w1.heap.size, 1, none⟩ = false := frozen_of_row w2 _ _ _ _ hy; have HY := Lib.hid hy; clear hy) | skip); have H2 := Lib.hid h2; clear h2))
  all_goals (
    first
    | (have g1 : RowAt ((w2.setCell ⟨w1.heap.size, 0, none⟩ (.int .i64 k)).setCell ⟨w1.heap.size, 1, none⟩ (.int .i64 o)) w1.heap.size [.int .i64 k, .int .i64 o] := ((RowAt.ofBlock HY.out).set 0 (by simp) _).set 1 (by simp) _
       have g2 : Keeps NoBlk w1 ((w2.setCell ⟨w1.heap.size, 0, none⟩ (.int .i64 k)).setCell ⟨w1.heap.size, 1, none⟩ (.int .i64 o)) := (((((Keeps.refl NoBlk w1).alloc _).drew).trans H2.out (fun _ _ h => h)).setCell (p := ⟨w1.heap.size, 0, none⟩) (fun h => absurd h (Nat.lt_irrefl _)) _).setCell (p := ⟨w1.heap.size, 1, none⟩) (fun h => absurd h (Nat.lt_irrefl _)) _
       have g3 : w1.heap.size ≤ w1.heap.size := Nat.le_refl _
       obtain ⟨y, hy0⟩ : ∃ y, y = w1.heap.size := ⟨_, rfl⟩
       obtain ⟨W, hW0⟩ : ∃ W, W = (w2.setCell ⟨w1.heap.size, 0, none⟩ (.int .i64 k)).setCell ⟨w1.heap.size, 1, none⟩ (.int .i64 o) := ⟨_, rfl⟩
       rw [← hW0] at g1 g2 ⊢
       rw [← hy0] at g1 ⊢
       replace g3 : w1.heap.size ≤ y := by omega
       clear hW0 y0 y1 yf0 yf1 HY)
    | (have g1 : RowAt (w2.alloc (.cells #[.int .i64 k, .int .i64 o] 75)) w2.heap.size [.int .i64 k, .int .i64 o] := RowAt.ofBlock (heap_alloc_new w2 _)
       have g2 : Keeps NoBlk w1 (w2.alloc (.cells #[.int .i64 k, .int .i64 o] 75)) := (((Keeps.refl NoBlk w1).drew).trans H2.out (fun _ _ h => h)).alloc _
       obtain ⟨y, hy0⟩ : ∃ y, y = w2.heap.size := ⟨_, rfl⟩
       have g3 : w1.heap.size ≤ y := by rw [hy0]; exact H2.out.size
       obtain ⟨W, hW0⟩ : ∃ W, W = w2.alloc (.cells #[.int .i64 k, .int .i64 o] 75) := ⟨_, rfl⟩
       rw [← hW0] at g1 g2 ⊢
       rw [← hy0] at g1 ⊢
       clear hW0)
    have KW : Hid (Keeps NoBlk w W) := H1.out.trans g2 (fun _ _ h => h)
    have VW : Hid (VmAt W T id b gf cf x m) := HV.out.keeps KW.out (fun _ _ h => h)
    have hzr : RowAt W z [.int .i64 0, .int .i64 0, .int .i64 0, .int .i64 0, .int .i64 0] := HROW.out.keeps g2 (fun h => h)
    have TZ : Hid (T z = none) := HV.out.free (by rw [HZ.out.1]; exact Nat.le_refl _)
    have zy : z ≠ y := by have := HZ.out.2; omega
    have lz : z < W.heap.size := hzr.lt (by simp)
    have ly : y < W.heap.size := g1.lt (by simp)
    obtain ⟨t0, t2, ff0, ff2⟩ := VW.out.three HF.out
    have lf : gf < W.heap.size := World.block_lt_of_cell? W _ t0
    have lb2 : b < W.heap.size := Nat.lt_of_lt_of_le lb g2.size
    have zgf : z ≠ gf := fun e => by have h9 := VW.out.frTag; rw [← e, TZ.out] at h9; cases h9
    have y0 := g1.cell (k := 0) rfl
    have y1 := g1.cell (k := 1) rfl
    have n1 : z ≠ W.heap.size := by omega
    have n2 : y ≠ W.heap.size := by omega
    have n3 : gf ≠ W.heap.size := by omega
    have n4 : W.heap.size ≠ z := by omega
    have n5 : W.heap.size ≠ gf := by omega
    have n6 : gf ≠ z := fun e => zgf e.symm
    have ZR := Lib.hid hzr
    have GW : Hid (w.heap.size ≤ W.heap.size) := KW.out.size
    clear g1 g2 g3 hy0 k3 lb nb nb'
    try clear k3'
    by_cases h9 : k = 9
    · subst h9
      have z0 := hzr.cell (k := 0) rfl
      have z1 := hzr.cell (k := 1) rfl
      have z2 := hzr.cell (k := 2) rfl
      have z3 := hzr.cell (k := 3) rfl
      have z4 := hzr.cell (k := 4) rfl
      have zf0 := hzr.free (k := 0) (by simp)
      have zf1 := hzr.free (k := 1) (by simp)
      have zf2 := hzr.free (k := 2) (by simp)
      have zf3 := hzr.free (k := 3) (by simp)
      have zf4 := hzr.free (k := 4) (by simp)
      have D : Hid (doneN x m i = (m.setFr i { f with st := 3 }, ⟨i, 9, o, 0, 0⟩)) := done_end x m i f HF.out HST.out EK.out EO.out
      clear hzr
      go_wp2
      have v6 := (VW.out.setSt HF.out 3).five TZ.out (.int .i64 i) (.int .i64 9) (.int .i64 o) (.int .i64 0) (.int .i64 0)
      have f6 := five_row (ZR.out.other (p := ⟨gf, i * 3, none⟩) n6 (.int .i64 3)) (.int .i64 i) (.int .i64 9) (.int .i64 o) (.int .i64 0) (.int .i64 0)
      have k6 := five_keeps (S := Own T id) ((KW.out.mono (fun _ _ h => h.elim)).setCell (p := ⟨gf, i * 3, none⟩) (fun _ => ⟨_, VW.out.frTag, by simp⟩) (.int .i64 3)) (z := z) (fun h => absurd h (by rw [HZ.out.1]; exact Nat.lt_irrefl _)) (.int .i64 i) (.int .i64 9) (.int .i64 o) (.int .i64 0) (.int .i64 0)
      change bodyPost _ _ _ _ _ ((five (W.setCell ⟨gf, i * 3, none⟩ (.int .i64 3)) z (.int .i64 i) (.int .i64 9) (.int .i64 o) (.int .i64 0) (.int .i64 0)).alloc _)
      generalize five (W.setCell ⟨gf, i * 3, none⟩ (.int .i64 3)) z (.int .i64 i) (.int .i64 9) (.int .i64 o) (.int .i64 0) (.int .i64 0) = w6 at v6 f6 k6 ⊢
      have f5 := f6.alloc (.cells #[.int .i64 i, .int .i64 9, .int .i64 o, .int .i64 0, .int .i64 0] 40)
      refine bodyPost_ret (v := .tuple #[.agg #[.int .i64 i, .int .i64 9, .int .i64 o, .int .i64 0, .int .i64 0], .int .i64 0]) (by simp [results, Try.results14, go_sem, f5.cell (k := 0) rfl, f5.cell (k := 1) rfl, f5.cell (k := 2) rfl, f5.cell (k := 3) rfl, f5.cell (k := 4) rfl]) rfl ⟨by rw [D.out]; rfl, by rw [D.out]; exact v6.keeps ((Keeps.refl NoBlk w6).alloc _) (fun _ _ h => h), k6.alloc _⟩
    · have e9 : (k == 9) = false := by rw [beq_eq_false_iff_ne]; exact h9
      clear hzr t0 t2 ff0 ff2
      have h29 : ((x.cod i).at f.at_).op ≠ 29 := by have := act_run x m i f HF.out HST.out; rw [← EK.out] at this; omega
      have HS := Lib.hid (step_ok HG.out i f HF.out HST.out h29)
      have HNX := Lib.hid (step_next HG.out i f HF.out HST.out h29)
      have H29 := Lib.hid h29
      have HOK := Lib.hid (HG.out.ok.each i f HF.out)
      have HAL : Hid (VmAt (W.alloc (.cells #[.int .i64 i, .int .i64 k, .int .i64 o, .int .i64 0, .int .i64 0] 40)) T id b gf cf x m) := VW.out.keeps ((Keeps.refl NoBlk W).alloc _) (fun _ _ h => h)
      have HEV : Hid (RowAt (W.alloc (.cells #[.int .i64 i, .int .i64 k, .int .i64 o, .int .i64 0, .int .i64 0] 40)) W.heap.size [.int .i64 i, .int .i64 k, .int .i64 o, .int .i64 0, .int .i64 0]) := RowAt.ofBlock (heap_alloc_new W _)
      have HZ3 : Hid (RowAt (W.alloc (.cells #[.int .i64 i, .int .i64 k, .int .i64 o, .int .i64 0, .int .i64 0] 40)) z [.int .i64 0, .int .i64 0, .int .i64 0, .int .i64 0, .int .i64 0]) := ZR.out.alloc _
      have K3 : Hid (Keeps NoBlk w (W.alloc (.cells #[.int .i64 i, .int .i64 k, .int .i64 o, .int .i64 0, .int .i64 0] 40))) := KW.out.alloc _
      have TQ : Hid (T W.heap.size = none) := VW.out.free (Nat.le_refl _)
      go_upto_region 9 with fail
      generalize W.alloc (.cells #[.int .i64 i, .int .i64 k, .int .i64 o, .int .i64 0, .int .i64 0] 40) = W3 at HAL HEV HZ3 K3 ⊢
      obtain ⟨q, hq⟩ : ∃ q, q = W.heap.size := ⟨_, rfl⟩
      rw [← hq] at HEV TQ n1 ⊢
      have NQ : Hid (w.heap.size ≤ q) := by rw [hq]; exact GW.out
      obtain ⟨H, gd, cd, gi, oi, ci, rv, hF, ha, k2, k3, u1, c0, c1, c2, c3, t0, t2, ff⟩ := HAL.out.view HF.out HI2.out HOK.out.at_
      have i3 : (i : Int) < x.threads.length := by have := HI2.out; omega
      have j1 : (0 : Int) ≤ f.at_ := by omega
      have j2 : (f.at_ : Int) < (x.cod i).ins.length := by have := HOK.out.at_; omega
      obtain ⟨I, hI⟩ : ∃ I : Ins, I = (x.cod i).at f.at_ := ⟨_, rfl⟩
      have HIN := Lib.hid hI
      rw [← hI] at c0 c1 c2 c3
      clear hF ha ff hI hq y0 y1 ly zy n2 lb2 lz lf n3 n4 n5 h29
      refine wp_region_still_tail 14 (by kernel_rfl) (by kernel_rfl) ?_
      simp only [List.take_succ_cons, List.take_zero, List.drop_succ_cons, List.drop_zero]
      change wpStill _ _ W3.drew _ _ _
      iterate 14 still_step
      refine wpStill_nil ?_
      change wpList _ _ _ _ _ W3.drew
      have hd := vdo_any W3.drew T id b gf cf x m q i k o f (HAL.out.keeps ((Keeps.refl NoBlk W3).drew) (fun _ _ h => h)) HF.out (HEV.out.keeps (S := NoBlk) ((Keeps.refl NoBlk W3).drew) (fun h => h)) TQ.out HG.out HST.out H29.out
      rw [← HIN.out] at hd
      have HD := Lib.hid hd
      clear hd k2 k3 u1 c0 c1 c2 c3 t0 t2
      go_wp2_with fail
      refine HD.out.mono ?_
      rintro e w4 ⟨rfl, hv, hev, hk⟩
      obtain ⟨hg1, f1, e1, e2, e3, e4⟩ := HS.out
      have hdn := done_go x m i f f1 HF.out HST.out H29.out EK.out EO.out e1
      rw [← HIN.out] at hg1 e1 hdn
      obtain ⟨⟨m1, v, bad⟩, hRR⟩ : ∃ R, R = stepN x m i I := ⟨_, rfl⟩
      rw [← hRR] at hv hev hg1 e1 hdn
      dsimp only at hv hev hg1 e1 hdn
      have DN := Lib.hid hdn
      have E2 := Lib.hid e2
      clear e2 e3 e4
      have V4 := Lib.hid hv
      have E1 := Lib.hid e1
      have G1 := Lib.hid hg1
      have hzr : RowAt w4 z [.int .i64 0, .int .i64 0, .int .i64 0, .int .i64 0, .int .i64 0] := (HZ3.out.keeps (S := NoBlk) ((Keeps.refl NoBlk W3).drew) (fun h => h)).keeps hk (by rintro (h | h); exact not_own TZ.out (.inr h); exact n1 h)
      have ZR4 := Lib.hid hzr
      have HEV4 := Lib.hid hev
      have K4 : Hid (Keeps (fun k => Own T id k ∨ k = q) w w4) := ((K3.out.drew).mono (fun _ _ h => h.elim)).trans hk (fun _ _ h => h)
      have KO : Hid (Keeps (Own T id) w w4) := K4.out.mono (fun j hj h => h.elim (fun h => h) (fun h => absurd hj (by rw [h]; exact Nat.not_lt.2 NQ.out)))
      obtain ⟨t0, t2, ff0, ff2⟩ := V4.out.three E1.out
      have zgf' : z ≠ gf := zgf
      have lq : q < w4.heap.size := hev.lt (by simp)
      have lz : z < w4.heap.size := hzr.lt (by simp)
      have lf : gf < w4.heap.size := World.block_lt_of_cell? w4 _ t0
      have qz : q ≠ z := fun e => n1 e.symm
      have qf : q ≠ gf := fun e => by have h9 := V4.out.frTag; rw [← e, TQ.out] at h9; cases h9
      have fq : gf ≠ q := fun e => qf e.symm
      clear hv hk hg1 hdn e1 HD hRR
      have v0 := hev.cell (k := 0) (v := .int .i64 i) rfl
      have v1 := hev.cell (k := 1) (v := .int .i64 k) rfl
      have v2 := hev.cell (k := 2) (v := .int .i64 o) rfl
      have v3 := hev.cell (k := 3) (v := .int .i64 v) rfl
      have v4 := hev.cell (k := 4) (v := .int .i64 bad) rfl
      have z0 := hzr.cell (k := 0) rfl
      have z1 := hzr.cell (k := 1) rfl
      have z2 := hzr.cell (k := 2) rfl
      have z3 := hzr.cell (k := 3) rfl
      have z4 := hzr.cell (k := 4) rfl
      have zf0 := hzr.free (k := 0) (by simp)
      have zf1 := hzr.free (k := 1) (by simp)
      have zf2 := hzr.free (k := 2) (by simp)
      have zf3 := hzr.free (k := 3) (by simp)
      have zf4 := hzr.free (k := 4) (by simp)
      by_cases hb : bad = 0
      · subst hb
        have e0 : ((0 : Int) != 0) = false := by simp
        have a1 : (0 : Int) ≤ f1.at_ := by omega
        have a2 : (f1.at_ : Int) < 4000 := by
          have h1 := (G1.out.ok.each i f1 E1.out).at_
          have h2 := (codN_parts (right_cod HG.out.right HI2.out)).2.1.2
          omega
        have v5 := V4.out.setAt E1.out (f1.at_ + 1)
        have hl5 : (m1.setFr i { f1 with at_ := f1.at_ + 1 }).fr[i]? = some { f1 with at_ := f1.at_ + 1 } := get_setFr_eq _ _ _ (List.getElem?_eq_some_iff.1 E1.out).1
        have HL := Lib.hid (vlocal_any _ T id b gf cf i x _ { f1 with at_ := f1.at_ + 1 } v5 hl5 HI2.out H8.out (by simp [Mach.setFr]; exact G1.out.len) (right_cod HG.out.right HI2.out) ⟨(G1.out.ok.each i f1 E1.out).regs, by show f1.at_ + 1 < _; rw [E2.out]; exact HNX.out⟩)
        have KO5 : Hid (Keeps (Own T id) w (w4.setCell ⟨gf, i * 3 + 2, none⟩ (.int .i64 ((f1.at_ + 1 : Nat) : Int)))) := KO.out.setCell (p := ⟨gf, i * 3 + 2, none⟩) (fun _ => ⟨_, V4.out.frTag, by simp⟩) _
        have Q5 : Hid (RowAt (w4.setCell ⟨gf, i * 3 + 2, none⟩ (.int .i64 ((f1.at_ + 1 : Nat) : Int))) q [.int .i64 i, .int .i64 k, .int .i64 o, .int .i64 v, .int .i64 0]) := HEV4.out.other (p := ⟨gf, i * 3 + 2, none⟩) fq _
        have Z5 : Hid (RowAt (w4.setCell ⟨gf, i * 3 + 2, none⟩ (.int .i64 ((f1.at_ + 1 : Nat) : Int))) z [.int .i64 0, .int .i64 0, .int .i64 0, .int .i64 0, .int .i64 0]) := ZR4.out.other (p := ⟨gf, i * 3 + 2, none⟩) n6 _
        clear v5 hl5 hzr hev
        go_wp2_with fail
        refine HL.out.mono ?_
        rintro e w6 ⟨rfl, hv6, hk6⟩
        have hev := Q5.out.keeps hk6 (fun h => not_own TQ.out (.inr h))
        have hzr := Z5.out.keeps hk6 (fun h => not_own TZ.out (.inr h))
        have V6 := Lib.hid hv6
        have K6 := Lib.hid (KO5.out.trans hk6 (fun _ _ h => h))
        have ZR6 := Lib.hid hzr
        clear hv6 hk6
        have lq : q < w6.heap.size := hev.lt (by simp)
        have lz : z < w6.heap.size := hzr.lt (by simp)
        have v0 := hev.cell (k := 0) (v := .int .i64 i) rfl
        have v1 := hev.cell (k := 1) (v := .int .i64 k) rfl
        have v2 := hev.cell (k := 2) (v := .int .i64 o) rfl
        have v3 := hev.cell (k := 3) (v := .int .i64 v) rfl
        have v4 := hev.cell (k := 4) (v := .int .i64 0) rfl
        have z0 := hzr.cell (k := 0) rfl
        have z1 := hzr.cell (k := 1) rfl
        have z2 := hzr.cell (k := 2) rfl
        have z3 := hzr.cell (k := 3) rfl
        have z4 := hzr.cell (k := 4) rfl
        have zf0 := hzr.free (k := 0) (by simp)
        have zf1 := hzr.free (k := 1) (by simp)
        have zf2 := hzr.free (k := 2) (by simp)
        have zf3 := hzr.free (k := 3) (by simp)
        have zf4 := hzr.free (k := 4) (by simp)
        clear hev hzr
        go_wp2
        have v7 := V6.out.five TZ.out (.int .i64 i) (.int .i64 k) (.int .i64 o) (.int .i64 v) (.int .i64 0)
        have f5 := five_row ZR6.out (.int .i64 i) (.int .i64 k) (.int .i64 o) (.int .i64 v) (.int .i64 0)
        have k7 := five_keeps (S := Own T id) K6.out (z := z) (fun h => absurd h (by rw [HZ.out.1]; exact Nat.lt_irrefl _)) (.int .i64 i) (.int .i64 k) (.int .i64 o) (.int .i64 v) (.int .i64 0)
        change bodyPost _ _ _ _ _ (five w6 z (.int .i64 i) (.int .i64 k) (.int .i64 o) (.int .i64 v) (.int .i64 0))
        generalize five w6 z (.int .i64 i) (.int .i64 k) (.int .i64 o) (.int .i64 v) (.int .i64 0) = w7 at v7 f5 k7 ⊢
        refine bodyPost_ret (v := .tuple #[.agg #[.int .i64 i, .int .i64 k, .int .i64 o, .int .i64 v, .int .i64 0], .int .i64 0]) (by simp [results, Try.results14, go_sem, f5.cell (k := 0) rfl, f5.cell (k := 1) rfl, f5.cell (k := 2) rfl, f5.cell (k := 3) rfl, f5.cell (k := 4) rfl]) rfl ⟨by rw [DN.out]; rfl, ?_, k7⟩
        rw [DN.out]
        rw [Mach.setFr_set] at v7
        exact v7
      · have e0 : (bad != 0) = true := by rw [bne_iff_ne]; exact hb
        clear hzr hev
        go_wp2
        have v7 := (V4.out.setSt E1.out 4).five TZ.out (.int .i64 i) (.int .i64 k) (.int .i64 o) (.int .i64 v) (.int .i64 bad)
        have f5 := five_row (ZR4.out.other (p := ⟨gf, i * 3, none⟩) n6 (.int .i64 4)) (.int .i64 i) (.int .i64 k) (.int .i64 o) (.int .i64 v) (.int .i64 bad)
        have k7 := five_keeps (S := Own T id) (KO.out.setCell (p := ⟨gf, i * 3, none⟩) (fun _ => ⟨_, V4.out.frTag, by simp⟩) (.int .i64 4)) (z := z) (fun h => absurd h (by rw [HZ.out.1]; exact Nat.lt_irrefl _)) (.int .i64 i) (.int .i64 k) (.int .i64 o) (.int .i64 v) (.int .i64 bad)
        change bodyPost _ _ _ _ _ (five (w4.setCell ⟨gf, i * 3, none⟩ (.int .i64 4)) z (.int .i64 i) (.int .i64 k) (.int .i64 o) (.int .i64 v) (.int .i64 bad))
        generalize five (w4.setCell ⟨gf, i * 3, none⟩ (.int .i64 4)) z (.int .i64 i) (.int .i64 k) (.int .i64 o) (.int .i64 v) (.int .i64 bad) = w7 at v7 f5 k7 ⊢
        have DN2 : doneN x m i = (m1.setFr i { f1 with st := 4 }, ⟨i, k, o, v, bad⟩) := by rw [DN.out, if_pos hb]
        refine bodyPost_ret (v := .tuple #[.agg #[.int .i64 i, .int .i64 k, .int .i64 o, .int .i64 v, .int .i64 bad], .int .i64 0]) (by simp [results, Try.results14, go_sem, f5.cell (k := 0) rfl, f5.cell (k := 1) rfl, f5.cell (k := 2) rfl, f5.cell (k := 3) rfl, f5.cell (k := 4) rfl]) rfl ⟨by rw [DN2]; rfl, by rw [DN2]; exact v7, k7⟩)
end Go.Proofs.Ytmkfpkficmmlgaa
