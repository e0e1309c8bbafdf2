/- The document's machine: a local instruction, whole; the instruction ahead of which a thread stands. -/
import Derived.Test.YtmkfpkficmmlgaaK15
import Derived.StillTailTactics
namespace Go.Proofs.Ytmkfpkficmmlgaa
open Go.RowKit
set_option linter.unusedVariables false
set_option linter.unusedSimpArgs false
set_option linter.unnecessarySimpa false

section
variable (w : World) (T : Tags) (id g : Nat) (H : List HFr) (fr : List Fr) (i : Nat) (f : Fr)
theorem rdoes_any (hF : FrG w T id g H fr) (hf : fr[i]? = some f) (hat : f.at_ < 4000) (n : Ins) (hfit : LocFit f n) :
    Calls Try.prog 46 #[.pointer (some ⟨g, i * 3, none⟩), .agg #[.int .i64 n.op, .int .i64 n.a, .int .i64 n.b, .int .i64 n.c]] w fun e w' => ∃ rv, LocPost w T id g fr i rv (doesF f n) e w' := by
  obtain ⟨rv, ha, hr⟩ := hF.get hf
  have hat' : (f.at_ : Int) < 4000 := by omega
  have hreg : ∀ k, RegOk f k → ∃ (ka : Nat) (gr cap : Nat), k = ka ∧ ka < f.regs.length ∧ rv = .slice (some ⟨gr, 0, none⟩) f.regs.length cap ∧ T gr = some (id, .regs i) := by
    intro k hk
    have hk' : k.toNat < f.regs.length := by have := hk.1; have := hk.2; omega
    obtain ⟨gr, cap, e1, e2, _⟩ := hr.at hk'
    exact ⟨k.toNat, gr, cap, by have := hk.1; omega, hk', e1, e2⟩
  have hreg2 : ∀ k, RegOk f k → ∃ ka : Nat, k = ka ∧ ka < f.regs.length := fun k hk => ⟨k.toNat, by have := hk.1; omega, by have := hk.1; have := hk.2; omega⟩
  have fin : ∀ {rv f'}, Calls Try.prog 46 #[.pointer (some ⟨g, i * 3, none⟩), .agg #[.int .i64 n.op, .int .i64 n.a, .int .i64 n.b, .int .i64 n.c]] w (LocPost w T id g fr i rv f') → f' = doesF f n → Calls Try.prog 46 #[.pointer (some ⟨g, i * 3, none⟩), .agg #[.int .i64 n.op, .int .i64 n.a, .int .i64 n.b, .int .i64 n.c]] w fun e w' => ∃ rv, LocPost w T id g fr i rv (doesF f n) e w' := by
    intro rv f' h e
    subst e
    exact h.mono (fun e w' h => ⟨_, h⟩)
  obtain ⟨op, a, b, c⟩ := n
  unfold LocFit at hfit
  dsimp only at hfit ⊢ fin
  by_cases e1 : op = 1
  · subst e1
    simp at hfit
    obtain ⟨ka, gr, cap, rfl, hka, rfl, hT⟩ := hreg a hfit
    exact fin (rdoes_const w T id g H fr i f gr cap hF hf hat' ha hT ka hka b c) (by simp [doesF])
  by_cases e2 : op = 2
  · subst e2
    simp at hfit
    obtain ⟨ka, gr, cap, rfl, hka, rfl, hT⟩ := hreg a hfit.1
    obtain ⟨kb, rfl, hkb⟩ := hreg2 b hfit.2
    exact fin (rdoes_move w T id g H fr i f gr cap hF hf hat' ha hT ka hka kb hkb c) (by simp [doesF, Fr.reg])
  by_cases e3 : op = 3
  · subst e3
    simp at hfit
    obtain ⟨ka, gr, cap, rfl, hka, rfl, hT⟩ := hreg a hfit.1
    obtain ⟨kb, rfl, hkb⟩ := hreg2 b hfit.2
    exact fin (rdoes_neg w T id g H fr i f gr cap hF hf hat' ha hT ka hka kb hkb c) (by simp [doesF, Fr.reg, unN])
  by_cases e4 : op = 4
  · subst e4
    simp at hfit
    obtain ⟨ka, gr, cap, rfl, hka, rfl, hT⟩ := hreg a hfit.1
    obtain ⟨kb, rfl, hkb⟩ := hreg2 b hfit.2
    exact fin (rdoes_not w T id g H fr i f gr cap hF hf hat' ha hT ka hka kb hkb c) (by simp [doesF, Fr.reg, unN, beqZ])
  by_cases e18 : op = 18
  · subst e18
    simp at hfit
    obtain ⟨ka, rfl⟩ := int_nat hfit
    exact fin (rdoes_jump w T id g H fr i f hF hf hat' rv ha ka b c) (by simp [doesF])
  by_cases e19 : op = 19
  · subst e19
    simp at hfit
    obtain ⟨ka, gr, cap, rfl, hka, rfl, hT⟩ := hreg a hfit.1
    obtain ⟨kb, rfl⟩ := int_nat hfit.2
    by_cases hz : f.regs.getD ka 0 = 0
    · exact fin (rdoes_unless0 w T id g H fr i f gr cap hF hf hat' ha hT ka hka kb c hz) (by simp only [doesF, Fr.reg, Int.toNat_natCast, hz]; rfl)
    · exact fin (rdoes_unless1 w T id g H fr i f gr cap hF hf hat' ha hT ka hka kb c hz) (by simp only [doesF, Fr.reg, Int.toNat_natCast, hz]; rfl)
  by_cases e20 : op = 20
  · subst e20
    simp at hfit
    obtain ⟨ka, gr, cap, rfl, hka, rfl, hT⟩ := hreg a hfit.1
    obtain ⟨kb, rfl⟩ := int_nat hfit.2
    by_cases hz : 0 < w64 (f.regs.getD ka 0 - 1)
    · exact fin (rdoes_again1 w T id g H fr i f gr cap hF hf hat' ha hT ka hka kb c hz) (by simp only [doesF, Fr.reg, Int.toNat_natCast, hz]; rfl)
    · exact fin (rdoes_again0 w T id g H fr i f gr cap hF hf hat' ha hT ka hka kb c (Int.not_lt.1 hz)) (by simp only [doesF, Fr.reg, Int.toNat_natCast, hz]; rfl)
  simp only [e1, e2, e3, e4, e18, e19, e20, if_false, or_self] at hfit
  obtain ⟨hop, ha', hb', hc'⟩ := hfit
  obtain ⟨ka, gr, cap, rfl, hka, rfl, hT⟩ := hreg a ha'
  obtain ⟨kb, rfl, hkb⟩ := hreg2 b hb'
  obtain ⟨kc, rfl, hkc⟩ := hreg2 c hc'
  exact fin (rdoes_reck w T id g H fr i f gr cap hF hf hat' ha hT ka hka kb hkb kc hkc op hop) (by simp [doesF, Fr.reg, e1, e2, e3, e4, e18, e19, e20])
end

set_option maxRecDepth 8000 in
set_option maxHeartbeats 1000000 in
theorem rnext_raw (w : World) (b gf cf nt nf i gt ot ct gi oi ci nc at_ : Nat) (op ia ib ic : Int) (hi : i < nt) (hi2 : i < nf) (hn : nt ≤ 8) (hn2 : nf ≤ 8) (hat : at_ < nc) (hnc : nc ≤ 4000)
    (k2 : w.cell? ⟨b, 2, none⟩ = some (.slice (some ⟨gt, ot, none⟩) nt ct)) (k5 : w.cell? ⟨b, 5, none⟩ = some (.slice (some ⟨gf, 0, none⟩) nf cf)) (u1 : w.cell? ⟨gt, ot + i * 2 + 1, none⟩ = some (.slice (some ⟨gi, oi, none⟩) nc ci)) (t2 : w.cell? ⟨gf, i * 3 + 2, none⟩ = some (.int .i64 at_))
    (c0 : w.cell? ⟨gi, oi + at_ * 4, none⟩ = some (.int .i64 op)) (c1 : w.cell? ⟨gi, oi + at_ * 4 + 1, none⟩ = some (.int .i64 ia)) (c2 : w.cell? ⟨gi, oi + at_ * 4 + 2, none⟩ = some (.int .i64 ib)) (c3 : w.cell? ⟨gi, oi + at_ * 4 + 3, none⟩ = some (.int .i64 ic)) :
    Calls Try.prog 33 #[.pointer (some ⟨b, 0, none⟩), .int .i64 i] w fun e w' => e = .returned (.agg #[.int .i64 op, .int .i64 ia, .int .i64 ib, .int .i64 ic]) ∧ Keeps NoBlk w w' := by
  have i1 : (0 : Int) ≤ i := by omega
  have i2 : (i : Int) < nt := by omega
  have i3 : (i : Int) < nf := by omega
  have j1 : (0 : Int) ≤ at_ := by omega
  have j2 : (at_ : Int) < nc := by omega
  have l1 : b < w.heap.size := World.block_lt_of_cell? w _ k2
  have l2 : gt < w.heap.size := World.block_lt_of_cell? w _ u1
  have l3 : gf < w.heap.size := World.block_lt_of_cell? w _ t2
  have l4 : gi < w.heap.size := World.block_lt_of_cell? w _ c0
  have q1 : b ≠ w.heap.size := by omega
  have q2 : gt ≠ w.heap.size := by omega
  have q3 : gf ≠ w.heap.size := by omega
  have q4 : gi ≠ w.heap.size := by omega
  go_enter Try.func33, Try.ntmps33
  go_wp2
  go_region
  all_goals go_wp2
  all_goals (
    refine bodyPost_ret (v := .agg #[.int .i64 op, .int .i64 ia, .int .i64 ib, .int .i64 ic]) (by simp [results, Try.results33, go_sem]) rfl ⟨rfl, ?_⟩
    repeat (first | exact Keeps.refl _ _ | apply Keeps.drew | apply Keeps.drewN | apply Keeps.alloc))
def insV (n : Ins) : Value := .agg #[.int .i64 n.op, .int .i64 n.a, .int .i64 n.b, .int .i64 n.c]
theorem rnext_any (w : World) (T : Tags) (id b gf cf i : Nat) (x : Img) (m : Mach) (f : Fr) (h : RmAt w T id b gf cf x m) (hf : m.fr[i]? = some f) (hx : i < x.threads.length) (h8 : x.threads.length ≤ 8) (hl : m.fr.length = x.threads.length)
    (hc : codN x (x.cod i) = true) (hat : f.at_ < (x.cod i).ins.length) :
    Calls Try.prog 33 #[.pointer (some ⟨b, 0, none⟩), .int .i64 i] w fun e w' => e = .returned (insV ((x.cod i).at f.at_)) ∧ Keeps NoBlk w w' := by
  obtain ⟨H, gt, ot, ct, gi, oi, ci, rv, hF, ha, k2, k5, r0, u1, c0, c1, c2, c3, t0, t2, ff⟩ := h.view hf hx hat
  exact rnext_raw w b gf cf _ _ i gt ot ct gi oi ci _ f.at_ _ _ _ _ hx (by rw [hl]; exact hx) h8 (by rw [hl]; exact h8) hat (codN_parts hc).2.1.2 k2 k5 u1 t2 c0 c1 c2 c3
end Go.Proofs.Ytmkfpkficmmlgaa

/- The document's machine: local. -/
namespace Go.Proofs.Ytmkfpkficmmlgaa
open Go.RowKit
set_option linter.unusedVariables false
set_option linter.unusedSimpArgs false
set_option linter.unnecessarySimpa false

theorem RmAt.setRun {w w' : World} {T : Tags} {id b gf cf i : Nat} {x : Img} {m : Mach} {H' : List HFr} {f' : Fr} (h : RmAt w T id b gf cf x m) (hk : Keeps (fun k => k = gf ∨ T k = some (id, .regs i)) w w')
    (hF : FrG w' T id gf H' (m.shade.fr.set i f')) (hs : f'.st ≠ 1) : RmAt w' T id b gf cf x (m.setFr i f') := by
  refine h.frames (i := i) hk (H' := H') (m' := m.setFr i f') ?_ rfl rfl (by simp [Mach.setFr])
  rw [shade_set, shadow_run hs]
  exact hF
theorem RmAt.frs {w : World} {T : Tags} {id b gf cf : Nat} {x : Img} {m : Mach} (h : RmAt w T id b gf cf x m) : ∃ H, FrG w T id gf H m.shade.fr := by
  obtain ⟨xc, xt, cv, ov, h1, h2, h3⟩ := h.ex
  exact h2.frames
theorem steps_ge {x : Img} {c : Cod} {n : Ins} (h : insN x c n = true) : decide (21 ≤ n.op) = stepsN n.op := by
  have := insN_op h
  unfold stepsN
  by_cases h2 : 21 ≤ n.op <;> simp [h2]
  omega

set_option maxRecDepth 8000 in
set_option maxHeartbeats 2000000 in
theorem rlocal_any (w : World) (T : Tags) (id b gf cf i : Nat) (x : Img) (m : Mach) (f : Fr) (h : RmAt w T id b gf cf x m) (hf : m.fr[i]? = some f) (hst : f.st = 2) (hx : i < x.threads.length) (h8 : x.threads.length ≤ 8) (hl : m.fr.length = x.threads.length)
    (hc : codN x (x.cod i) = true) (hok : FrOk (x.cod i) f) :
    Calls Try.prog 35 #[.pointer (some ⟨b, 0, none⟩), .int .i64 i] w fun e w' => e = .returned (.tuple #[]) ∧ RmAt w' T id b gf cf x (m.setFr i (localF (x.cod i) 100000 f)) ∧ Keeps (Own T id) w w' := by
  have i1 : (0 : Int) ≤ i := by omega
  have i2 : (i : Int) < m.fr.length := by omega
  have HH : Hid (RmAt w T id b gf cf x (m.setFr i f)) := by rw [m.setFr_self i f hf]; exact h
  have HOK := Lib.hid hok
  have HC := Lib.hid hc
  have HX := Lib.hid hx
  have H8 := Lib.hid h8
  have HLN := Lib.hid hl
  have HST := Lib.hid hst
  have HI : Hid (i < m.fr.length) := (List.getElem?_eq_some_iff.1 hf).1
  have HL4 : Hid ((x.cod i).ins.length ≤ 4000) := (codN_parts hc).2.1.2
  clear h hf hst hx h8 hl hc hok
  go_enter Try.func35, Try.ntmps35
  go_wp2
  go_loopw [4] (fun n wr => ∃ (k : Nat) (f' : Fr), k ≤ 100000 ∧ n = .int .i64 k ∧ Hid (RmAt wr T id b gf cf x (m.setFr i f') ∧ FrOk (x.cod i) f' ∧ f'.st = 2 ∧ localF (x.cod i) (100000 - k) f' = localF (x.cod i) 100000 f ∧ Keeps (Own T id) w wr)) (fun n _ => 100000 - (intOf n).toNat)
  case atStart => exact ⟨0, f, Nat.zero_le _, rfl, HH.out, HOK.out, HST.out, rfl, Keeps.refl _ _⟩
  case round =>
    obtain ⟨k, f', hk, rfl, hrel⟩ := hrel
    have i3 : (0 : Int) ≤ k := by omega
    have i4 : (k : Int) ≤ 100000 := by omega
    have HF : Hid ((m.setFr i f').fr[i]? = some f') := List.getElem?_set_self HI.out
    have HIN := Lib.hid ((codN_parts HC.out).2.2.2 _ (Cod.at_mem (x.cod i) f'.at_ hrel.out.2.1.at_))
    have HNX := Lib.hid (rnext_any wr T id b gf cf i x (m.setFr i f') f' hrel.out.1 HF.out HX.out H8.out (by simp [Mach.setFr]; exact HLN.out) HC.out hrel.out.2.1.at_)
    obtain ⟨I, hI⟩ : ∃ I : Ins, I = (x.cod i).at f'.at_ := ⟨_, rfl⟩
    rw [← hI] at HIN HNX
    have HEQ := Lib.hid hI
    clear hI
    have es := steps_ge HIN.out
    unfold insV at HNX
    cases hs : stepsN I.op with
    | true =>
      rw [hs] at es
      have HS := Lib.hid hs
      clear hs
      go_wp2_with (go_at_call 33; refine HNX.out.mono ?_; rintro e w1 ⟨rfl, h1⟩; have H1 := Lib.hid h1; clear h1)
      refine bodyPost_ret (results_none (by rfl) _ _ _) (by rfl) ?_
      obtain ⟨hv, _, _, hloc, hkp⟩ := hrel.out
      have hl0 : localF (x.cod i) (100000 - k) f' = f' := loc_stop _ _ _ (by rw [← HEQ.out]; exact HS.out)
      have hkk := H1.out.alloc (.cells #[.int .i64 I.op, .int .i64 I.a, .int .i64 I.b, .int .i64 I.c] 48)
      refine ⟨rfl, ?_, hkp.trans hkk (fun _ _ h => h.elim)⟩
      rw [← hloc, hl0]
      exact hv.keeps hkk (fun _ _ h => h)
    | false =>
      rw [hs] at es
      have HS := Lib.hid hs
      clear hs
      by_cases hlt : k = 100000
      · subst hlt
        have k5 : Hid (∀ W, Keeps NoBlk wr W → W.cell? ⟨b, 5, none⟩ = some (.slice (some ⟨gf, 0, none⟩) m.fr.length cf)) := fun W hk => by
          obtain ⟨xc, xt, cv, ov, h1, _, _⟩ := (hrel.out.1.keeps hk (fun _ _ h => h)).ex
          have := h1.cell (k := 5) (v := .slice (some ⟨gf, 0, none⟩) (m.setFr i f').fr.length cf) rfl
          rwa [show (m.setFr i f').fr.length = m.fr.length by simp [Mach.setFr]] at this
        have t5 : Hid (∀ W, Keeps NoBlk wr W → W.cell? ⟨gf, i * 3, none⟩ = some (.int .i64 f'.st) ∧ W.frozen? ⟨gf, i * 3, none⟩ = false) := fun W hk => by
          obtain ⟨H, hF⟩ := (hrel.out.1.keeps hk (fun _ _ h => h)).frs
          have hs := shade_get HF.out
          obtain ⟨rv, ha, _⟩ := hF.get hs
          have := (hF.three ha).1
          rw [shadow_st] at this
          exact ⟨this, hF.free (List.getElem?_eq_some_iff.1 hs).1 0 (by decide)⟩
        go_wp2_with (go_at_call 33; refine HNX.out.mono ?_; rintro e w1 ⟨rfl, h1⟩; have H1 := Lib.hid h1; have k6 := k5.out w1 h1; have t6 := t5.out w1 h1; have t7 := t6.1; have t8 := t6.2; have lb : b < w1.heap.size := World.block_lt_of_cell? w1 _ k6; have lf : gf < w1.heap.size := World.block_lt_of_cell? w1 _ t7; have n1 : b ≠ w1.heap.size := (by omega); have n2 : gf ≠ w1.heap.size := (by omega); have n3 : w1.heap.size ≠ gf := (by omega); clear h1 t6)
        refine bodyPost_ret (results_none (by rfl) _ _ _) (by rfl) ?_
        obtain ⟨hv, _, hst, hloc, hkp⟩ := hrel.out
        have hl0 : localF (x.cod i) (100000 - 100000) f' = { f' with st := 4 } := loc_zero _ _ (by rw [← HEQ.out]; exact HS.out)
        have hv1 := hv.keeps H1.out (fun _ _ h => h)
        obtain ⟨H, hF⟩ := hv1.frs
        have hs := shade_get HF.out
        rw [shadow_run (by rw [hst]; decide)] at hs
        obtain ⟨rv, ha, _⟩ := hF.get hs
        have h5 := hF.setSt ha hs 4
        have h6 := hv1.setRun (i := i) ((Keeps.refl _ w1).setCell (p := ⟨gf, i * 3, none⟩) (fun _ => .inl rfl) _) h5 (by simp)
        rw [Mach.setFr_set] at h6
        rw [← hloc, hl0]
        refine ⟨rfl, h6.keeps (S := NoBlk) ((Keeps.refl _ _).alloc _) (fun _ _ h => h), ((hkp.trans H1.out (fun _ _ h => h.elim)).setCell (p := ⟨gf, i * 3, none⟩) (fun _ => ⟨_, hF.tag, by simp⟩) _).alloc _⟩
      · have i5 : ((k : Int) == 100000) = false := by rw [beq_eq_false_iff_ne]; omega
        have k5 : Hid (∀ W, Keeps NoBlk wr W → W.cell? ⟨b, 5, none⟩ = some (.slice (some ⟨gf, 0, none⟩) m.fr.length cf)) := fun W hk => by
          obtain ⟨xc, xt, cv, ov, h1, _, _⟩ := (hrel.out.1.keeps hk (fun _ _ h => h)).ex
          have := h1.cell (k := 5) (v := .slice (some ⟨gf, 0, none⟩) (m.setFr i f').fr.length cf) rfl
          rwa [show (m.setFr i f').fr.length = m.fr.length by simp [Mach.setFr]] at this
        go_upto_region 7 with (go_at_call 33; refine HNX.out.mono ?_; rintro e w1 ⟨rfl, h1⟩; have H1 := Lib.hid h1; clear h1)
        have hwx : Keeps NoBlk wr (w1.alloc (.cells #[.int .i64 I.op, .int .i64 I.a, .int .i64 I.b, .int .i64 I.c] 48)) := H1.out.alloc _
        have hy := heap_alloc_new w1 (.cells #[.int .i64 I.op, .int .i64 I.a, .int .i64 I.b, .int .i64 I.c] 48)
        obtain ⟨W, hW⟩ : ∃ W, W = w1.alloc (.cells #[.int .i64 I.op, .int .i64 I.a, .int .i64 I.b, .int .i64 I.c] 48) := ⟨_, rfl⟩
        rw [← hW] at hwx hy ⊢
        have KW := Lib.hid hwx
        have k6 := k5.out W hwx
        have y0 : W.cell? ⟨w1.heap.size, 0, none⟩ = some (.int .i64 I.op) := cell_of_row W _ 0 _ _ _ hy
        have y1 : W.cell? ⟨w1.heap.size, 1, none⟩ = some (.int .i64 I.a) := cell_of_row W _ 1 _ _ _ hy
        have y2 : W.cell? ⟨w1.heap.size, 2, none⟩ = some (.int .i64 I.b) := cell_of_row W _ 2 _ _ _ hy
        have y3 : W.cell? ⟨w1.heap.size, 3, none⟩ = some (.int .i64 I.c) := cell_of_row W _ 3 _ _ _ hy
        generalize w1.heap.size = y at y0 y1 y2 y3 ⊢
        clear hW hwx hy
        have HD : Hid (Calls Try.prog 46 #[.pointer (some ⟨gf, i * 3, none⟩), .agg #[.int .i64 I.op, .int .i64 I.a, .int .i64 I.b, .int .i64 I.c]] W.drew fun e w' => e = .returned (.tuple #[]) ∧ (RmAt w' T id b gf cf x (m.setFr i (doesF f' I)) ∧ FrOk (x.cod i) (doesF f' I) ∧ (doesF f' I).st = 2 ∧ localF (x.cod i) (100000 - (k + 1)) (doesF f' I) = localF (x.cod i) 100000 f ∧ Keeps (Own T id) w w')) := by
          obtain ⟨hv, hok, hst, hloc, hkp⟩ := hrel.out
          have hkd : Keeps NoBlk wr W.drew := KW.out.drew
          have hvd := hv.keeps hkd (fun _ _ h => h)
          obtain ⟨H, hF⟩ := hvd.frs
          have hs := shade_get HF.out
          rw [shadow_run (by rw [hst]; decide)] at hs
          have hfit := loc_fit HC.out hok (by rw [← HEQ.out]; exact HS.out)
          rw [← HEQ.out] at hfit
          refine (rdoes_any W.drew T id gf H _ i f' hF hs (Nat.lt_of_lt_of_le hok.at_ HL4.out) I hfit.1).mono ?_
          rintro e w' ⟨rv2, rfl, ⟨H2, hF2, _⟩, hK2⟩
          have hv2 := hvd.setRun (i := i) hK2 hF2 (by rw [doesF_st, hst]; decide)
          rw [Mach.setFr_set] at hv2
          have hl1 : localF (x.cod i) (100000 - k) f' = localF (x.cod i) (100000 - (k + 1)) (doesF f' I) := by
            rw [show 100000 - k = (100000 - (k + 1)) + 1 by omega, HEQ.out]
            exact loc_next _ _ _ (by rw [← HEQ.out]; exact HS.out)
          exact ⟨rfl, hv2, hfit.2, by rw [doesF_st]; exact hst, by rw [← hl1]; exact hloc, (hkp.trans hkd (fun _ _ h => h.elim)).trans hK2 (fun k _ h => own_fr hF.tag k h)⟩
        refine wp_region_still_tail 7 (by kernel_rfl) (by kernel_rfl) ?_
        simp only [List.take_succ_cons, List.take_zero, List.drop_succ_cons, List.drop_zero]
        change wpStill _ _ W.drew _ _ _
        iterate 7 still_step
        refine wpStill_nil ?_
        change wpList _ _ _ _ _ W.drew
        go_wp2_with (go_at_call 46; refine HD.out.mono ?_; rintro e w2 ⟨rfl, h2⟩; have HR2 := Lib.hid h2; clear h2)
        exact ⟨⟨k + 1, _, by omega, by go_num, HR2⟩, by simp [intOf]; omega⟩
end Go.Proofs.Ytmkfpkficmmlgaa
