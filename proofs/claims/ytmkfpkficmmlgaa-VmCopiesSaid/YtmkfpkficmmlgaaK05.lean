/- Package vm: a local instruction, more of them. -/
import Derived.Test.YtmkfpkficmmlgaaK04
import Derived.StillTailTactics
namespace Go.Proofs.Ytmkfpkficmmlgaa
open Go.RowKit
set_option linter.unusedVariables false
set_option linter.unusedSimpArgs false
set_option linter.unnecessarySimpa false

section
variable (w : World) (T : Tags) (id g : Nat) (H : List HFr) (fr : List Fr) (i : Nat) (f : Fr) (gr cap : Nat)
set_option maxRecDepth 8000 in
set_option maxHeartbeats 1000000 in
theorem vdoes_unless0 (hF : FrG w T id g H fr) (hf : fr[i]? = some f) (hat : (f.at_ : Int) < 4000) (ha : H[i]? = some ⟨f.st, .slice (some ⟨gr, 0, none⟩) f.regs.length cap, f.at_⟩) (hT : T gr = some (id, .regs i)) (ka : Nat) (hka : ka < f.regs.length) (kb : Nat) (c : Int) (hz : f.regs.getD ka 0 = 0) :
    Calls Try.prog 48 #[.pointer (some ⟨g, i * 3, none⟩), .agg #[.int .i64 19, .int .i64 ka, .int .i64 kb, .int .i64 c]] w (LocPost w T id g fr i (.slice (some ⟨gr, 0, none⟩) f.regs.length cap) (f.to kb)) := by
  obtain ⟨c0, c1, c2⟩ := hF.three ha
  have f2 := hF.free (List.getElem?_eq_some_iff.1 hf).1 2 (by decide)
  have q1 : g < w.heap.size := World.block_lt_of_cell? w _ c0
  have q4 : g ≠ w.heap.size := by omega
  have q6 : w.heap.size ≠ g := by omega
  have i0 : (0 : Int) ≤ f.at_ := by omega
  have hr := (hF.each i _ f ha hf).2.2
  have hgr : gr ≠ g := fun e => by rw [e, hF.tag] at hT; simp at hT
  have hrow : RowAt w gr (ints f.regs) := by
    obtain ⟨g', cap', e1, e2, e3⟩ := hr.at hka
    simp at e1
    obtain ⟨rfl, _⟩ := e1
    exact e3
  have r1 := hrow.cell (ints_get f.regs ka hka)
  have f1 := hrow.free (k := ka) (by rw [ints_len]; exact hka)
  have q2 : gr < w.heap.size := World.block_lt_of_cell? w _ r1
  have q3 : gr ≠ w.heap.size := by omega
  have q5 : w.heap.size ≠ gr := by omega
  have q7 : g ≠ gr := fun e => hgr e.symm
  have j1 : (0 : Int) ≤ ka := by omega
  have j2 : (ka : Int) < f.regs.length := by omega
  rw [hz] at r1
  have HI : Hid (i < fr.length) := (List.getElem?_eq_some_iff.1 hf).1
  have HP := Lib.hid (locPost_on w T id g H fr i f hF hf ha)
  clear hF hf ha hT hr hrow
  clear hz
  go_enter Try.func48, Try.ntmps48
  go_wp2
  go_quiet (fail)
  go_wp2
  all_goals (
    refine Great.bodyPost_end0 (by rfl) (by rfl) ?_
    first
    | exact (HP.out.alloc _).drew
    | exact (HP.out.alloc _).drewN _
    | exact ((HP.out.alloc _).drewN _).to HI.out kb
    | exact HP.out.alloc _)

set_option maxRecDepth 8000 in
set_option maxHeartbeats 1000000 in
theorem vdoes_unless1 (hF : FrG w T id g H fr) (hf : fr[i]? = some f) (hat : (f.at_ : Int) < 4000) (ha : H[i]? = some ⟨f.st, .slice (some ⟨gr, 0, none⟩) f.regs.length cap, f.at_⟩) (hT : T gr = some (id, .regs i)) (ka : Nat) (hka : ka < f.regs.length) (b c : Int) (hz : f.regs.getD ka 0 ≠ 0) :
    Calls Try.prog 48 #[.pointer (some ⟨g, i * 3, none⟩), .agg #[.int .i64 19, .int .i64 ka, .int .i64 b, .int .i64 c]] w (LocPost w T id g fr i (.slice (some ⟨gr, 0, none⟩) f.regs.length cap) f.on) := by
  obtain ⟨c0, c1, c2⟩ := hF.three ha
  have f2 := hF.free (List.getElem?_eq_some_iff.1 hf).1 2 (by decide)
  have q1 : g < w.heap.size := World.block_lt_of_cell? w _ c0
  have q4 : g ≠ w.heap.size := by omega
  have q6 : w.heap.size ≠ g := by omega
  have i0 : (0 : Int) ≤ f.at_ := by omega
  have hr := (hF.each i _ f ha hf).2.2
  have hgr : gr ≠ g := fun e => by rw [e, hF.tag] at hT; simp at hT
  have hrow : RowAt w gr (ints f.regs) := by
    obtain ⟨g', cap', e1, e2, e3⟩ := hr.at hka
    simp at e1
    obtain ⟨rfl, _⟩ := e1
    exact e3
  have r1 := hrow.cell (ints_get f.regs ka hka)
  have f1 := hrow.free (k := ka) (by rw [ints_len]; exact hka)
  have q2 : gr < w.heap.size := World.block_lt_of_cell? w _ r1
  have q3 : gr ≠ w.heap.size := by omega
  have q5 : w.heap.size ≠ gr := by omega
  have q7 : g ≠ gr := fun e => hgr e.symm
  have j1 : (0 : Int) ≤ ka := by omega
  have j2 : (ka : Int) < f.regs.length := by omega
  have e1 : (f.regs.getD ka 0 == 0) = false := by rw [beq_eq_false_iff_ne]; exact hz
  have HP := Lib.hid (locPost_on w T id g H fr i f hF hf ha)
  clear hF hf ha hT hr hrow
  generalize f.regs.getD ka 0 = va at *
  go_enter Try.func48, Try.ntmps48
  go_wp2
  go_quiet (fail)
  go_wp2
  all_goals (
    refine Great.bodyPost_end0 (by rfl) (by rfl) ?_
    first
    | exact (HP.out.alloc _).drew
    | exact (HP.out.alloc _).drewN _
    | exact HP.out.alloc _)

set_option maxRecDepth 8000 in
set_option maxHeartbeats 1000000 in
theorem vdoes_again1 (hF : FrG w T id g H fr) (hf : fr[i]? = some f) (hat : (f.at_ : Int) < 4000) (ha : H[i]? = some ⟨f.st, .slice (some ⟨gr, 0, none⟩) f.regs.length cap, f.at_⟩) (hT : T gr = some (id, .regs i)) (ka : Nat) (hka : ka < f.regs.length) (kb : Nat) (c : Int) (hz : 0 < w64 (f.regs.getD ka 0 - 1)) :
    Calls Try.prog 48 #[.pointer (some ⟨g, i * 3, none⟩), .agg #[.int .i64 20, .int .i64 ka, .int .i64 kb, .int .i64 c]] w (LocPost w T id g fr i (.slice (some ⟨gr, 0, none⟩) f.regs.length cap) ((f.put ka (w64 (f.regs.getD ka 0 - 1))).to kb)) := by
  obtain ⟨c0, c1, c2⟩ := hF.three ha
  have f2 := hF.free (List.getElem?_eq_some_iff.1 hf).1 2 (by decide)
  have q1 : g < w.heap.size := World.block_lt_of_cell? w _ c0
  have q4 : g ≠ w.heap.size := by omega
  have q6 : w.heap.size ≠ g := by omega
  have i0 : (0 : Int) ≤ f.at_ := by omega
  have hr := (hF.each i _ f ha hf).2.2
  have hgr : gr ≠ g := fun e => by rw [e, hF.tag] at hT; simp at hT
  have hrow : RowAt w gr (ints f.regs) := by
    obtain ⟨g', cap', e1, e2, e3⟩ := hr.at hka
    simp at e1
    obtain ⟨rfl, _⟩ := e1
    exact e3
  have r1 := hrow.cell (ints_get f.regs ka hka)
  have f1 := hrow.free (k := ka) (by rw [ints_len]; exact hka)
  have q2 : gr < w.heap.size := World.block_lt_of_cell? w _ r1
  have q3 : gr ≠ w.heap.size := by omega
  have q5 : w.heap.size ≠ gr := by omega
  have q7 : g ≠ gr := fun e => hgr e.symm
  have j1 : (0 : Int) ≤ ka := by omega
  have j2 : (ka : Int) < f.regs.length := by omega
  have HI : Hid (i < fr.length) := (List.getElem?_eq_some_iff.1 hf).1
  have HP := Lib.hid (locPost_regs H f hF hf ha hT ka hka (w64 (f.regs.getD ka 0 - 1)))
  clear hF hf ha hT hr hrow
  generalize f.regs.getD ka 0 = va at *
  go_enter Try.func48, Try.ntmps48
  go_wp2
  go_region
  all_goals go_wp2
  all_goals go_quiet (fail)
  all_goals go_wp2
  all_goals (
    refine Great.bodyPost_end0 (by rfl) (by rfl) ?_
    first
    | exact (HP.out.alloc _).drew
    | exact (HP.out.alloc _).drewN _
    | exact ((HP.out.alloc _).drewN _).to HI.out kb
    | exact HP.out.alloc _)

end
end Go.Proofs.Ytmkfpkficmmlgaa

/- Package vm: a local instruction, the last of them. -/
namespace Go.Proofs.Ytmkfpkficmmlgaa
open Go.RowKit
set_option linter.unusedVariables false
set_option linter.unusedSimpArgs false
set_option linter.unnecessarySimpa false

section
variable (w : World) (T : Tags) (id g : Nat) (H : List HFr) (fr : List Fr) (i : Nat) (f : Fr) (gr cap : Nat)
set_option maxRecDepth 8000 in
set_option maxHeartbeats 1000000 in
theorem vdoes_again0 (hF : FrG w T id g H fr) (hf : fr[i]? = some f) (hat : (f.at_ : Int) < 4000) (ha : H[i]? = some ⟨f.st, .slice (some ⟨gr, 0, none⟩) f.regs.length cap, f.at_⟩) (hT : T gr = some (id, .regs i)) (ka : Nat) (hka : ka < f.regs.length) (b c : Int) (hz : w64 (f.regs.getD ka 0 - 1) ≤ 0) :
    Calls Try.prog 48 #[.pointer (some ⟨g, i * 3, none⟩), .agg #[.int .i64 20, .int .i64 ka, .int .i64 b, .int .i64 c]] w (LocPost w T id g fr i (.slice (some ⟨gr, 0, none⟩) f.regs.length cap) (f.on.put ka (w64 (f.regs.getD ka 0 - 1)))) := by
  obtain ⟨c0, c1, c2⟩ := hF.three ha
  have f2 := hF.free (List.getElem?_eq_some_iff.1 hf).1 2 (by decide)
  have q1 : g < w.heap.size := World.block_lt_of_cell? w _ c0
  have q4 : g ≠ w.heap.size := by omega
  have q6 : w.heap.size ≠ g := by omega
  have i0 : (0 : Int) ≤ f.at_ := by omega
  have hr := (hF.each i _ f ha hf).2.2
  have hgr : gr ≠ g := fun e => by rw [e, hF.tag] at hT; simp at hT
  have hrow : RowAt w gr (ints f.regs) := by
    obtain ⟨g', cap', e1, e2, e3⟩ := hr.at hka
    simp at e1
    obtain ⟨rfl, _⟩ := e1
    exact e3
  have r1 := hrow.cell (ints_get f.regs ka hka)
  have f1 := hrow.free (k := ka) (by rw [ints_len]; exact hka)
  have q2 : gr < w.heap.size := World.block_lt_of_cell? w _ r1
  have q3 : gr ≠ w.heap.size := by omega
  have q5 : w.heap.size ≠ gr := by omega
  have q7 : g ≠ gr := fun e => hgr e.symm
  have j1 : (0 : Int) ≤ ka := by omega
  have j2 : (ka : Int) < f.regs.length := by omega
  have HP := Lib.hid (locPost_regs H f hF hf ha hT ka hka (w64 (f.regs.getD ka 0 - 1)))
  clear hF hf ha hT hr hrow
  generalize f.regs.getD ka 0 = va at *
  have e1 : decide (0 < RowKit.wrap64 (va - 1)) = false := decide_eq_false (Int.not_lt.2 hz)
  clear hz
  go_enter Try.func48, Try.ntmps48
  go_wp2
  go_region
  all_goals go_wp2
  all_goals go_quiet (fail)
  all_goals go_wp2
  all_goals (
    refine Great.bodyPost_end0 (by rfl) (by rfl) ?_
    first
    | exact (HP.out.alloc _).drew
    | exact (HP.out.alloc _).drew.drewN _
    | exact (HP.out.alloc _).drewN _ |>.drewN _
    | exact (HP.out.alloc _).drewN _
    | exact HP.out.alloc _)

set_option maxRecDepth 8000 in
set_option maxHeartbeats 1000000 in
theorem vdoes_not (hF : FrG w T id g H fr) (hf : fr[i]? = some f) (hat : (f.at_ : Int) < 4000) (ha : H[i]? = some ⟨f.st, .slice (some ⟨gr, 0, none⟩) f.regs.length cap, f.at_⟩) (hT : T gr = some (id, .regs i)) (ka : Nat) (hka : ka < f.regs.length) (kb : Nat) (hkb : kb < f.regs.length) (c : Int) :
    Calls Try.prog 48 #[.pointer (some ⟨g, i * 3, none⟩), .agg #[.int .i64 4, .int .i64 ka, .int .i64 kb, .int .i64 c]] w (LocPost w T id g fr i (.slice (some ⟨gr, 0, none⟩) f.regs.length cap) (f.on.put ka (yesN (f.regs.getD kb 0 == 0)))) := by
  obtain ⟨c0, c1, c2⟩ := hF.three ha
  have f2 := hF.free (List.getElem?_eq_some_iff.1 hf).1 2 (by decide)
  have q1 : g < w.heap.size := World.block_lt_of_cell? w _ c0
  have q4 : g ≠ w.heap.size := by omega
  have q6 : w.heap.size ≠ g := by omega
  have i0 : (0 : Int) ≤ f.at_ := by omega
  have hi := (List.getElem?_eq_some_iff.1 hf).1
  have HI := Lib.hid hi
  have HTT := Lib.hid hT
  have j1a : (0 : Int) ≤ ka := by omega
  have j2a : (ka : Int) < f.regs.length := by omega
  have j1b : (0 : Int) ≤ kb := by omega
  have j2b : (kb : Int) < f.regs.length := by omega
  have HB0 := Lib.hid ((locPost_on w T id g H fr i f hF hf ha).alloc (.cells #[.int .i64 4, .int .i64 ka, .int .i64 kb, .int .i64 c] 48))
  have hbx := heap_alloc_new (w.setCell ⟨g, i * 3 + 2, none⟩ (.int .i64 ((f.at_ : Int) + 1))) (.cells #[.int .i64 4, .int .i64 ka, .int .i64 kb, .int .i64 c] 48)
  have hsz : (w.setCell ⟨g, i * 3 + 2, none⟩ (.int .i64 ((f.at_ : Int) + 1))).heap.size = w.heap.size := by simp [World.setCell]
  rw [hsz] at hbx
  have HBX := Lib.hid hbx
  have HFI := Lib.hid hf
  have hgg : g ≠ gr := fun e => by have h9 := hF.tag; rw [e, hT] at h9; simp at h9
  have hgg' : gr ≠ g := fun e => hgg e.symm
  have hgw : gr < w.heap.size := by
    obtain ⟨g', cap', e4, e2, e3⟩ := ((hF.each i _ _ ha hf).2.2).at (k := ka) hka
    simp at e4
    obtain ⟨rfl, _⟩ := e4
    exact World.block_lt_of_cell? w _ (e3.cell (ints_get f.regs ka hka))
  clear hF hT hbx hsz hi hf ha
  go_enter Try.func48, Try.ntmps48
  go_upto_region 11 with fail
  generalize (w.setCell ⟨g, i * 3 + 2, none⟩ (.int .i64 ((f.at_ : Int) + 1))).alloc (.cells #[.int .i64 4, .int .i64 ka, .int .i64 kb, .int .i64 c] 48) = W at HB0 HBX ⊢
  clear c0 c1 c2 f2
  obtain ⟨-, ⟨H', h2, e1⟩, hkp⟩ := HB0.out
  have hf2 : (fr.set i f.on)[i]? = some f.on := List.getElem?_set_self HI.out
  have c1 := (h2.three e1).2.1
  have hrow : RowAt W gr (ints f.regs) := by
    obtain ⟨g', cap', e4, e2, e3⟩ := ((h2.each i _ _ e1 hf2).2.2).at (k := ka) hka
    simp at e4
    obtain ⟨rfl, _⟩ := e4
    exact e3
  have ra := hrow.cell (ints_get f.regs ka hka)
  have rb := hrow.cell (ints_get f.regs kb hkb)
  have f1 := hrow.free (k := ka) (by rw [ints_len]; exact hka)
  have b0 : W.cell? ⟨w.heap.size, 0, none⟩ = some (.int .i64 4) := cell_of_row W _ 0 _ _ _ HBX.out
  have b1 : W.cell? ⟨w.heap.size, 1, none⟩ = some (.int .i64 ka) := cell_of_row W _ 1 _ _ _ HBX.out
  have b2 : W.cell? ⟨w.heap.size, 2, none⟩ = some (.int .i64 kb) := cell_of_row W _ 2 _ _ _ HBX.out
  have b3 : W.cell? ⟨w.heap.size, 3, none⟩ = some (.int .i64 c) := cell_of_row W _ 3 _ _ _ HBX.out
  have HP := Lib.hid (HB0.out.reg HI.out HTT.out rfl ka hka (yesN (f.regs.getD kb 0 == 0)))
  clear h2 e1 hkp hf2 hrow HB0 HBX H'
  generalize f.regs.getD ka 0 = va at ra
  generalize f.regs.getD kb 0 = vb at *
  have n1 : gr ≠ w.heap.size := by omega
  have n2 : w.heap.size ≠ gr := fun e => n1 e.symm
  generalize w.heap.size = bx at *
  generalize f.regs.length = nr at *
  clear q1 q4 q6 hat i0 hgw
  refine wp_region_still_tail 17 (by kernel_rfl) (by kernel_rfl) ?_
  simp only [List.take_succ_cons, List.take_zero, List.drop_succ_cons, List.drop_zero]
  change wpStill _ _ W.drew _ _ _
  iterate 15 still_step
  still_call ((yes_any _ _).mono (fun e w' h => ⟨h.1, h.2.symm⟩))
  still_step
  refine wpStill_nil ?_
  change wpList _ _ _ _ _ W.drew
  all_goals go_wp2
  all_goals (
    refine Great.bodyPost_end0 (by rfl) (by rfl) ?_
    first
    | exact HP.out.drew
    | exact HP.out.drewN _)
end
end Go.Proofs.Ytmkfpkficmmlgaa

/- Package vm: a local instruction, the operators. -/
namespace Go.Proofs.Ytmkfpkficmmlgaa
open Go.RowKit
set_option linter.unusedVariables false
set_option linter.unusedSimpArgs false
set_option linter.unnecessarySimpa false

section
variable (w : World) (T : Tags) (id g : Nat) (H : List HFr) (fr : List Fr) (i : Nat) (f : Fr) (gr cap : Nat)
set_option maxRecDepth 8000 in
set_option maxHeartbeats 1000000 in
theorem vdoes_reck (hF : FrG w T id g H fr) (hf : fr[i]? = some f) (hat : (f.at_ : Int) < 4000) (ha : H[i]? = some ⟨f.st, .slice (some ⟨gr, 0, none⟩) f.regs.length cap, f.at_⟩) (hT : T gr = some (id, .regs i)) (ka : Nat) (hka : ka < f.regs.length) (kb : Nat) (hkb : kb < f.regs.length) (kc : Nat) (hkc : kc < f.regs.length) (op : Int) (hop : 5 ≤ op ∧ op ≤ 17) :
    Calls Try.prog 48 #[.pointer (some ⟨g, i * 3, none⟩), .agg #[.int .i64 op, .int .i64 ka, .int .i64 kb, .int .i64 kc]] w (LocPost w T id g fr i (.slice (some ⟨gr, 0, none⟩) f.regs.length cap) (f.on.put ka (reckN op (f.regs.getD kb 0) (f.regs.getD kc 0)))) := by
  obtain ⟨c0, c1, c2⟩ := hF.three ha
  have f2 := hF.free (List.getElem?_eq_some_iff.1 hf).1 2 (by decide)
  have q1 : g < w.heap.size := World.block_lt_of_cell? w _ c0
  have q4 : g ≠ w.heap.size := by omega
  have q6 : w.heap.size ≠ g := by omega
  have i0 : (0 : Int) ≤ f.at_ := by omega
  have hi := (List.getElem?_eq_some_iff.1 hf).1
  have HI := Lib.hid hi
  have HTT := Lib.hid hT
  have j1a : (0 : Int) ≤ ka := by omega
  have j2a : (ka : Int) < f.regs.length := by omega
  have j1b : (0 : Int) ≤ kb := by omega
  have j2b : (kb : Int) < f.regs.length := by omega
  have j1c : (0 : Int) ≤ kc := by omega
  have j2c : (kc : Int) < f.regs.length := by omega
  have e1 : (op == 1) = false := by rw [beq_eq_false_iff_ne]; omega
  have e2 : (op == 2) = false := by rw [beq_eq_false_iff_ne]; omega
  have e3 : (op == 3) = false := by rw [beq_eq_false_iff_ne]; omega
  have e4 : (op == 4) = false := by rw [beq_eq_false_iff_ne]; omega
  have e18 : (op == 18) = false := by rw [beq_eq_false_iff_ne]; omega
  have e19 : (op == 19) = false := by rw [beq_eq_false_iff_ne]; omega
  have e20 : (op == 20) = false := by rw [beq_eq_false_iff_ne]; omega
  have HB0 := Lib.hid ((locPost_on w T id g H fr i f hF hf ha).alloc (.cells #[.int .i64 op, .int .i64 ka, .int .i64 kb, .int .i64 kc] 48))
  have hbx := heap_alloc_new (w.setCell ⟨g, i * 3 + 2, none⟩ (.int .i64 ((f.at_ : Int) + 1))) (.cells #[.int .i64 op, .int .i64 ka, .int .i64 kb, .int .i64 kc] 48)
  have hsz : (w.setCell ⟨g, i * 3 + 2, none⟩ (.int .i64 ((f.at_ : Int) + 1))).heap.size = w.heap.size := by simp [World.setCell]
  rw [hsz] at hbx
  have HBX := Lib.hid hbx
  have HFI := Lib.hid hf
  have hgg : g ≠ gr := fun e => by have h9 := hF.tag; rw [e, hT] at h9; simp at h9
  have hgg' : gr ≠ g := fun e => hgg e.symm
  have hgw : gr < w.heap.size := by
    obtain ⟨g', cap', e4, e2, e3⟩ := ((hF.each i _ _ ha hf).2.2).at (k := ka) hka
    simp at e4
    obtain ⟨rfl, _⟩ := e4
    exact World.block_lt_of_cell? w _ (e3.cell (ints_get f.regs ka hka))
  clear hF hT hbx hsz hi hf ha
  go_enter Try.func48, Try.ntmps48
  go_upto_region 3 with fail
  generalize (w.setCell ⟨g, i * 3 + 2, none⟩ (.int .i64 ((f.at_ : Int) + 1))).alloc (.cells #[.int .i64 op, .int .i64 ka, .int .i64 kb, .int .i64 kc] 48) = W at HB0 HBX ⊢
  clear c0 c1 c2 f2
  obtain ⟨-, ⟨H', h2, e11⟩, hkp⟩ := HB0.out
  have hf2 : (fr.set i f.on)[i]? = some f.on := List.getElem?_set_self HI.out
  have c1 := (h2.three e11).2.1
  have hrow : RowAt W gr (ints f.regs) := by
    obtain ⟨g', cap', e4, e2, e3⟩ := ((h2.each i _ _ e11 hf2).2.2).at (k := ka) hka
    simp at e4
    obtain ⟨rfl, _⟩ := e4
    exact e3
  have ra := hrow.cell (ints_get f.regs ka hka)
  have rb := hrow.cell (ints_get f.regs kb hkb)
  have rc := hrow.cell (ints_get f.regs kc hkc)
  have f1 := hrow.free (k := ka) (by rw [ints_len]; exact hka)
  have b0 : W.cell? ⟨w.heap.size, 0, none⟩ = some (.int .i64 op) := cell_of_row W _ 0 _ _ _ HBX.out
  have b1 : W.cell? ⟨w.heap.size, 1, none⟩ = some (.int .i64 ka) := cell_of_row W _ 1 _ _ _ HBX.out
  have b2 : W.cell? ⟨w.heap.size, 2, none⟩ = some (.int .i64 kb) := cell_of_row W _ 2 _ _ _ HBX.out
  have b3 : W.cell? ⟨w.heap.size, 3, none⟩ = some (.int .i64 kc) := cell_of_row W _ 3 _ _ _ HBX.out
  have HP := Lib.hid (HB0.out.reg HI.out HTT.out rfl ka hka (reckN op (f.regs.getD kb 0) (f.regs.getD kc 0)))
  clear h2 e11 hkp hf2 hrow HB0 HBX H'
  generalize f.regs.getD ka 0 = va at ra
  generalize f.regs.getD kb 0 = vb at *
  generalize f.regs.getD kc 0 = vc at *
  have n1 : gr ≠ w.heap.size := by omega
  have n2 : w.heap.size ≠ gr := fun e => n1 e.symm
  generalize w.heap.size = bx at *
  generalize f.regs.length = nr at *
  clear q1 q4 q6 hat i0 hgw
  refine wp_region_still_tail 26 (by kernel_rfl) (by kernel_rfl) ?_
  simp only [List.take_succ_cons, List.take_zero, List.drop_succ_cons, List.drop_zero]
  change wpStill _ _ W.drew _ _ _
  iterate 24 still_step
  still_call ((reck_any _ _ _ _ hop).mono (fun e w' h => ⟨h.1, h.2.symm⟩))
  still_step
  refine wpStill_nil ?_
  change wpList _ _ _ _ _ W.drew
  all_goals go_wp2
  all_goals (
    refine Great.bodyPost_end0 (by rfl) (by rfl) ?_
    first
    | exact HP.out.drew
    | exact HP.out.drewN _)
end
end Go.Proofs.Ytmkfpkficmmlgaa
