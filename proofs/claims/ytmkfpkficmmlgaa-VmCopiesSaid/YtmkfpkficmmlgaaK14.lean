/- The document's machine: a local instruction. -/
import Derived.Test.YtmkfpkficmmlgaaK13
import Derived.StillTailTactics
namespace Go.Proofs.Ytmkfpkficmmlgaa
open Go.RowKit
set_option linter.unusedVariables false
set_option linter.unusedSimpArgs false
set_option linter.unnecessarySimpa false

section
variable (w : World) (T : Tags) (id g : Nat) (H : List HFr) (fr : List Fr) (i : Nat) (f : Fr) (gr cap : Nat)
set_option maxRecDepth 8000 in
set_option maxHeartbeats 1000000 in
theorem rdoes_const (hF : FrG w T id g H fr) (hf : fr[i]? = some f) (hat : (f.at_ : Int) < 4000) (ha : H[i]? = some ⟨f.st, .slice (some ⟨gr, 0, none⟩) f.regs.length cap, f.at_⟩) (hT : T gr = some (id, .regs i)) (ka : Nat) (hka : ka < f.regs.length) (u c : Int) :
    Calls Try.prog 46 #[.pointer (some ⟨g, i * 3, none⟩), .agg #[.int .i64 1, .int .i64 ka, .int .i64 u, .int .i64 c]] w (LocPost w T id g fr i (.slice (some ⟨gr, 0, none⟩) f.regs.length cap) (f.on.put ka u)) := by
  obtain ⟨c0, c1, c2⟩ := hF.three ha
  have f2 := hF.free (List.getElem?_eq_some_iff.1 hf).1 2 (by decide)
  have q1 : g < w.heap.size := World.block_lt_of_cell? w _ c0
  have q4 : g ≠ w.heap.size := by omega
  have q6 : w.heap.size ≠ g := by omega
  have i0 : (0 : Int) ≤ f.at_ := by omega
  have hr := (hF.each i _ f ha hf).2.2
  have hgr : gr ≠ g := fun e => by rw [e, hF.tag] at hT; simp at hT
  have hrow : RowAt w gr (ints f.regs) := by
    obtain ⟨g', cap', e1, e2, e3⟩ := hr.at hka
    simp at e1
    obtain ⟨rfl, _⟩ := e1
    exact e3
  have r1 := hrow.cell (ints_get f.regs ka hka)
  have f1 := hrow.free (k := ka) (by rw [ints_len]; exact hka)
  have q2 : gr < w.heap.size := World.block_lt_of_cell? w _ r1
  have q3 : gr ≠ w.heap.size := by omega
  have q5 : w.heap.size ≠ gr := by omega
  have q7 : g ≠ gr := fun e => hgr e.symm
  have j1 : (0 : Int) ≤ ka := by omega
  have j2 : (ka : Int) < f.regs.length := by omega
  have HP := Lib.hid (locPost_regs H f hF hf ha hT ka hka u)
  clear hF hf ha hT hr hrow
  go_enter Try.func46, Try.ntmps46
  go_wp2
  go_region
  all_goals go_wp2
  all_goals (
    refine Great.bodyPost_end0 (by rfl) (by rfl) ?_
    first
    | exact (HP.out.alloc _).drew
    | exact (HP.out.alloc _).drewN _
    | exact HP.out.alloc _)

set_option maxRecDepth 8000 in
set_option maxHeartbeats 1000000 in
theorem rdoes_move (hF : FrG w T id g H fr) (hf : fr[i]? = some f) (hat : (f.at_ : Int) < 4000) (ha : H[i]? = some ⟨f.st, .slice (some ⟨gr, 0, none⟩) f.regs.length cap, f.at_⟩) (hT : T gr = some (id, .regs i)) (ka : Nat) (hka : ka < f.regs.length) (kb : Nat) (hkb : kb < f.regs.length) (c : Int) :
    Calls Try.prog 46 #[.pointer (some ⟨g, i * 3, none⟩), .agg #[.int .i64 2, .int .i64 ka, .int .i64 kb, .int .i64 c]] w (LocPost w T id g fr i (.slice (some ⟨gr, 0, none⟩) f.regs.length cap) (f.on.put ka (f.regs.getD kb 0))) := by
  obtain ⟨c0, c1, c2⟩ := hF.three ha
  have f2 := hF.free (List.getElem?_eq_some_iff.1 hf).1 2 (by decide)
  have q1 : g < w.heap.size := World.block_lt_of_cell? w _ c0
  have q4 : g ≠ w.heap.size := by omega
  have q6 : w.heap.size ≠ g := by omega
  have i0 : (0 : Int) ≤ f.at_ := by omega
  have hr := (hF.each i _ f ha hf).2.2
  have hgr : gr ≠ g := fun e => by rw [e, hF.tag] at hT; simp at hT
  have hrow : RowAt w gr (ints f.regs) := by
    obtain ⟨g', cap', e1, e2, e3⟩ := hr.at hka
    simp at e1
    obtain ⟨rfl, _⟩ := e1
    exact e3
  have r1 := hrow.cell (ints_get f.regs ka hka)
  have f1 := hrow.free (k := ka) (by rw [ints_len]; exact hka)
  have q2 : gr < w.heap.size := World.block_lt_of_cell? w _ r1
  have q3 : gr ≠ w.heap.size := by omega
  have q5 : w.heap.size ≠ gr := by omega
  have q7 : g ≠ gr := fun e => hgr e.symm
  have j1 : (0 : Int) ≤ ka := by omega
  have j2 : (ka : Int) < f.regs.length := by omega
  have rb := hrow.cell (ints_get f.regs kb hkb)
  have j1b : (0 : Int) ≤ kb := by omega
  have j2b : (kb : Int) < f.regs.length := by omega
  have HP := Lib.hid (locPost_regs H f hF hf ha hT ka hka (f.regs.getD kb 0))
  clear hF hf ha hT hr hrow
  generalize f.regs.getD kb 0 = vb at *
  go_enter Try.func46, Try.ntmps46
  go_wp2
  go_region
  all_goals go_wp2
  all_goals (
    refine Great.bodyPost_end0 (by rfl) (by rfl) ?_
    first
    | exact (HP.out.alloc _).drew
    | exact (HP.out.alloc _).drewN _
    | exact HP.out.alloc _)

set_option maxRecDepth 8000 in
set_option maxHeartbeats 1000000 in
theorem rdoes_jump (hF : FrG w T id g H fr) (hf : fr[i]? = some f) (hat : (f.at_ : Int) < 4000) (rv : Value) (ha : H[i]? = some ⟨f.st, rv, f.at_⟩) (ka : Nat) (b c : Int) :
    Calls Try.prog 46 #[.pointer (some ⟨g, i * 3, none⟩), .agg #[.int .i64 18, .int .i64 ka, .int .i64 b, .int .i64 c]] w (LocPost w T id g fr i rv (f.to ka)) := by
  obtain ⟨c0, c1, c2⟩ := hF.three ha
  have f2 := hF.free (List.getElem?_eq_some_iff.1 hf).1 2 (by decide)
  have q1 : g < w.heap.size := World.block_lt_of_cell? w _ c0
  have q4 : g ≠ w.heap.size := by omega
  have q6 : w.heap.size ≠ g := by omega
  have i0 : (0 : Int) ≤ f.at_ := by omega
  have HP := Lib.hid ((locPost_on w T id g H fr i f hF hf ha).to (List.getElem?_eq_some_iff.1 hf).1 ka)
  clear hF hf ha
  go_enter Try.func46, Try.ntmps46
  go_wp2
  all_goals (
    refine Great.bodyPost_end0 (by rfl) (by rfl) ?_
    first
    | exact (HP.out.alloc _).drew
    | exact (HP.out.alloc _).drewN _
    | exact HP.out.alloc _)

set_option maxRecDepth 8000 in
set_option maxHeartbeats 1000000 in
theorem rdoes_unless0 (hF : FrG w T id g H fr) (hf : fr[i]? = some f) (hat : (f.at_ : Int) < 4000) (ha : H[i]? = some ⟨f.st, .slice (some ⟨gr, 0, none⟩) f.regs.length cap, f.at_⟩) (hT : T gr = some (id, .regs i)) (ka : Nat) (hka : ka < f.regs.length) (kb : Nat) (c : Int) (hz : f.regs.getD ka 0 = 0) :
    Calls Try.prog 46 #[.pointer (some ⟨g, i * 3, none⟩), .agg #[.int .i64 19, .int .i64 ka, .int .i64 kb, .int .i64 c]] w (LocPost w T id g fr i (.slice (some ⟨gr, 0, none⟩) f.regs.length cap) (f.to kb)) := by
  obtain ⟨c0, c1, c2⟩ := hF.three ha
  have f2 := hF.free (List.getElem?_eq_some_iff.1 hf).1 2 (by decide)
  have q1 : g < w.heap.size := World.block_lt_of_cell? w _ c0
  have q4 : g ≠ w.heap.size := by omega
  have q6 : w.heap.size ≠ g := by omega
  have i0 : (0 : Int) ≤ f.at_ := by omega
  have hr := (hF.each i _ f ha hf).2.2
  have hgr : gr ≠ g := fun e => by rw [e, hF.tag] at hT; simp at hT
  have hrow : RowAt w gr (ints f.regs) := by
    obtain ⟨g', cap', e1, e2, e3⟩ := hr.at hka
    simp at e1
    obtain ⟨rfl, _⟩ := e1
    exact e3
  have r1 := hrow.cell (ints_get f.regs ka hka)
  have f1 := hrow.free (k := ka) (by rw [ints_len]; exact hka)
  have q2 : gr < w.heap.size := World.block_lt_of_cell? w _ r1
  have q3 : gr ≠ w.heap.size := by omega
  have q5 : w.heap.size ≠ gr := by omega
  have q7 : g ≠ gr := fun e => hgr e.symm
  have j1 : (0 : Int) ≤ ka := by omega
  have j2 : (ka : Int) < f.regs.length := by omega
  rw [hz] at r1
  have HI : Hid (i < fr.length) := (List.getElem?_eq_some_iff.1 hf).1
  have HP := Lib.hid (locPost_on w T id g H fr i f hF hf ha)
  clear hF hf ha hT hr hrow
  clear hz
  go_enter Try.func46, Try.ntmps46
  go_wp2
  go_quiet (fail)
  go_wp2
  all_goals (
    refine Great.bodyPost_end0 (by rfl) (by rfl) ?_
    first
    | exact (HP.out.alloc _).drew
    | exact (HP.out.alloc _).drewN _
    | exact ((HP.out.alloc _).drewN _).to HI.out kb
    | exact HP.out.alloc _)

set_option maxRecDepth 8000 in
set_option maxHeartbeats 1000000 in
theorem rdoes_unless1 (hF : FrG w T id g H fr) (hf : fr[i]? = some f) (hat : (f.at_ : Int) < 4000) (ha : H[i]? = some ⟨f.st, .slice (some ⟨gr, 0, none⟩) f.regs.length cap, f.at_⟩) (hT : T gr = some (id, .regs i)) (ka : Nat) (hka : ka < f.regs.length) (b c : Int) (hz : f.regs.getD ka 0 ≠ 0) :
    Calls Try.prog 46 #[.pointer (some ⟨g, i * 3, none⟩), .agg #[.int .i64 19, .int .i64 ka, .int .i64 b, .int .i64 c]] w (LocPost w T id g fr i (.slice (some ⟨gr, 0, none⟩) f.regs.length cap) f.on) := by
  obtain ⟨c0, c1, c2⟩ := hF.three ha
  have f2 := hF.free (List.getElem?_eq_some_iff.1 hf).1 2 (by decide)
  have q1 : g < w.heap.size := World.block_lt_of_cell? w _ c0
  have q4 : g ≠ w.heap.size := by omega
  have q6 : w.heap.size ≠ g := by omega
  have i0 : (0 : Int) ≤ f.at_ := by omega
  have hr := (hF.each i _ f ha hf).2.2
  have hgr : gr ≠ g := fun e => by rw [e, hF.tag] at hT; simp at hT
  have hrow : RowAt w gr (ints f.regs) := by
    obtain ⟨g', cap', e1, e2, e3⟩ := hr.at hka
    simp at e1
    obtain ⟨rfl, _⟩ := e1
    exact e3
  have r1 := hrow.cell (ints_get f.regs ka hka)
  have f1 := hrow.free (k := ka) (by rw [ints_len]; exact hka)
  have q2 : gr < w.heap.size := World.block_lt_of_cell? w _ r1
  have q3 : gr ≠ w.heap.size := by omega
  have q5 : w.heap.size ≠ gr := by omega
  have q7 : g ≠ gr := fun e => hgr e.symm
  have j1 : (0 : Int) ≤ ka := by omega
  have j2 : (ka : Int) < f.regs.length := by omega
  have e1 : (f.regs.getD ka 0 == 0) = false := by rw [beq_eq_false_iff_ne]; exact hz
  have HP := Lib.hid (locPost_on w T id g H fr i f hF hf ha)
  clear hF hf ha hT hr hrow
  generalize f.regs.getD ka 0 = va at *
  go_enter Try.func46, Try.ntmps46
  go_wp2
  go_quiet (fail)
  go_wp2
  all_goals (
    refine Great.bodyPost_end0 (by rfl) (by rfl) ?_
    first
    | exact (HP.out.alloc _).drew
    | exact (HP.out.alloc _).drewN _
    | exact HP.out.alloc _)

set_option maxRecDepth 8000 in
set_option maxHeartbeats 1000000 in
theorem rdoes_again1 (hF : FrG w T id g H fr) (hf : fr[i]? = some f) (hat : (f.at_ : Int) < 4000) (ha : H[i]? = some ⟨f.st, .slice (some ⟨gr, 0, none⟩) f.regs.length cap, f.at_⟩) (hT : T gr = some (id, .regs i)) (ka : Nat) (hka : ka < f.regs.length) (kb : Nat) (c : Int) (hz : 0 < w64 (f.regs.getD ka 0 - 1)) :
    Calls Try.prog 46 #[.pointer (some ⟨g, i * 3, none⟩), .agg #[.int .i64 20, .int .i64 ka, .int .i64 kb, .int .i64 c]] w (LocPost w T id g fr i (.slice (some ⟨gr, 0, none⟩) f.regs.length cap) ((f.put ka (w64 (f.regs.getD ka 0 - 1))).to kb)) := by
  obtain ⟨c0, c1, c2⟩ := hF.three ha
  have f2 := hF.free (List.getElem?_eq_some_iff.1 hf).1 2 (by decide)
  have q1 : g < w.heap.size := World.block_lt_of_cell? w _ c0
  have q4 : g ≠ w.heap.size := by omega
  have q6 : w.heap.size ≠ g := by omega
  have i0 : (0 : Int) ≤ f.at_ := by omega
  have hr := (hF.each i _ f ha hf).2.2
  have hgr : gr ≠ g := fun e => by rw [e, hF.tag] at hT; simp at hT
  have hrow : RowAt w gr (ints f.regs) := by
    obtain ⟨g', cap', e1, e2, e3⟩ := hr.at hka
    simp at e1
    obtain ⟨rfl, _⟩ := e1
    exact e3
  have r1 := hrow.cell (ints_get f.regs ka hka)
  have f1 := hrow.free (k := ka) (by rw [ints_len]; exact hka)
  have q2 : gr < w.heap.size := World.block_lt_of_cell? w _ r1
  have q3 : gr ≠ w.heap.size := by omega
  have q5 : w.heap.size ≠ gr := by omega
  have q7 : g ≠ gr := fun e => hgr e.symm
  have j1 : (0 : Int) ≤ ka := by omega
  have j2 : (ka : Int) < f.regs.length := by omega
  have HI : Hid (i < fr.length) := (List.getElem?_eq_some_iff.1 hf).1
  have HP := Lib.hid (locPost_regs H f hF hf ha hT ka hka (w64 (f.regs.getD ka 0 - 1)))
  clear hF hf ha hT hr hrow
  generalize f.regs.getD ka 0 = va at *
  go_enter Try.func46, Try.ntmps46
  go_wp2
  go_region
  all_goals go_wp2
  all_goals go_quiet (fail)
  all_goals go_wp2
  all_goals (
    refine Great.bodyPost_end0 (by rfl) (by rfl) ?_
    first
    | exact (HP.out.alloc _).drew
    | exact (HP.out.alloc _).drewN _
    | exact ((HP.out.alloc _).drewN _).to HI.out kb
    | exact HP.out.alloc _)

set_option maxRecDepth 8000 in
set_option maxHeartbeats 1000000 in
theorem rdoes_again0 (hF : FrG w T id g H fr) (hf : fr[i]? = some f) (hat : (f.at_ : Int) < 4000) (ha : H[i]? = some ⟨f.st, .slice (some ⟨gr, 0, none⟩) f.regs.length cap, f.at_⟩) (hT : T gr = some (id, .regs i)) (ka : Nat) (hka : ka < f.regs.length) (b c : Int) (hz : w64 (f.regs.getD ka 0 - 1) ≤ 0) :
    Calls Try.prog 46 #[.pointer (some ⟨g, i * 3, none⟩), .agg #[.int .i64 20, .int .i64 ka, .int .i64 b, .int .i64 c]] w (LocPost w T id g fr i (.slice (some ⟨gr, 0, none⟩) f.regs.length cap) (f.on.put ka (w64 (f.regs.getD ka 0 - 1)))) := by
  obtain ⟨c0, c1, c2⟩ := hF.three ha
  have f2 := hF.free (List.getElem?_eq_some_iff.1 hf).1 2 (by decide)
  have q1 : g < w.heap.size := World.block_lt_of_cell? w _ c0
  have q4 : g ≠ w.heap.size := by omega
  have q6 : w.heap.size ≠ g := by omega
  have i0 : (0 : Int) ≤ f.at_ := by omega
  have hr := (hF.each i _ f ha hf).2.2
  have hgr : gr ≠ g := fun e => by rw [e, hF.tag] at hT; simp at hT
  have hrow : RowAt w gr (ints f.regs) := by
    obtain ⟨g', cap', e1, e2, e3⟩ := hr.at hka
    simp at e1
    obtain ⟨rfl, _⟩ := e1
    exact e3
  have r1 := hrow.cell (ints_get f.regs ka hka)
  have f1 := hrow.free (k := ka) (by rw [ints_len]; exact hka)
  have q2 : gr < w.heap.size := World.block_lt_of_cell? w _ r1
  have q3 : gr ≠ w.heap.size := by omega
  have q5 : w.heap.size ≠ gr := by omega
  have q7 : g ≠ gr := fun e => hgr e.symm
  have j1 : (0 : Int) ≤ ka := by omega
  have j2 : (ka : Int) < f.regs.length := by omega
  have HP := Lib.hid (locPost_regs H f hF hf ha hT ka hka (w64 (f.regs.getD ka 0 - 1)))
  clear hF hf ha hT hr hrow
  generalize f.regs.getD ka 0 = va at *
  have e1 : decide (0 < RowKit.wrap64 (va - 1)) = false := decide_eq_false (Int.not_lt.2 hz)
  clear hz
  go_enter Try.func46, Try.ntmps46
  go_wp2
  go_region
  all_goals go_wp2
  all_goals go_quiet (fail)
  all_goals go_wp2
  all_goals (
    refine Great.bodyPost_end0 (by rfl) (by rfl) ?_
    first
    | exact (HP.out.alloc _).drew
    | exact (HP.out.alloc _).drew.drewN _
    | exact (HP.out.alloc _).drewN _ |>.drewN _
    | exact (HP.out.alloc _).drewN _
    | exact HP.out.alloc _)
end
end Go.Proofs.Ytmkfpkficmmlgaa
