/- Package vm: what a step does, operation by operation (written by genvd.py). -/
import Derived.Test.YtmkfpkficmmlgaaK09
namespace Go.Proofs.Ytmkfpkficmmlgaa
open Go.RowKit
set_option linter.unusedVariables false
set_option linter.unusedSimpArgs false
set_option linter.unnecessarySimpa false

/-- how a step's work ends -/
def DoesEnd (w : World) (T : Tags) (id b gf cf : Nat) (x : Img) (eb i : Nat) (k o : Int) (m' : Mach) (v bad : Int) (e : Ending) (w' : World) : Prop :=
  e = .returned (.tuple #[]) ∧ VmAt w' T id b gf cf x m' ∧ RowAt w' eb [.int .i64 i, .int .i64 k, .int .i64 o, .int .i64 v, .int .i64 bad] ∧ Keeps (fun k => Own T id k ∨ k = eb) w w'
theorem DP.fin {w : World} {T : Tags} {id b gf cf : Nat} {x : Img} {eb i : Nat} {k o : Int} {cv ov rv : Value} {m' : Mach} {v bad : Int} {w' : World} (h : DP w T id b gf cf x eb i k o cv ov rv m' v bad w') : DoesEnd w T id b gf cf x eb i k o m' v bad (.returned (.tuple #[])) w' := ⟨rfl, h.vm, h.ev, h.keeps⟩
set_option maxRecDepth 8000 in
set_option maxHeartbeats 2000000 in
theorem vds_read (w : World) (T : Tags) (id b gf cf : Nat) (x : Img) (m : Mach) (eb i : Nat) (k o : Int) (f : Fr) (h : VmAt w T id b gf cf x m) (hf : m.fr[i]? = some f) (hev : RowAt w eb [.int .i64 i, .int .i64 k, .int .i64 o, .int .i64 0, .int .i64 0]) (hT : T eb = none) (hm : MOk x m) (h8 : x.threads.length ≤ 8) (ka : Nat) (hka : ka < f.regs.length) (kb : Nat) (hkb : kb < m.cells.length) (c : Int)  :
    Calls Try.prog 38 #[.pointer (some ⟨b, 0, none⟩), .pointer (some ⟨eb, 0, none⟩), .agg #[.int .i64 21, .int .i64 ka, .int .i64 kb, .int .i64 c]] w (DoesEnd w T id b gf cf x eb i k o (m.setFr i (f.put ka (m.cells.getD kb 0))) (m.cells.getD kb 0) 0) := by
  have hok := hm.each i f hf
  have hi : i < m.fr.length := (List.getElem?_eq_some_iff.1 hf).1
  have h8' : m.fr.length ≤ 8 := by rw [hm.len]; exact h8
  obtain ⟨cv, ov, dv, hb, hcore, hcode⟩ := h.ex
  obtain ⟨H, hF⟩ := hcore.frames
  obtain ⟨rv, ha, hr⟩ := hF.get hf
  have k0 := hb.cell (k := 0) (v := cv) rfl
  have k1 := hb.cell (k := 1) (v := ov) rfl
  have k3 := hb.cell (k := 3) (v := .slice (some ⟨gf, 0, none⟩) m.fr.length cf) rfl
  obtain ⟨t0, t1, t2⟩ := hF.three ha
  have hD0 : DP w T id b gf cf x eb i k o cv ov rv m 0 0 w := ⟨h, hev, k0, k1, t1, hT, Keeps.refl _ _⟩
  have v0 := hev.cell (k := 0) (v := .int .i64 i) rfl
  have v3 := hev.cell (k := 3) (v := .int .i64 0) rfl
  have v4 := hev.cell (k := 4) (v := .int .i64 0) rfl
  have g3 := hev.free (k := 3) (by simp)
  have g4 := hev.free (k := 4) (by simp)
  have i1 : (0 : Int) ≤ i := by omega
  have i2 : (i : Int) < m.fr.length := by omega
  have tb := h.tag
  have tf := h.frTag
  have lb : b < w.heap.size := World.block_lt_of_cell? w _ k3
  have le : eb < w.heap.size := World.block_lt_of_cell? w _ v0
  have lf : gf < w.heap.size := World.block_lt_of_cell? w _ t0
  have n1 : b ≠ w.heap.size := by omega
  have n2 : eb ≠ w.heap.size := by omega
  have n3 : gf ≠ w.heap.size := by omega
  have m1 : w.heap.size ≠ b := by omega
  have m2 : w.heap.size ≠ eb := by omega
  have m3 : w.heap.size ≠ gf := by omega
  have n4 : b ≠ eb := fun e => by rw [e, hT] at tb; cases tb
  have n5 : gf ≠ eb := fun e => by rw [e, hT] at tf; cases tf
  have m4 : eb ≠ b := fun e => n4 e.symm
  have m5 : eb ≠ gf := fun e => n5 e.symm
  obtain ⟨gr, cr, er, tr, hrow⟩ := hr.at hka
  subst er
  have ra := hrow.cell (ints_get f.regs ka hka)
  have j1a : (0 : Int) ≤ ka := by omega
  have j2a : (ka : Int) < f.regs.length := by omega
  have lgr : gr < w.heap.size := World.block_lt_of_cell? w _ ra
  have p1gr : gr ≠ w.heap.size := by omega
  have p2gr : w.heap.size ≠ gr := by omega
  have p3gr : gr ≠ eb := fun e => by rw [e, hT] at tr; cases tr
  have p4gr : eb ≠ gr := fun e => p3gr e.symm
  have p5gr : gr ≠ b := fun e => by rw [e, tb] at tr; simp at tr
  have p6gr : b ≠ gr := fun e => p5gr e.symm
  have p7gr : gr ≠ gf := fun e => by rw [e, tf] at tr; simp at tr
  have p8gr : gf ≠ gr := fun e => p7gr e.symm
  have fra := hrow.free (k := ka) (by rw [ints_len]; exact hka)
  obtain ⟨gc, cc, ec, tc, hcrow⟩ := hcore.cells.at hkb
  subst ec
  have cb := hcrow.cell (ints_get m.cells kb hkb)
  have j1b : (0 : Int) ≤ kb := by omega
  have j2b : (kb : Int) < m.cells.length := by omega
  have lgc : gc < w.heap.size := World.block_lt_of_cell? w _ cb
  have p1gc : gc ≠ w.heap.size := by omega
  have p2gc : w.heap.size ≠ gc := by omega
  have p3gc : gc ≠ eb := fun e => by rw [e, hT] at tc; cases tc
  have p4gc : eb ≠ gc := fun e => p3gc e.symm
  have p5gc : gc ≠ b := fun e => by rw [e, tb] at tc; simp at tc
  have p6gc : b ≠ gc := fun e => p5gc e.symm
  have p7gc : gc ≠ gf := fun e => by rw [e, tf] at tc; simp at tc
  have p8gc : gf ≠ gc := fun e => p7gc e.symm
  have fcb := hcrow.free (k := kb) (by rw [ints_len]; exact hkb)
  have gg1 : gr ≠ gc := fun e => by rw [e, tc] at tr; simp at tr
  have gg2 : gc ≠ gr := fun e => gg1 e.symm
  have HP := Lib.hid (fun (ob : Obj) (n : Nat) => (((hD0.alloc ob).drewN n).val (m.cells.getD kb 0)).reg hf tr ka hka (m.cells.getD kb 0))
  generalize m.cells.getD kb 0 = vc at *
  clear h hf hev hm h8 hok hb hcore hcode hF ha hr hD0 tb tf hT hrow hcrow
  go_enter Try.func38, Try.ntmps38
  go_wp2
  go_quiet (fail)
  go_wp2
  go_region
  all_goals go_wp2
  all_goals go_region
  all_goals go_wp2
  all_goals (
    refine Great.bodyPost_end0 (by rfl) (by rfl) ?_
    first
    | exact (HP.out _ _).drew.fin
    | exact (HP.out _ _).fin
    | exact ((HP.out _ _).drewN _).fin
    | exact ((HP.out _ _).drew.drewN _).fin
    | exact ((HP.out _ _).drewN _).drew.fin)

set_option maxRecDepth 8000 in
set_option maxHeartbeats 2000000 in
theorem vds_write (w : World) (T : Tags) (id b gf cf : Nat) (x : Img) (m : Mach) (eb i : Nat) (k o : Int) (f : Fr) (h : VmAt w T id b gf cf x m) (hf : m.fr[i]? = some f) (hev : RowAt w eb [.int .i64 i, .int .i64 k, .int .i64 o, .int .i64 0, .int .i64 0]) (hT : T eb = none) (hm : MOk x m) (h8 : x.threads.length ≤ 8) (ka : Nat) (hka : ka < m.cells.length) (kb : Nat) (hkb : kb < f.regs.length) (c : Int)  :
    Calls Try.prog 38 #[.pointer (some ⟨b, 0, none⟩), .pointer (some ⟨eb, 0, none⟩), .agg #[.int .i64 22, .int .i64 ka, .int .i64 kb, .int .i64 c]] w (DoesEnd w T id b gf cf x eb i k o { m with cells := m.cells.set ka (f.regs.getD kb 0) } (f.regs.getD kb 0) 0) := by
  have hok := hm.each i f hf
  have hi : i < m.fr.length := (List.getElem?_eq_some_iff.1 hf).1
  have h8' : m.fr.length ≤ 8 := by rw [hm.len]; exact h8
  obtain ⟨cv, ov, dv, hb, hcore, hcode⟩ := h.ex
  obtain ⟨H, hF⟩ := hcore.frames
  obtain ⟨rv, ha, hr⟩ := hF.get hf
  have k0 := hb.cell (k := 0) (v := cv) rfl
  have k1 := hb.cell (k := 1) (v := ov) rfl
  have k3 := hb.cell (k := 3) (v := .slice (some ⟨gf, 0, none⟩) m.fr.length cf) rfl
  obtain ⟨t0, t1, t2⟩ := hF.three ha
  have hD0 : DP w T id b gf cf x eb i k o cv ov rv m 0 0 w := ⟨h, hev, k0, k1, t1, hT, Keeps.refl _ _⟩
  have v0 := hev.cell (k := 0) (v := .int .i64 i) rfl
  have v3 := hev.cell (k := 3) (v := .int .i64 0) rfl
  have v4 := hev.cell (k := 4) (v := .int .i64 0) rfl
  have g3 := hev.free (k := 3) (by simp)
  have g4 := hev.free (k := 4) (by simp)
  have i1 : (0 : Int) ≤ i := by omega
  have i2 : (i : Int) < m.fr.length := by omega
  have tb := h.tag
  have tf := h.frTag
  have lb : b < w.heap.size := World.block_lt_of_cell? w _ k3
  have le : eb < w.heap.size := World.block_lt_of_cell? w _ v0
  have lf : gf < w.heap.size := World.block_lt_of_cell? w _ t0
  have n1 : b ≠ w.heap.size := by omega
  have n2 : eb ≠ w.heap.size := by omega
  have n3 : gf ≠ w.heap.size := by omega
  have m1 : w.heap.size ≠ b := by omega
  have m2 : w.heap.size ≠ eb := by omega
  have m3 : w.heap.size ≠ gf := by omega
  have n4 : b ≠ eb := fun e => by rw [e, hT] at tb; cases tb
  have n5 : gf ≠ eb := fun e => by rw [e, hT] at tf; cases tf
  have m4 : eb ≠ b := fun e => n4 e.symm
  have m5 : eb ≠ gf := fun e => n5 e.symm
  obtain ⟨gr, cr, er, tr, hrow⟩ := hr.at hkb
  subst er
  have rb := hrow.cell (ints_get f.regs kb hkb)
  have j1b : (0 : Int) ≤ kb := by omega
  have j2b : (kb : Int) < f.regs.length := by omega
  have lgr : gr < w.heap.size := World.block_lt_of_cell? w _ rb
  have p1gr : gr ≠ w.heap.size := by omega
  have p2gr : w.heap.size ≠ gr := by omega
  have p3gr : gr ≠ eb := fun e => by rw [e, hT] at tr; cases tr
  have p4gr : eb ≠ gr := fun e => p3gr e.symm
  have p5gr : gr ≠ b := fun e => by rw [e, tb] at tr; simp at tr
  have p6gr : b ≠ gr := fun e => p5gr e.symm
  have p7gr : gr ≠ gf := fun e => by rw [e, tf] at tr; simp at tr
  have p8gr : gf ≠ gr := fun e => p7gr e.symm
  obtain ⟨gc, cc, ec, tc, hcrow⟩ := hcore.cells.at hka
  subst ec
  have ca := hcrow.cell (ints_get m.cells ka hka)
  have j1a : (0 : Int) ≤ ka := by omega
  have j2a : (ka : Int) < m.cells.length := by omega
  have lgc : gc < w.heap.size := World.block_lt_of_cell? w _ ca
  have p1gc : gc ≠ w.heap.size := by omega
  have p2gc : w.heap.size ≠ gc := by omega
  have p3gc : gc ≠ eb := fun e => by rw [e, hT] at tc; cases tc
  have p4gc : eb ≠ gc := fun e => p3gc e.symm
  have p5gc : gc ≠ b := fun e => by rw [e, tb] at tc; simp at tc
  have p6gc : b ≠ gc := fun e => p5gc e.symm
  have p7gc : gc ≠ gf := fun e => by rw [e, tf] at tc; simp at tc
  have p8gc : gf ≠ gc := fun e => p7gc e.symm
  have fca := hcrow.free (k := ka) (by rw [ints_len]; exact hka)
  have gg1 : gr ≠ gc := fun e => by rw [e, tc] at tr; simp at tr
  have gg2 : gc ≠ gr := fun e => gg1 e.symm
  have HP := Lib.hid (fun (ob : Obj) (n : Nat) => (((hD0.alloc ob).drewN n).val (f.regs.getD kb 0)).cell tc ka hka (f.regs.getD kb 0))
  generalize f.regs.getD kb 0 = vr at *
  clear h hf hev hm h8 hok hb hcore hcode hF ha hr hD0 tb tf hT hrow hcrow
  go_enter Try.func38, Try.ntmps38
  go_wp2
  go_quiet (fail)
  go_wp2
  go_region
  all_goals go_wp2
  all_goals go_region
  all_goals go_wp2
  all_goals (
    refine Great.bodyPost_end0 (by rfl) (by rfl) ?_
    first
    | exact (HP.out _ _).drew.fin
    | exact (HP.out _ _).fin
    | exact ((HP.out _ _).drewN _).fin
    | exact ((HP.out _ _).drew.drewN _).fin
    | exact ((HP.out _ _).drewN _).drew.fin)

set_option maxRecDepth 8000 in
set_option maxHeartbeats 2000000 in
theorem vds_fetch (w : World) (T : Tags) (id b gf cf : Nat) (x : Img) (m : Mach) (eb i : Nat) (k o : Int) (f : Fr) (h : VmAt w T id b gf cf x m) (hf : m.fr[i]? = some f) (hev : RowAt w eb [.int .i64 i, .int .i64 k, .int .i64 o, .int .i64 0, .int .i64 0]) (hT : T eb = none) (hm : MOk x m) (h8 : x.threads.length ≤ 8) (ka : Nat) (hka : ka < f.regs.length) (kb : Nat) (hkb : kb < m.cells.length) (kc : Nat) (hkc : kc < f.regs.length)  :
    Calls Try.prog 38 #[.pointer (some ⟨b, 0, none⟩), .pointer (some ⟨eb, 0, none⟩), .agg #[.int .i64 23, .int .i64 ka, .int .i64 kb, .int .i64 kc]] w (DoesEnd w T id b gf cf x eb i k o (({ m with cells := m.cells.set kb (w64 (m.cells.getD kb 0 + f.regs.getD kc 0)) } : Mach).setFr i (f.put ka (m.cells.getD kb 0))) (m.cells.getD kb 0) 0) := by
  have hok := hm.each i f hf
  have hi : i < m.fr.length := (List.getElem?_eq_some_iff.1 hf).1
  have h8' : m.fr.length ≤ 8 := by rw [hm.len]; exact h8
  obtain ⟨cv, ov, dv, hb, hcore, hcode⟩ := h.ex
  obtain ⟨H, hF⟩ := hcore.frames
  obtain ⟨rv, ha, hr⟩ := hF.get hf
  have k0 := hb.cell (k := 0) (v := cv) rfl
  have k1 := hb.cell (k := 1) (v := ov) rfl
  have k3 := hb.cell (k := 3) (v := .slice (some ⟨gf, 0, none⟩) m.fr.length cf) rfl
  obtain ⟨t0, t1, t2⟩ := hF.three ha
  have hD0 : DP w T id b gf cf x eb i k o cv ov rv m 0 0 w := ⟨h, hev, k0, k1, t1, hT, Keeps.refl _ _⟩
  have v0 := hev.cell (k := 0) (v := .int .i64 i) rfl
  have v3 := hev.cell (k := 3) (v := .int .i64 0) rfl
  have v4 := hev.cell (k := 4) (v := .int .i64 0) rfl
  have g3 := hev.free (k := 3) (by simp)
  have g4 := hev.free (k := 4) (by simp)
  have i1 : (0 : Int) ≤ i := by omega
  have i2 : (i : Int) < m.fr.length := by omega
  have tb := h.tag
  have tf := h.frTag
  have lb : b < w.heap.size := World.block_lt_of_cell? w _ k3
  have le : eb < w.heap.size := World.block_lt_of_cell? w _ v0
  have lf : gf < w.heap.size := World.block_lt_of_cell? w _ t0
  have n1 : b ≠ w.heap.size := by omega
  have n2 : eb ≠ w.heap.size := by omega
  have n3 : gf ≠ w.heap.size := by omega
  have m1 : w.heap.size ≠ b := by omega
  have m2 : w.heap.size ≠ eb := by omega
  have m3 : w.heap.size ≠ gf := by omega
  have n4 : b ≠ eb := fun e => by rw [e, hT] at tb; cases tb
  have n5 : gf ≠ eb := fun e => by rw [e, hT] at tf; cases tf
  have m4 : eb ≠ b := fun e => n4 e.symm
  have m5 : eb ≠ gf := fun e => n5 e.symm
  obtain ⟨gr, cr, er, tr, hrow⟩ := hr.at hka
  subst er
  have ra := hrow.cell (ints_get f.regs ka hka)
  have j1a : (0 : Int) ≤ ka := by omega
  have j2a : (ka : Int) < f.regs.length := by omega
  have rc := hrow.cell (ints_get f.regs kc hkc)
  have j1c : (0 : Int) ≤ kc := by omega
  have j2c : (kc : Int) < f.regs.length := by omega
  have lgr : gr < w.heap.size := World.block_lt_of_cell? w _ ra
  have p1gr : gr ≠ w.heap.size := by omega
  have p2gr : w.heap.size ≠ gr := by omega
  have p3gr : gr ≠ eb := fun e => by rw [e, hT] at tr; cases tr
  have p4gr : eb ≠ gr := fun e => p3gr e.symm
  have p5gr : gr ≠ b := fun e => by rw [e, tb] at tr; simp at tr
  have p6gr : b ≠ gr := fun e => p5gr e.symm
  have p7gr : gr ≠ gf := fun e => by rw [e, tf] at tr; simp at tr
  have p8gr : gf ≠ gr := fun e => p7gr e.symm
  have fra := hrow.free (k := ka) (by rw [ints_len]; exact hka)
  obtain ⟨gc, cc, ec, tc, hcrow⟩ := hcore.cells.at hkb
  subst ec
  have cb := hcrow.cell (ints_get m.cells kb hkb)
  have j1b : (0 : Int) ≤ kb := by omega
  have j2b : (kb : Int) < m.cells.length := by omega
  have lgc : gc < w.heap.size := World.block_lt_of_cell? w _ cb
  have p1gc : gc ≠ w.heap.size := by omega
  have p2gc : w.heap.size ≠ gc := by omega
  have p3gc : gc ≠ eb := fun e => by rw [e, hT] at tc; cases tc
  have p4gc : eb ≠ gc := fun e => p3gc e.symm
  have p5gc : gc ≠ b := fun e => by rw [e, tb] at tc; simp at tc
  have p6gc : b ≠ gc := fun e => p5gc e.symm
  have p7gc : gc ≠ gf := fun e => by rw [e, tf] at tc; simp at tc
  have p8gc : gf ≠ gc := fun e => p7gc e.symm
  have fcb := hcrow.free (k := kb) (by rw [ints_len]; exact hkb)
  have gg1 : gr ≠ gc := fun e => by rw [e, tc] at tr; simp at tr
  have gg2 : gc ≠ gr := fun e => gg1 e.symm
  have HP := Lib.hid (fun (ob : Obj) (n : Nat) => ((((hD0.alloc ob).drewN n).val (m.cells.getD kb 0)).cell tc kb hkb (w64 (m.cells.getD kb 0 + f.regs.getD kc 0))).reg hf tr ka hka (m.cells.getD kb 0))
  generalize m.cells.getD kb 0 = vc at *
  generalize f.regs.getD kc 0 = vr at *
  clear h hf hev hm h8 hok hb hcore hcode hF ha hr hD0 tb tf hT hrow hcrow
  go_enter Try.func38, Try.ntmps38
  go_wp2
  go_quiet (fail)
  go_wp2
  go_region
  all_goals go_wp2
  all_goals go_region
  all_goals go_wp2
  all_goals go_region
  all_goals go_wp2
  all_goals (
    refine Great.bodyPost_end0 (by rfl) (by rfl) ?_
    first
    | exact (HP.out _ _).drew.fin
    | exact (HP.out _ _).fin
    | exact ((HP.out _ _).drewN _).fin
    | exact ((HP.out _ _).drew.drewN _).fin
    | exact ((HP.out _ _).drewN _).drew.fin)

set_option maxRecDepth 8000 in
set_option maxHeartbeats 2000000 in
theorem vds_lock (w : World) (T : Tags) (id b gf cf : Nat) (x : Img) (m : Mach) (eb i : Nat) (k o : Int) (f : Fr) (h : VmAt w T id b gf cf x m) (hf : m.fr[i]? = some f) (hev : RowAt w eb [.int .i64 i, .int .i64 k, .int .i64 o, .int .i64 0, .int .i64 0]) (hT : T eb = none) (hm : MOk x m) (h8 : x.threads.length ≤ 8) (ka : Nat) (hka : ka < m.owners.length) (b1 c : Int)  :
    Calls Try.prog 38 #[.pointer (some ⟨b, 0, none⟩), .pointer (some ⟨eb, 0, none⟩), .agg #[.int .i64 24, .int .i64 ka, .int .i64 b1, .int .i64 c]] w (DoesEnd w T id b gf cf x eb i k o { m with owners := m.owners.set ka i } 0 0) := by
  have hok := hm.each i f hf
  have hi : i < m.fr.length := (List.getElem?_eq_some_iff.1 hf).1
  have h8' : m.fr.length ≤ 8 := by rw [hm.len]; exact h8
  obtain ⟨cv, ov, dv, hb, hcore, hcode⟩ := h.ex
  obtain ⟨H, hF⟩ := hcore.frames
  obtain ⟨rv, ha, hr⟩ := hF.get hf
  have k0 := hb.cell (k := 0) (v := cv) rfl
  have k1 := hb.cell (k := 1) (v := ov) rfl
  have k3 := hb.cell (k := 3) (v := .slice (some ⟨gf, 0, none⟩) m.fr.length cf) rfl
  obtain ⟨t0, t1, t2⟩ := hF.three ha
  have hD0 : DP w T id b gf cf x eb i k o cv ov rv m 0 0 w := ⟨h, hev, k0, k1, t1, hT, Keeps.refl _ _⟩
  have v0 := hev.cell (k := 0) (v := .int .i64 i) rfl
  have v3 := hev.cell (k := 3) (v := .int .i64 0) rfl
  have v4 := hev.cell (k := 4) (v := .int .i64 0) rfl
  have g3 := hev.free (k := 3) (by simp)
  have g4 := hev.free (k := 4) (by simp)
  have i1 : (0 : Int) ≤ i := by omega
  have i2 : (i : Int) < m.fr.length := by omega
  have tb := h.tag
  have tf := h.frTag
  have lb : b < w.heap.size := World.block_lt_of_cell? w _ k3
  have le : eb < w.heap.size := World.block_lt_of_cell? w _ v0
  have lf : gf < w.heap.size := World.block_lt_of_cell? w _ t0
  have n1 : b ≠ w.heap.size := by omega
  have n2 : eb ≠ w.heap.size := by omega
  have n3 : gf ≠ w.heap.size := by omega
  have m1 : w.heap.size ≠ b := by omega
  have m2 : w.heap.size ≠ eb := by omega
  have m3 : w.heap.size ≠ gf := by omega
  have n4 : b ≠ eb := fun e => by rw [e, hT] at tb; cases tb
  have n5 : gf ≠ eb := fun e => by rw [e, hT] at tf; cases tf
  have m4 : eb ≠ b := fun e => n4 e.symm
  have m5 : eb ≠ gf := fun e => n5 e.symm
  obtain ⟨gw, cw, ew, tw, hwrow⟩ := hcore.owners.at hka
  subst ew
  have wa := hwrow.cell (ints_get m.owners ka hka)
  have j1a : (0 : Int) ≤ ka := by omega
  have j2a : (ka : Int) < m.owners.length := by omega
  have lgw : gw < w.heap.size := World.block_lt_of_cell? w _ wa
  have p1gw : gw ≠ w.heap.size := by omega
  have p2gw : w.heap.size ≠ gw := by omega
  have p3gw : gw ≠ eb := fun e => by rw [e, hT] at tw; cases tw
  have p4gw : eb ≠ gw := fun e => p3gw e.symm
  have p5gw : gw ≠ b := fun e => by rw [e, tb] at tw; simp at tw
  have p6gw : b ≠ gw := fun e => p5gw e.symm
  have p7gw : gw ≠ gf := fun e => by rw [e, tf] at tw; simp at tw
  have p8gw : gf ≠ gw := fun e => p7gw e.symm
  have fwa := hwrow.free (k := ka) (by rw [ints_len]; exact hka)
  have HP := Lib.hid (fun (ob : Obj) (n : Nat) => ((hD0.alloc ob).drewN n).owner tw ka hka i)
  clear h hf hev hm h8 hok hb hcore hcode hF ha hr hD0 tb tf hT hwrow
  go_enter Try.func38, Try.ntmps38
  go_wp2
  go_quiet (fail)
  go_wp2
  go_region
  all_goals go_wp2
  all_goals (
    refine Great.bodyPost_end0 (by rfl) (by rfl) ?_
    first
    | exact (HP.out _ _).drew.fin
    | exact (HP.out _ _).fin
    | exact ((HP.out _ _).drewN _).fin
    | exact ((HP.out _ _).drew.drewN _).fin
    | exact ((HP.out _ _).drewN _).drew.fin)

set_option maxRecDepth 8000 in
set_option maxHeartbeats 2000000 in
theorem vds_unlock (w : World) (T : Tags) (id b gf cf : Nat) (x : Img) (m : Mach) (eb i : Nat) (k o : Int) (f : Fr) (h : VmAt w T id b gf cf x m) (hf : m.fr[i]? = some f) (hev : RowAt w eb [.int .i64 i, .int .i64 k, .int .i64 o, .int .i64 0, .int .i64 0]) (hT : T eb = none) (hm : MOk x m) (h8 : x.threads.length ≤ 8) (ka : Nat) (hka : ka < m.owners.length) (b1 c : Int) (hw : m.owners.getD ka 0 = i) :
    Calls Try.prog 38 #[.pointer (some ⟨b, 0, none⟩), .pointer (some ⟨eb, 0, none⟩), .agg #[.int .i64 25, .int .i64 ka, .int .i64 b1, .int .i64 c]] w (DoesEnd w T id b gf cf x eb i k o { m with owners := m.owners.set ka (-1) } 0 0) := by
  have hok := hm.each i f hf
  have hi : i < m.fr.length := (List.getElem?_eq_some_iff.1 hf).1
  have h8' : m.fr.length ≤ 8 := by rw [hm.len]; exact h8
  obtain ⟨cv, ov, dv, hb, hcore, hcode⟩ := h.ex
  obtain ⟨H, hF⟩ := hcore.frames
  obtain ⟨rv, ha, hr⟩ := hF.get hf
  have k0 := hb.cell (k := 0) (v := cv) rfl
  have k1 := hb.cell (k := 1) (v := ov) rfl
  have k3 := hb.cell (k := 3) (v := .slice (some ⟨gf, 0, none⟩) m.fr.length cf) rfl
  obtain ⟨t0, t1, t2⟩ := hF.three ha
  have hD0 : DP w T id b gf cf x eb i k o cv ov rv m 0 0 w := ⟨h, hev, k0, k1, t1, hT, Keeps.refl _ _⟩
  have v0 := hev.cell (k := 0) (v := .int .i64 i) rfl
  have v3 := hev.cell (k := 3) (v := .int .i64 0) rfl
  have v4 := hev.cell (k := 4) (v := .int .i64 0) rfl
  have g3 := hev.free (k := 3) (by simp)
  have g4 := hev.free (k := 4) (by simp)
  have i1 : (0 : Int) ≤ i := by omega
  have i2 : (i : Int) < m.fr.length := by omega
  have tb := h.tag
  have tf := h.frTag
  have lb : b < w.heap.size := World.block_lt_of_cell? w _ k3
  have le : eb < w.heap.size := World.block_lt_of_cell? w _ v0
  have lf : gf < w.heap.size := World.block_lt_of_cell? w _ t0
  have n1 : b ≠ w.heap.size := by omega
  have n2 : eb ≠ w.heap.size := by omega
  have n3 : gf ≠ w.heap.size := by omega
  have m1 : w.heap.size ≠ b := by omega
  have m2 : w.heap.size ≠ eb := by omega
  have m3 : w.heap.size ≠ gf := by omega
  have n4 : b ≠ eb := fun e => by rw [e, hT] at tb; cases tb
  have n5 : gf ≠ eb := fun e => by rw [e, hT] at tf; cases tf
  have m4 : eb ≠ b := fun e => n4 e.symm
  have m5 : eb ≠ gf := fun e => n5 e.symm
  obtain ⟨gw, cw, ew, tw, hwrow⟩ := hcore.owners.at hka
  subst ew
  have wa := hwrow.cell (ints_get m.owners ka hka)
  have j1a : (0 : Int) ≤ ka := by omega
  have j2a : (ka : Int) < m.owners.length := by omega
  have lgw : gw < w.heap.size := World.block_lt_of_cell? w _ wa
  have p1gw : gw ≠ w.heap.size := by omega
  have p2gw : w.heap.size ≠ gw := by omega
  have p3gw : gw ≠ eb := fun e => by rw [e, hT] at tw; cases tw
  have p4gw : eb ≠ gw := fun e => p3gw e.symm
  have p5gw : gw ≠ b := fun e => by rw [e, tb] at tw; simp at tw
  have p6gw : b ≠ gw := fun e => p5gw e.symm
  have p7gw : gw ≠ gf := fun e => by rw [e, tf] at tw; simp at tw
  have p8gw : gf ≠ gw := fun e => p7gw e.symm
  have fwa := hwrow.free (k := ka) (by rw [ints_len]; exact hka)
  rw [hw] at wa
  have HP := Lib.hid (fun (ob : Obj) (n : Nat) => ((hD0.alloc ob).drewN n).owner tw ka hka (-1))
  clear h hf hev hm h8 hok hb hcore hcode hF ha hr hD0 tb tf hT hwrow hw
  go_enter Try.func38, Try.ntmps38
  go_wp2
  go_quiet (fail)
  go_wp2
  go_quiet (fail)
  go_wp2
  go_region
  all_goals go_wp2
  all_goals (
    refine Great.bodyPost_end0 (by rfl) (by rfl) ?_
    first
    | exact (HP.out _ _).drew.fin
    | exact (HP.out _ _).fin
    | exact ((HP.out _ _).drewN _).fin
    | exact ((HP.out _ _).drew.drewN _).fin
    | exact ((HP.out _ _).drewN _).drew.fin)

set_option maxRecDepth 8000 in
set_option maxHeartbeats 2000000 in
theorem vds_unlock1 (w : World) (T : Tags) (id b gf cf : Nat) (x : Img) (m : Mach) (eb i : Nat) (k o : Int) (f : Fr) (h : VmAt w T id b gf cf x m) (hf : m.fr[i]? = some f) (hev : RowAt w eb [.int .i64 i, .int .i64 k, .int .i64 o, .int .i64 0, .int .i64 0]) (hT : T eb = none) (hm : MOk x m) (h8 : x.threads.length ≤ 8) (ka : Nat) (hka : ka < m.owners.length) (b1 c : Int) (hw : m.owners.getD ka 0 ≠ i) :
    Calls Try.prog 38 #[.pointer (some ⟨b, 0, none⟩), .pointer (some ⟨eb, 0, none⟩), .agg #[.int .i64 25, .int .i64 ka, .int .i64 b1, .int .i64 c]] w (DoesEnd w T id b gf cf x eb i k o m 0 2) := by
  have hok := hm.each i f hf
  have hi : i < m.fr.length := (List.getElem?_eq_some_iff.1 hf).1
  have h8' : m.fr.length ≤ 8 := by rw [hm.len]; exact h8
  obtain ⟨cv, ov, dv, hb, hcore, hcode⟩ := h.ex
  obtain ⟨H, hF⟩ := hcore.frames
  obtain ⟨rv, ha, hr⟩ := hF.get hf
  have k0 := hb.cell (k := 0) (v := cv) rfl
  have k1 := hb.cell (k := 1) (v := ov) rfl
  have k3 := hb.cell (k := 3) (v := .slice (some ⟨gf, 0, none⟩) m.fr.length cf) rfl
  obtain ⟨t0, t1, t2⟩ := hF.three ha
  have hD0 : DP w T id b gf cf x eb i k o cv ov rv m 0 0 w := ⟨h, hev, k0, k1, t1, hT, Keeps.refl _ _⟩
  have v0 := hev.cell (k := 0) (v := .int .i64 i) rfl
  have v3 := hev.cell (k := 3) (v := .int .i64 0) rfl
  have v4 := hev.cell (k := 4) (v := .int .i64 0) rfl
  have g3 := hev.free (k := 3) (by simp)
  have g4 := hev.free (k := 4) (by simp)
  have i1 : (0 : Int) ≤ i := by omega
  have i2 : (i : Int) < m.fr.length := by omega
  have tb := h.tag
  have tf := h.frTag
  have lb : b < w.heap.size := World.block_lt_of_cell? w _ k3
  have le : eb < w.heap.size := World.block_lt_of_cell? w _ v0
  have lf : gf < w.heap.size := World.block_lt_of_cell? w _ t0
  have n1 : b ≠ w.heap.size := by omega
  have n2 : eb ≠ w.heap.size := by omega
  have n3 : gf ≠ w.heap.size := by omega
  have m1 : w.heap.size ≠ b := by omega
  have m2 : w.heap.size ≠ eb := by omega
  have m3 : w.heap.size ≠ gf := by omega
  have n4 : b ≠ eb := fun e => by rw [e, hT] at tb; cases tb
  have n5 : gf ≠ eb := fun e => by rw [e, hT] at tf; cases tf
  have m4 : eb ≠ b := fun e => n4 e.symm
  have m5 : eb ≠ gf := fun e => n5 e.symm
  obtain ⟨gw, cw, ew, tw, hwrow⟩ := hcore.owners.at hka
  subst ew
  have wa := hwrow.cell (ints_get m.owners ka hka)
  have j1a : (0 : Int) ≤ ka := by omega
  have j2a : (ka : Int) < m.owners.length := by omega
  have lgw : gw < w.heap.size := World.block_lt_of_cell? w _ wa
  have p1gw : gw ≠ w.heap.size := by omega
  have p2gw : w.heap.size ≠ gw := by omega
  have p3gw : gw ≠ eb := fun e => by rw [e, hT] at tw; cases tw
  have p4gw : eb ≠ gw := fun e => p3gw e.symm
  have p5gw : gw ≠ b := fun e => by rw [e, tb] at tw; simp at tw
  have p6gw : b ≠ gw := fun e => p5gw e.symm
  have p7gw : gw ≠ gf := fun e => by rw [e, tf] at tw; simp at tw
  have p8gw : gf ≠ gw := fun e => p7gw e.symm
  have fwa := hwrow.free (k := ka) (by rw [ints_len]; exact hka)
  have e1 : (m.owners.getD ka 0 == (i : Int)) = false := by rw [beq_eq_false_iff_ne]; exact hw
  have HP := Lib.hid (fun (ob : Obj) (n : Nat) => ((hD0.alloc ob).drewN n).badly 2)
  generalize m.owners.getD ka 0 = ow at *
  clear h hf hev hm h8 hok hb hcore hcode hF ha hr hD0 tb tf hT hwrow hw
  go_enter Try.func38, Try.ntmps38
  go_wp2
  go_quiet (fail)
  go_wp2
  go_quiet (fail)
  go_wp2
  all_goals (
    refine Great.bodyPost_end0 (by rfl) (by rfl) ?_
    first
    | exact (HP.out _ _).drew.fin
    | exact (HP.out _ _).fin
    | exact ((HP.out _ _).drewN _).fin
    | exact ((HP.out _ _).drew.drewN _).fin
    | exact ((HP.out _ _).drewN _).drew.fin)

set_option maxRecDepth 8000 in
set_option maxHeartbeats 2000000 in
theorem vds_start1 (w : World) (T : Tags) (id b gf cf : Nat) (x : Img) (m : Mach) (eb i : Nat) (k o : Int) (f : Fr) (h : VmAt w T id b gf cf x m) (hf : m.fr[i]? = some f) (hev : RowAt w eb [.int .i64 i, .int .i64 k, .int .i64 o, .int .i64 0, .int .i64 0]) (hT : T eb = none) (hm : MOk x m) (h8 : x.threads.length ≤ 8) (ka : Nat) (hka : ka < m.fr.length) (f2 : Fr) (hf2 : m.fr[ka]? = some f2) (b1 c : Int) (hs : f2.st ≠ 1) :
    Calls Try.prog 38 #[.pointer (some ⟨b, 0, none⟩), .pointer (some ⟨eb, 0, none⟩), .agg #[.int .i64 26, .int .i64 ka, .int .i64 b1, .int .i64 c]] w (DoesEnd w T id b gf cf x eb i k o m 0 4) := by
  have hok := hm.each i f hf
  have hi : i < m.fr.length := (List.getElem?_eq_some_iff.1 hf).1
  have h8' : m.fr.length ≤ 8 := by rw [hm.len]; exact h8
  obtain ⟨cv, ov, dv, hb, hcore, hcode⟩ := h.ex
  obtain ⟨H, hF⟩ := hcore.frames
  obtain ⟨rv, ha, hr⟩ := hF.get hf
  have k0 := hb.cell (k := 0) (v := cv) rfl
  have k1 := hb.cell (k := 1) (v := ov) rfl
  have k3 := hb.cell (k := 3) (v := .slice (some ⟨gf, 0, none⟩) m.fr.length cf) rfl
  obtain ⟨t0, t1, t2⟩ := hF.three ha
  have hD0 : DP w T id b gf cf x eb i k o cv ov rv m 0 0 w := ⟨h, hev, k0, k1, t1, hT, Keeps.refl _ _⟩
  have v0 := hev.cell (k := 0) (v := .int .i64 i) rfl
  have v3 := hev.cell (k := 3) (v := .int .i64 0) rfl
  have v4 := hev.cell (k := 4) (v := .int .i64 0) rfl
  have g3 := hev.free (k := 3) (by simp)
  have g4 := hev.free (k := 4) (by simp)
  have i1 : (0 : Int) ≤ i := by omega
  have i2 : (i : Int) < m.fr.length := by omega
  have tb := h.tag
  have tf := h.frTag
  have lb : b < w.heap.size := World.block_lt_of_cell? w _ k3
  have le : eb < w.heap.size := World.block_lt_of_cell? w _ v0
  have lf : gf < w.heap.size := World.block_lt_of_cell? w _ t0
  have n1 : b ≠ w.heap.size := by omega
  have n2 : eb ≠ w.heap.size := by omega
  have n3 : gf ≠ w.heap.size := by omega
  have m1 : w.heap.size ≠ b := by omega
  have m2 : w.heap.size ≠ eb := by omega
  have m3 : w.heap.size ≠ gf := by omega
  have n4 : b ≠ eb := fun e => by rw [e, hT] at tb; cases tb
  have n5 : gf ≠ eb := fun e => by rw [e, hT] at tf; cases tf
  have m4 : eb ≠ b := fun e => n4 e.symm
  have m5 : eb ≠ gf := fun e => n5 e.symm
  obtain ⟨rv2, ha2, _⟩ := hF.get hf2
  have s0 := (hF.three ha2).1
  have ja1 : (0 : Int) ≤ ka := by omega
  have ja2 : (ka : Int) < m.fr.length := by omega
  have e1 : (f2.st == 1) = false := by rw [beq_eq_false_iff_ne]; exact hs
  have HP := Lib.hid (fun (ob : Obj) (n : Nat) => ((hD0.alloc ob).drewN n).badly 4)
  clear h hf hev hm h8 hok hb hcore hcode hF ha hr hD0 tb tf hT hf2 ha2 hs
  go_enter Try.func38, Try.ntmps38
  go_wp2
  go_quiet (fail)
  go_wp2
  go_quiet (fail)
  go_wp2
  all_goals (
    refine Great.bodyPost_end0 (by rfl) (by rfl) ?_
    first
    | exact (HP.out _ _).drew.fin
    | exact (HP.out _ _).fin
    | exact ((HP.out _ _).drewN _).fin
    | exact ((HP.out _ _).drew.drewN _).fin
    | exact ((HP.out _ _).drewN _).drew.fin)

set_option maxRecDepth 8000 in
set_option maxHeartbeats 2000000 in
theorem vds_join1 (w : World) (T : Tags) (id b gf cf : Nat) (x : Img) (m : Mach) (eb i : Nat) (k o : Int) (f : Fr) (h : VmAt w T id b gf cf x m) (hf : m.fr[i]? = some f) (hev : RowAt w eb [.int .i64 i, .int .i64 k, .int .i64 o, .int .i64 0, .int .i64 0]) (hT : T eb = none) (hm : MOk x m) (h8 : x.threads.length ≤ 8) (ka : Nat) (hka : ka < m.fr.length) (f2 : Fr) (hf2 : m.fr[ka]? = some f2) (b1 c : Int) (hs : f2.st = 1) :
    Calls Try.prog 38 #[.pointer (some ⟨b, 0, none⟩), .pointer (some ⟨eb, 0, none⟩), .agg #[.int .i64 27, .int .i64 ka, .int .i64 b1, .int .i64 c]] w (DoesEnd w T id b gf cf x eb i k o m 0 3) := by
  have hok := hm.each i f hf
  have hi : i < m.fr.length := (List.getElem?_eq_some_iff.1 hf).1
  have h8' : m.fr.length ≤ 8 := by rw [hm.len]; exact h8
  obtain ⟨cv, ov, dv, hb, hcore, hcode⟩ := h.ex
  obtain ⟨H, hF⟩ := hcore.frames
  obtain ⟨rv, ha, hr⟩ := hF.get hf
  have k0 := hb.cell (k := 0) (v := cv) rfl
  have k1 := hb.cell (k := 1) (v := ov) rfl
  have k3 := hb.cell (k := 3) (v := .slice (some ⟨gf, 0, none⟩) m.fr.length cf) rfl
  obtain ⟨t0, t1, t2⟩ := hF.three ha
  have hD0 : DP w T id b gf cf x eb i k o cv ov rv m 0 0 w := ⟨h, hev, k0, k1, t1, hT, Keeps.refl _ _⟩
  have v0 := hev.cell (k := 0) (v := .int .i64 i) rfl
  have v3 := hev.cell (k := 3) (v := .int .i64 0) rfl
  have v4 := hev.cell (k := 4) (v := .int .i64 0) rfl
  have g3 := hev.free (k := 3) (by simp)
  have g4 := hev.free (k := 4) (by simp)
  have i1 : (0 : Int) ≤ i := by omega
  have i2 : (i : Int) < m.fr.length := by omega
  have tb := h.tag
  have tf := h.frTag
  have lb : b < w.heap.size := World.block_lt_of_cell? w _ k3
  have le : eb < w.heap.size := World.block_lt_of_cell? w _ v0
  have lf : gf < w.heap.size := World.block_lt_of_cell? w _ t0
  have n1 : b ≠ w.heap.size := by omega
  have n2 : eb ≠ w.heap.size := by omega
  have n3 : gf ≠ w.heap.size := by omega
  have m1 : w.heap.size ≠ b := by omega
  have m2 : w.heap.size ≠ eb := by omega
  have m3 : w.heap.size ≠ gf := by omega
  have n4 : b ≠ eb := fun e => by rw [e, hT] at tb; cases tb
  have n5 : gf ≠ eb := fun e => by rw [e, hT] at tf; cases tf
  have m4 : eb ≠ b := fun e => n4 e.symm
  have m5 : eb ≠ gf := fun e => n5 e.symm
  obtain ⟨rv2, ha2, _⟩ := hF.get hf2
  have s0 := (hF.three ha2).1
  have ja1 : (0 : Int) ≤ ka := by omega
  have ja2 : (ka : Int) < m.fr.length := by omega
  rw [hs] at s0
  have HP := Lib.hid (fun (ob : Obj) (n : Nat) => ((hD0.alloc ob).drewN n).badly 3)
  clear h hf hev hm h8 hok hb hcore hcode hF ha hr hD0 tb tf hT hf2 ha2 hs
  go_enter Try.func38, Try.ntmps38
  go_wp2
  go_quiet (fail)
  go_wp2
  go_quiet (fail)
  go_wp2
  all_goals (
    refine Great.bodyPost_end0 (by rfl) (by rfl) ?_
    first
    | exact (HP.out _ _).drew.fin
    | exact (HP.out _ _).fin
    | exact ((HP.out _ _).drewN _).fin
    | exact ((HP.out _ _).drew.drewN _).fin
    | exact ((HP.out _ _).drewN _).drew.fin)

set_option maxRecDepth 8000 in
set_option maxHeartbeats 2000000 in
theorem vds_join (w : World) (T : Tags) (id b gf cf : Nat) (x : Img) (m : Mach) (eb i : Nat) (k o : Int) (f : Fr) (h : VmAt w T id b gf cf x m) (hf : m.fr[i]? = some f) (hev : RowAt w eb [.int .i64 i, .int .i64 k, .int .i64 o, .int .i64 0, .int .i64 0]) (hT : T eb = none) (hm : MOk x m) (h8 : x.threads.length ≤ 8) (ka : Nat) (hka : ka < m.fr.length) (f2 : Fr) (hf2 : m.fr[ka]? = some f2) (b1 c : Int) (hs : f2.st ≠ 1) :
    Calls Try.prog 38 #[.pointer (some ⟨b, 0, none⟩), .pointer (some ⟨eb, 0, none⟩), .agg #[.int .i64 27, .int .i64 ka, .int .i64 b1, .int .i64 c]] w (DoesEnd w T id b gf cf x eb i k o m 0 0) := by
  have hok := hm.each i f hf
  have hi : i < m.fr.length := (List.getElem?_eq_some_iff.1 hf).1
  have h8' : m.fr.length ≤ 8 := by rw [hm.len]; exact h8
  obtain ⟨cv, ov, dv, hb, hcore, hcode⟩ := h.ex
  obtain ⟨H, hF⟩ := hcore.frames
  obtain ⟨rv, ha, hr⟩ := hF.get hf
  have k0 := hb.cell (k := 0) (v := cv) rfl
  have k1 := hb.cell (k := 1) (v := ov) rfl
  have k3 := hb.cell (k := 3) (v := .slice (some ⟨gf, 0, none⟩) m.fr.length cf) rfl
  obtain ⟨t0, t1, t2⟩ := hF.three ha
  have hD0 : DP w T id b gf cf x eb i k o cv ov rv m 0 0 w := ⟨h, hev, k0, k1, t1, hT, Keeps.refl _ _⟩
  have v0 := hev.cell (k := 0) (v := .int .i64 i) rfl
  have v3 := hev.cell (k := 3) (v := .int .i64 0) rfl
  have v4 := hev.cell (k := 4) (v := .int .i64 0) rfl
  have g3 := hev.free (k := 3) (by simp)
  have g4 := hev.free (k := 4) (by simp)
  have i1 : (0 : Int) ≤ i := by omega
  have i2 : (i : Int) < m.fr.length := by omega
  have tb := h.tag
  have tf := h.frTag
  have lb : b < w.heap.size := World.block_lt_of_cell? w _ k3
  have le : eb < w.heap.size := World.block_lt_of_cell? w _ v0
  have lf : gf < w.heap.size := World.block_lt_of_cell? w _ t0
  have n1 : b ≠ w.heap.size := by omega
  have n2 : eb ≠ w.heap.size := by omega
  have n3 : gf ≠ w.heap.size := by omega
  have m1 : w.heap.size ≠ b := by omega
  have m2 : w.heap.size ≠ eb := by omega
  have m3 : w.heap.size ≠ gf := by omega
  have n4 : b ≠ eb := fun e => by rw [e, hT] at tb; cases tb
  have n5 : gf ≠ eb := fun e => by rw [e, hT] at tf; cases tf
  have m4 : eb ≠ b := fun e => n4 e.symm
  have m5 : eb ≠ gf := fun e => n5 e.symm
  obtain ⟨rv2, ha2, _⟩ := hF.get hf2
  have s0 := (hF.three ha2).1
  have ja1 : (0 : Int) ≤ ka := by omega
  have ja2 : (ka : Int) < m.fr.length := by omega
  have e1 : (f2.st == 1) = false := by rw [beq_eq_false_iff_ne]; exact hs
  have HP := Lib.hid (fun (ob : Obj) (n : Nat) => ((hD0.alloc ob).drewN n))
  clear h hf hev hm h8 hok hb hcore hcode hF ha hr hD0 tb tf hT hf2 ha2 hs
  go_enter Try.func38, Try.ntmps38
  go_wp2
  go_quiet (fail)
  go_wp2
  go_quiet (fail)
  go_wp2
  all_goals (
    refine Great.bodyPost_end0 (by rfl) (by rfl) ?_
    first
    | exact (HP.out _ _).drew.fin
    | exact (HP.out _ _).fin
    | exact ((HP.out _ _).drewN _).fin
    | exact ((HP.out _ _).drew.drewN _).fin
    | exact ((HP.out _ _).drewN _).drew.fin)

set_option maxRecDepth 8000 in
set_option maxHeartbeats 2000000 in
theorem vds_assert1 (w : World) (T : Tags) (id b gf cf : Nat) (x : Img) (m : Mach) (eb i : Nat) (k o : Int) (f : Fr) (h : VmAt w T id b gf cf x m) (hf : m.fr[i]? = some f) (hev : RowAt w eb [.int .i64 i, .int .i64 k, .int .i64 o, .int .i64 0, .int .i64 0]) (hT : T eb = none) (hm : MOk x m) (h8 : x.threads.length ≤ 8) (ka : Nat) (hka : ka < f.regs.length) (b1 c : Int) (hz : f.regs.getD ka 0 = 0) :
    Calls Try.prog 38 #[.pointer (some ⟨b, 0, none⟩), .pointer (some ⟨eb, 0, none⟩), .agg #[.int .i64 28, .int .i64 ka, .int .i64 b1, .int .i64 c]] w (DoesEnd w T id b gf cf x eb i k o m 0 1) := by
  have hok := hm.each i f hf
  have hi : i < m.fr.length := (List.getElem?_eq_some_iff.1 hf).1
  have h8' : m.fr.length ≤ 8 := by rw [hm.len]; exact h8
  obtain ⟨cv, ov, dv, hb, hcore, hcode⟩ := h.ex
  obtain ⟨H, hF⟩ := hcore.frames
  obtain ⟨rv, ha, hr⟩ := hF.get hf
  have k0 := hb.cell (k := 0) (v := cv) rfl
  have k1 := hb.cell (k := 1) (v := ov) rfl
  have k3 := hb.cell (k := 3) (v := .slice (some ⟨gf, 0, none⟩) m.fr.length cf) rfl
  obtain ⟨t0, t1, t2⟩ := hF.three ha
  have hD0 : DP w T id b gf cf x eb i k o cv ov rv m 0 0 w := ⟨h, hev, k0, k1, t1, hT, Keeps.refl _ _⟩
  have v0 := hev.cell (k := 0) (v := .int .i64 i) rfl
  have v3 := hev.cell (k := 3) (v := .int .i64 0) rfl
  have v4 := hev.cell (k := 4) (v := .int .i64 0) rfl
  have g3 := hev.free (k := 3) (by simp)
  have g4 := hev.free (k := 4) (by simp)
  have i1 : (0 : Int) ≤ i := by omega
  have i2 : (i : Int) < m.fr.length := by omega
  have tb := h.tag
  have tf := h.frTag
  have lb : b < w.heap.size := World.block_lt_of_cell? w _ k3
  have le : eb < w.heap.size := World.block_lt_of_cell? w _ v0
  have lf : gf < w.heap.size := World.block_lt_of_cell? w _ t0
  have n1 : b ≠ w.heap.size := by omega
  have n2 : eb ≠ w.heap.size := by omega
  have n3 : gf ≠ w.heap.size := by omega
  have m1 : w.heap.size ≠ b := by omega
  have m2 : w.heap.size ≠ eb := by omega
  have m3 : w.heap.size ≠ gf := by omega
  have n4 : b ≠ eb := fun e => by rw [e, hT] at tb; cases tb
  have n5 : gf ≠ eb := fun e => by rw [e, hT] at tf; cases tf
  have m4 : eb ≠ b := fun e => n4 e.symm
  have m5 : eb ≠ gf := fun e => n5 e.symm
  obtain ⟨gr, cr, er, tr, hrow⟩ := hr.at hka
  subst er
  have ra := hrow.cell (ints_get f.regs ka hka)
  have j1a : (0 : Int) ≤ ka := by omega
  have j2a : (ka : Int) < f.regs.length := by omega
  have lgr : gr < w.heap.size := World.block_lt_of_cell? w _ ra
  have p1gr : gr ≠ w.heap.size := by omega
  have p2gr : w.heap.size ≠ gr := by omega
  have p3gr : gr ≠ eb := fun e => by rw [e, hT] at tr; cases tr
  have p4gr : eb ≠ gr := fun e => p3gr e.symm
  have p5gr : gr ≠ b := fun e => by rw [e, tb] at tr; simp at tr
  have p6gr : b ≠ gr := fun e => p5gr e.symm
  have p7gr : gr ≠ gf := fun e => by rw [e, tf] at tr; simp at tr
  have p8gr : gf ≠ gr := fun e => p7gr e.symm
  rw [hz] at ra
  have HP := Lib.hid (fun (ob : Obj) (n : Nat) => ((((hD0.alloc ob).drewN n).val 0).drew).badly 1)
  have HP2 := Lib.hid (fun (ob : Obj) (n : Nat) => ((((hD0.alloc ob).drewN n).val 0)).badly 1)
  have HP3 := Lib.hid (fun (ob : Obj) (n : Nat) => ((((hD0.alloc ob).drewN n).val 0).drewN n).badly 1)
  clear h hf hev hm h8 hok hb hcore hcode hF ha hr hD0 tb tf hT hrow hz
  go_enter Try.func38, Try.ntmps38
  go_wp2
  go_quiet (fail)
  go_wp2
  go_region
  all_goals go_wp2
  all_goals (
    refine Great.bodyPost_end0 (by rfl) (by rfl) ?_
    first
    | exact (HP.out _ _).drew.fin
    | exact (HP.out _ _).fin
    | exact ((HP.out _ _).drewN _).fin
    | exact ((HP.out _ _).drew.drewN _).fin
    | exact ((HP.out _ _).drewN _).drew.fin
    | exact (HP2.out _ _).fin
    | exact ((HP2.out _ _).drew).fin
    | exact ((HP2.out _ _).drewN _).fin)

set_option maxRecDepth 8000 in
set_option maxHeartbeats 2000000 in
theorem vds_assert (w : World) (T : Tags) (id b gf cf : Nat) (x : Img) (m : Mach) (eb i : Nat) (k o : Int) (f : Fr) (h : VmAt w T id b gf cf x m) (hf : m.fr[i]? = some f) (hev : RowAt w eb [.int .i64 i, .int .i64 k, .int .i64 o, .int .i64 0, .int .i64 0]) (hT : T eb = none) (hm : MOk x m) (h8 : x.threads.length ≤ 8) (ka : Nat) (hka : ka < f.regs.length) (b1 c : Int) (hz : f.regs.getD ka 0 ≠ 0) :
    Calls Try.prog 38 #[.pointer (some ⟨b, 0, none⟩), .pointer (some ⟨eb, 0, none⟩), .agg #[.int .i64 28, .int .i64 ka, .int .i64 b1, .int .i64 c]] w (DoesEnd w T id b gf cf x eb i k o m (f.regs.getD ka 0) 0) := by
  have hok := hm.each i f hf
  have hi : i < m.fr.length := (List.getElem?_eq_some_iff.1 hf).1
  have h8' : m.fr.length ≤ 8 := by rw [hm.len]; exact h8
  obtain ⟨cv, ov, dv, hb, hcore, hcode⟩ := h.ex
  obtain ⟨H, hF⟩ := hcore.frames
  obtain ⟨rv, ha, hr⟩ := hF.get hf
  have k0 := hb.cell (k := 0) (v := cv) rfl
  have k1 := hb.cell (k := 1) (v := ov) rfl
  have k3 := hb.cell (k := 3) (v := .slice (some ⟨gf, 0, none⟩) m.fr.length cf) rfl
  obtain ⟨t0, t1, t2⟩ := hF.three ha
  have hD0 : DP w T id b gf cf x eb i k o cv ov rv m 0 0 w := ⟨h, hev, k0, k1, t1, hT, Keeps.refl _ _⟩
  have v0 := hev.cell (k := 0) (v := .int .i64 i) rfl
  have v3 := hev.cell (k := 3) (v := .int .i64 0) rfl
  have v4 := hev.cell (k := 4) (v := .int .i64 0) rfl
  have g3 := hev.free (k := 3) (by simp)
  have g4 := hev.free (k := 4) (by simp)
  have i1 : (0 : Int) ≤ i := by omega
  have i2 : (i : Int) < m.fr.length := by omega
  have tb := h.tag
  have tf := h.frTag
  have lb : b < w.heap.size := World.block_lt_of_cell? w _ k3
  have le : eb < w.heap.size := World.block_lt_of_cell? w _ v0
  have lf : gf < w.heap.size := World.block_lt_of_cell? w _ t0
  have n1 : b ≠ w.heap.size := by omega
  have n2 : eb ≠ w.heap.size := by omega
  have n3 : gf ≠ w.heap.size := by omega
  have m1 : w.heap.size ≠ b := by omega
  have m2 : w.heap.size ≠ eb := by omega
  have m3 : w.heap.size ≠ gf := by omega
  have n4 : b ≠ eb := fun e => by rw [e, hT] at tb; cases tb
  have n5 : gf ≠ eb := fun e => by rw [e, hT] at tf; cases tf
  have m4 : eb ≠ b := fun e => n4 e.symm
  have m5 : eb ≠ gf := fun e => n5 e.symm
  obtain ⟨gr, cr, er, tr, hrow⟩ := hr.at hka
  subst er
  have ra := hrow.cell (ints_get f.regs ka hka)
  have j1a : (0 : Int) ≤ ka := by omega
  have j2a : (ka : Int) < f.regs.length := by omega
  have lgr : gr < w.heap.size := World.block_lt_of_cell? w _ ra
  have p1gr : gr ≠ w.heap.size := by omega
  have p2gr : w.heap.size ≠ gr := by omega
  have p3gr : gr ≠ eb := fun e => by rw [e, hT] at tr; cases tr
  have p4gr : eb ≠ gr := fun e => p3gr e.symm
  have p5gr : gr ≠ b := fun e => by rw [e, tb] at tr; simp at tr
  have p6gr : b ≠ gr := fun e => p5gr e.symm
  have p7gr : gr ≠ gf := fun e => by rw [e, tf] at tr; simp at tr
  have p8gr : gf ≠ gr := fun e => p7gr e.symm
  have e1 : (f.regs.getD ka 0 == 0) = false := by rw [beq_eq_false_iff_ne]; exact hz
  have HP := Lib.hid (fun (ob : Obj) (n : Nat) => (((hD0.alloc ob).drewN n).val (f.regs.getD ka 0)))
  generalize f.regs.getD ka 0 = vr at *
  clear h hf hev hm h8 hok hb hcore hcode hF ha hr hD0 tb tf hT hrow hz
  go_enter Try.func38, Try.ntmps38
  go_wp2
  go_quiet (fail)
  go_wp2
  go_region
  all_goals go_wp2
  all_goals (
    refine Great.bodyPost_end0 (by rfl) (by rfl) ?_
    first
    | exact (HP.out _ _).drew.fin
    | exact (HP.out _ _).fin
    | exact ((HP.out _ _).drewN _).fin
    | exact ((HP.out _ _).drew.drewN _).fin
    | exact ((HP.out _ _).drewN _).drew.fin)

end Go.Proofs.Ytmkfpkficmmlgaa
