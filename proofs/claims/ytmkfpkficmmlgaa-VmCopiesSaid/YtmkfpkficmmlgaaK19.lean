/- The document's machine: what a step does, operation by operation (written by genrs.py). -/
import Derived.Test.YtmkfpkficmmlgaaK18
namespace Go.Proofs.Ytmkfpkficmmlgaa
open Go.RowKit
set_option linter.unusedVariables false
set_option linter.unusedSimpArgs false
set_option linter.unnecessarySimpa false

/-- how a step's work ends -/
def RDoesEnd (w : World) (T : Tags) (id b gf cf : Nat) (x : Img) (m' : Mach) (v bad : Int) (e : Ending) (w' : World) : Prop :=
  e = .returned (.tuple #[.int .i64 v, .int .i64 bad]) ∧ ∃ T', ExtN T T' id w ∧ RmAt w' T' id b gf cf x m' ∧ Keeps (Own T id) w w'
theorem RP.fin {w : World} {T : Tags} {id b gf cf : Nat} {x : Img} {i : Nat} {cv ov rv : Value} {m' : Mach} {v bad : Int} {w' : World} (h : RP w T id b gf cf x i cv ov rv m' w') : RDoesEnd w T id b gf cf x m' v bad (.returned (.tuple #[.int .i64 v, .int .i64 bad])) w' := ⟨rfl, T, ExtN.refl T id w, h.rm, h.keeps⟩
set_option maxRecDepth 8000 in
set_option maxHeartbeats 2000000 in
theorem rds_read (w : World) (T : Tags) (id b gf cf : Nat) (x : Img) (m : Mach) (i : Nat) (f : Fr) (h : RmAt w T id b gf cf x m) (hf : m.fr[i]? = some f) (hst : f.st = 2) (hm : MOk x m) (h8 : x.threads.length ≤ 8) (ka : Nat) (hka : ka < f.regs.length) (kb : Nat) (hkb : kb < m.cells.length) (c : Int)  :
    Calls Try.prog 34 #[.pointer (some ⟨b, 0, none⟩), .int .i64 i, .agg #[.int .i64 21, .int .i64 ka, .int .i64 kb, .int .i64 c]] w (RDoesEnd w T id b gf cf x (m.setFr i (f.put ka (m.cells.getD kb 0))) (m.cells.getD kb 0) 0) := by
  have hok := hm.each i f hf
  have hi : i < m.fr.length := (List.getElem?_eq_some_iff.1 hf).1
  have h8' : m.fr.length ≤ 8 := by rw [hm.len]; exact h8
  obtain ⟨xc, xt, cv, ov, hb, hcore, hthr⟩ := h.ex
  have hcells : IRow w T id .cells cv m.cells := hcore.cells
  have howners : IRow w T id .owners ov m.owners := hcore.owners
  obtain ⟨H, hF⟩ := hcore.frames
  have hs := shade_get hf
  rw [shadow_run (by rw [hst]; decide)] at hs
  obtain ⟨rv, ha, hr⟩ := hF.get hs
  have k3 := hb.cell (k := 3) (v := cv) rfl
  have k4 := hb.cell (k := 4) (v := ov) rfl
  have k5 := hb.cell (k := 5) (v := .slice (some ⟨gf, 0, none⟩) m.fr.length cf) rfl
  obtain ⟨t0, t1, t2⟩ := hF.three ha
  have hD0 : RP w T id b gf cf x i cv ov rv m w := ⟨h, k3, k4, t1, Keeps.refl _ _⟩
  have i1 : (0 : Int) ≤ i := by omega
  have i2 : (i : Int) < m.fr.length := by omega
  have tb := h.tag
  have tf := h.frTag
  have lb : b < w.heap.size := World.block_lt_of_cell? w _ k5
  have lf : gf < w.heap.size := World.block_lt_of_cell? w _ t0
  have n1 : b ≠ w.heap.size := by omega
  have n3 : gf ≠ w.heap.size := by omega
  have m1 : w.heap.size ≠ b := by omega
  have m3 : w.heap.size ≠ gf := by omega
  obtain ⟨gr, cr, er, tr, hrow⟩ := hr.at hka
  subst er
  have ra := hrow.cell (ints_get f.regs ka hka)
  have j1a : (0 : Int) ≤ ka := by omega
  have j2a : (ka : Int) < f.regs.length := by omega
  have lgr : gr < w.heap.size := World.block_lt_of_cell? w _ ra
  have p1gr : gr ≠ w.heap.size := by omega
  have p2gr : w.heap.size ≠ gr := by omega
  have p5gr : gr ≠ b := fun e => by rw [e, tb] at tr; simp at tr
  have p6gr : b ≠ gr := fun e => p5gr e.symm
  have p7gr : gr ≠ gf := fun e => by rw [e, tf] at tr; simp at tr
  have p8gr : gf ≠ gr := fun e => p7gr e.symm
  have fra := hrow.free (k := ka) (by rw [ints_len]; exact hka)
  obtain ⟨gc, cc, ec, tc, hcrow⟩ := hcells.at (k := kb) hkb
  subst ec
  have cb : w.cell? ⟨gc, kb, none⟩ = some (.int .i64 (m.cells.getD kb 0)) := hcrow.cell (ints_get m.cells kb hkb)
  have j1b : (0 : Int) ≤ kb := by omega
  have j2b : (kb : Int) < m.cells.length := by omega
  have k3 : w.cell? ⟨b, 3, none⟩ = some (.slice (some ⟨gc, 0, none⟩) m.cells.length cc) := k3
  have lgc : gc < w.heap.size := World.block_lt_of_cell? w _ cb
  have p1gc : gc ≠ w.heap.size := by omega
  have p2gc : w.heap.size ≠ gc := by omega
  have p5gc : gc ≠ b := fun e => by rw [e, tb] at tc; simp at tc
  have p6gc : b ≠ gc := fun e => p5gc e.symm
  have p7gc : gc ≠ gf := fun e => by rw [e, tf] at tc; simp at tc
  have p8gc : gf ≠ gc := fun e => p7gc e.symm
  have fcb : w.frozen? ⟨gc, kb, none⟩ = false := hcrow.free (k := kb) (by rw [ints_len]; exact hkb)
  have gg1 : gr ≠ gc := fun e => by rw [e, tc] at tr; simp at tr
  have gg2 : gc ≠ gr := fun e => gg1 e.symm
  have HP := Lib.hid (fun (ob : Obj) (n : Nat) => ((hD0.alloc ob).drewN n).reg hf hst tr ka hka (m.cells.getD kb 0))
  have HP2 := Lib.hid (hD0.reg hf hst tr ka hka (m.cells.getD kb 0))
  generalize m.cells.getD kb 0 = vc at *
  clear h hf hst hm h8 hok hb hcore hcells howners hthr hF ha hs hr hD0 tb tf hrow hcrow
  go_enter Try.func34, Try.ntmps34
  go_wp2
  go_region
  all_goals go_wp2
  all_goals go_quiet (fail)
  all_goals go_wp2
  all_goals (
    go_ret2
    first
    | exact ((HP2.out.alloc _).drew.drewN _).fin
    | exact ((HP2.out.alloc _).drewN _).fin
    | exact ((HP2.out.alloc _).drew).fin
    | exact (HP2.out.alloc _).fin
    | exact (HP.out _ _).drew.fin
    | exact (HP.out _ _).fin
    | exact (HP.out _ 0).fin
    | exact ((HP.out _ _).drewN _).fin
    | exact ((HP.out _ _).drew.drewN _).fin
    | exact ((HP.out _ _).drewN _).drew.fin
    | exact ((HP.out _ 0).drewN _).fin
    | exact ((HP.out _ 0).drew).fin
    | exact ((HP.out _ 0).drew.drewN _).fin)

set_option maxRecDepth 8000 in
set_option maxHeartbeats 2000000 in
theorem rds_write (w : World) (T : Tags) (id b gf cf : Nat) (x : Img) (m : Mach) (i : Nat) (f : Fr) (h : RmAt w T id b gf cf x m) (hf : m.fr[i]? = some f) (hst : f.st = 2) (hm : MOk x m) (h8 : x.threads.length ≤ 8) (ka : Nat) (hka : ka < m.cells.length) (kb : Nat) (hkb : kb < f.regs.length) (c : Int)  :
    Calls Try.prog 34 #[.pointer (some ⟨b, 0, none⟩), .int .i64 i, .agg #[.int .i64 22, .int .i64 ka, .int .i64 kb, .int .i64 c]] w (RDoesEnd w T id b gf cf x { m with cells := m.cells.set ka (f.regs.getD kb 0) } (f.regs.getD kb 0) 0) := by
  have hok := hm.each i f hf
  have hi : i < m.fr.length := (List.getElem?_eq_some_iff.1 hf).1
  have h8' : m.fr.length ≤ 8 := by rw [hm.len]; exact h8
  obtain ⟨xc, xt, cv, ov, hb, hcore, hthr⟩ := h.ex
  have hcells : IRow w T id .cells cv m.cells := hcore.cells
  have howners : IRow w T id .owners ov m.owners := hcore.owners
  obtain ⟨H, hF⟩ := hcore.frames
  have hs := shade_get hf
  rw [shadow_run (by rw [hst]; decide)] at hs
  obtain ⟨rv, ha, hr⟩ := hF.get hs
  have k3 := hb.cell (k := 3) (v := cv) rfl
  have k4 := hb.cell (k := 4) (v := ov) rfl
  have k5 := hb.cell (k := 5) (v := .slice (some ⟨gf, 0, none⟩) m.fr.length cf) rfl
  obtain ⟨t0, t1, t2⟩ := hF.three ha
  have hD0 : RP w T id b gf cf x i cv ov rv m w := ⟨h, k3, k4, t1, Keeps.refl _ _⟩
  have i1 : (0 : Int) ≤ i := by omega
  have i2 : (i : Int) < m.fr.length := by omega
  have tb := h.tag
  have tf := h.frTag
  have lb : b < w.heap.size := World.block_lt_of_cell? w _ k5
  have lf : gf < w.heap.size := World.block_lt_of_cell? w _ t0
  have n1 : b ≠ w.heap.size := by omega
  have n3 : gf ≠ w.heap.size := by omega
  have m1 : w.heap.size ≠ b := by omega
  have m3 : w.heap.size ≠ gf := by omega
  obtain ⟨gr, cr, er, tr, hrow⟩ := hr.at hkb
  subst er
  have rb := hrow.cell (ints_get f.regs kb hkb)
  have j1b : (0 : Int) ≤ kb := by omega
  have j2b : (kb : Int) < f.regs.length := by omega
  have lgr : gr < w.heap.size := World.block_lt_of_cell? w _ rb
  have p1gr : gr ≠ w.heap.size := by omega
  have p2gr : w.heap.size ≠ gr := by omega
  have p5gr : gr ≠ b := fun e => by rw [e, tb] at tr; simp at tr
  have p6gr : b ≠ gr := fun e => p5gr e.symm
  have p7gr : gr ≠ gf := fun e => by rw [e, tf] at tr; simp at tr
  have p8gr : gf ≠ gr := fun e => p7gr e.symm
  obtain ⟨gc, cc, ec, tc, hcrow⟩ := hcells.at (k := ka) hka
  subst ec
  have ca : w.cell? ⟨gc, ka, none⟩ = some (.int .i64 (m.cells.getD ka 0)) := hcrow.cell (ints_get m.cells ka hka)
  have j1a : (0 : Int) ≤ ka := by omega
  have j2a : (ka : Int) < m.cells.length := by omega
  have k3 : w.cell? ⟨b, 3, none⟩ = some (.slice (some ⟨gc, 0, none⟩) m.cells.length cc) := k3
  have lgc : gc < w.heap.size := World.block_lt_of_cell? w _ ca
  have p1gc : gc ≠ w.heap.size := by omega
  have p2gc : w.heap.size ≠ gc := by omega
  have p5gc : gc ≠ b := fun e => by rw [e, tb] at tc; simp at tc
  have p6gc : b ≠ gc := fun e => p5gc e.symm
  have p7gc : gc ≠ gf := fun e => by rw [e, tf] at tc; simp at tc
  have p8gc : gf ≠ gc := fun e => p7gc e.symm
  have fca : w.frozen? ⟨gc, ka, none⟩ = false := hcrow.free (k := ka) (by rw [ints_len]; exact hka)
  have gg1 : gr ≠ gc := fun e => by rw [e, tc] at tr; simp at tr
  have gg2 : gc ≠ gr := fun e => gg1 e.symm
  have HP := Lib.hid (fun (ob : Obj) (n : Nat) => ((hD0.alloc ob).drewN n).cell tc ka hka (f.regs.getD kb 0))
  have HP2 := Lib.hid (hD0.cell tc ka hka (f.regs.getD kb 0))
  generalize f.regs.getD kb 0 = vr at *
  clear h hf hst hm h8 hok hb hcore hcells howners hthr hF ha hs hr hD0 tb tf hrow hcrow
  go_enter Try.func34, Try.ntmps34
  go_wp2
  go_region
  all_goals go_wp2
  all_goals go_quiet (fail)
  all_goals go_wp2
  all_goals (
    go_ret2
    first
    | exact ((HP2.out.alloc _).drew.drewN _).fin
    | exact ((HP2.out.alloc _).drewN _).fin
    | exact ((HP2.out.alloc _).drew).fin
    | exact (HP2.out.alloc _).fin
    | exact (HP.out _ _).drew.fin
    | exact (HP.out _ _).fin
    | exact (HP.out _ 0).fin
    | exact ((HP.out _ _).drewN _).fin
    | exact ((HP.out _ _).drew.drewN _).fin
    | exact ((HP.out _ _).drewN _).drew.fin
    | exact ((HP.out _ 0).drewN _).fin
    | exact ((HP.out _ 0).drew).fin
    | exact ((HP.out _ 0).drew.drewN _).fin)

set_option maxRecDepth 8000 in
set_option maxHeartbeats 2000000 in
theorem rds_fetch (w : World) (T : Tags) (id b gf cf : Nat) (x : Img) (m : Mach) (i : Nat) (f : Fr) (h : RmAt w T id b gf cf x m) (hf : m.fr[i]? = some f) (hst : f.st = 2) (hm : MOk x m) (h8 : x.threads.length ≤ 8) (ka : Nat) (hka : ka < f.regs.length) (kb : Nat) (hkb : kb < m.cells.length) (kc : Nat) (hkc : kc < f.regs.length)  :
    Calls Try.prog 34 #[.pointer (some ⟨b, 0, none⟩), .int .i64 i, .agg #[.int .i64 23, .int .i64 ka, .int .i64 kb, .int .i64 kc]] w (RDoesEnd w T id b gf cf x (({ m with cells := m.cells.set kb (w64 (m.cells.getD kb 0 + f.regs.getD kc 0)) } : Mach).setFr i (f.put ka (m.cells.getD kb 0))) (m.cells.getD kb 0) 0) := by
  have hok := hm.each i f hf
  have hi : i < m.fr.length := (List.getElem?_eq_some_iff.1 hf).1
  have h8' : m.fr.length ≤ 8 := by rw [hm.len]; exact h8
  obtain ⟨xc, xt, cv, ov, hb, hcore, hthr⟩ := h.ex
  have hcells : IRow w T id .cells cv m.cells := hcore.cells
  have howners : IRow w T id .owners ov m.owners := hcore.owners
  obtain ⟨H, hF⟩ := hcore.frames
  have hs := shade_get hf
  rw [shadow_run (by rw [hst]; decide)] at hs
  obtain ⟨rv, ha, hr⟩ := hF.get hs
  have k3 := hb.cell (k := 3) (v := cv) rfl
  have k4 := hb.cell (k := 4) (v := ov) rfl
  have k5 := hb.cell (k := 5) (v := .slice (some ⟨gf, 0, none⟩) m.fr.length cf) rfl
  obtain ⟨t0, t1, t2⟩ := hF.three ha
  have hD0 : RP w T id b gf cf x i cv ov rv m w := ⟨h, k3, k4, t1, Keeps.refl _ _⟩
  have i1 : (0 : Int) ≤ i := by omega
  have i2 : (i : Int) < m.fr.length := by omega
  have tb := h.tag
  have tf := h.frTag
  have lb : b < w.heap.size := World.block_lt_of_cell? w _ k5
  have lf : gf < w.heap.size := World.block_lt_of_cell? w _ t0
  have n1 : b ≠ w.heap.size := by omega
  have n3 : gf ≠ w.heap.size := by omega
  have m1 : w.heap.size ≠ b := by omega
  have m3 : w.heap.size ≠ gf := by omega
  obtain ⟨gr, cr, er, tr, hrow⟩ := hr.at hka
  subst er
  have ra := hrow.cell (ints_get f.regs ka hka)
  have j1a : (0 : Int) ≤ ka := by omega
  have j2a : (ka : Int) < f.regs.length := by omega
  have rc := hrow.cell (ints_get f.regs kc hkc)
  have j1c : (0 : Int) ≤ kc := by omega
  have j2c : (kc : Int) < f.regs.length := by omega
  have lgr : gr < w.heap.size := World.block_lt_of_cell? w _ ra
  have p1gr : gr ≠ w.heap.size := by omega
  have p2gr : w.heap.size ≠ gr := by omega
  have p5gr : gr ≠ b := fun e => by rw [e, tb] at tr; simp at tr
  have p6gr : b ≠ gr := fun e => p5gr e.symm
  have p7gr : gr ≠ gf := fun e => by rw [e, tf] at tr; simp at tr
  have p8gr : gf ≠ gr := fun e => p7gr e.symm
  have fra := hrow.free (k := ka) (by rw [ints_len]; exact hka)
  obtain ⟨gc, cc, ec, tc, hcrow⟩ := hcells.at (k := kb) hkb
  subst ec
  have cb : w.cell? ⟨gc, kb, none⟩ = some (.int .i64 (m.cells.getD kb 0)) := hcrow.cell (ints_get m.cells kb hkb)
  have j1b : (0 : Int) ≤ kb := by omega
  have j2b : (kb : Int) < m.cells.length := by omega
  have k3 : w.cell? ⟨b, 3, none⟩ = some (.slice (some ⟨gc, 0, none⟩) m.cells.length cc) := k3
  have lgc : gc < w.heap.size := World.block_lt_of_cell? w _ cb
  have p1gc : gc ≠ w.heap.size := by omega
  have p2gc : w.heap.size ≠ gc := by omega
  have p5gc : gc ≠ b := fun e => by rw [e, tb] at tc; simp at tc
  have p6gc : b ≠ gc := fun e => p5gc e.symm
  have p7gc : gc ≠ gf := fun e => by rw [e, tf] at tc; simp at tc
  have p8gc : gf ≠ gc := fun e => p7gc e.symm
  have fcb : w.frozen? ⟨gc, kb, none⟩ = false := hcrow.free (k := kb) (by rw [ints_len]; exact hkb)
  have gg1 : gr ≠ gc := fun e => by rw [e, tc] at tr; simp at tr
  have gg2 : gc ≠ gr := fun e => gg1 e.symm
  have HP := Lib.hid (fun (ob : Obj) (n : Nat) => (((hD0.alloc ob).drewN n).cell tc kb hkb (w64 (m.cells.getD kb 0 + f.regs.getD kc 0))).reg hf hst tr ka hka (m.cells.getD kb 0))
  generalize m.cells.getD kb 0 = vc at *
  generalize f.regs.getD kc 0 = vr at *
  clear h hf hst hm h8 hok hb hcore hcells howners hthr hF ha hs hr hD0 tb tf hrow hcrow
  go_enter Try.func34, Try.ntmps34
  go_wp2
  go_quiet (fail)
  go_wp2
  go_region
  all_goals go_wp2
  all_goals go_region
  all_goals go_wp2
  all_goals (
    go_ret2
    first
    | exact (HP.out _ _).drew.fin
    | exact (HP.out _ _).fin
    | exact (HP.out _ 0).fin
    | exact ((HP.out _ _).drewN _).fin
    | exact ((HP.out _ _).drew.drewN _).fin
    | exact ((HP.out _ _).drewN _).drew.fin
    | exact ((HP.out _ 0).drewN _).fin
    | exact ((HP.out _ 0).drew).fin
    | exact ((HP.out _ 0).drew.drewN _).fin)

set_option maxRecDepth 8000 in
set_option maxHeartbeats 2000000 in
theorem rds_lock (w : World) (T : Tags) (id b gf cf : Nat) (x : Img) (m : Mach) (i : Nat) (f : Fr) (h : RmAt w T id b gf cf x m) (hf : m.fr[i]? = some f) (hst : f.st = 2) (hm : MOk x m) (h8 : x.threads.length ≤ 8) (ka : Nat) (hka : ka < m.owners.length) (b1 c : Int)  :
    Calls Try.prog 34 #[.pointer (some ⟨b, 0, none⟩), .int .i64 i, .agg #[.int .i64 24, .int .i64 ka, .int .i64 b1, .int .i64 c]] w (RDoesEnd w T id b gf cf x { m with owners := m.owners.set ka i } 0 0) := by
  have hok := hm.each i f hf
  have hi : i < m.fr.length := (List.getElem?_eq_some_iff.1 hf).1
  have h8' : m.fr.length ≤ 8 := by rw [hm.len]; exact h8
  obtain ⟨xc, xt, cv, ov, hb, hcore, hthr⟩ := h.ex
  have hcells : IRow w T id .cells cv m.cells := hcore.cells
  have howners : IRow w T id .owners ov m.owners := hcore.owners
  obtain ⟨H, hF⟩ := hcore.frames
  have hs := shade_get hf
  rw [shadow_run (by rw [hst]; decide)] at hs
  obtain ⟨rv, ha, hr⟩ := hF.get hs
  have k3 := hb.cell (k := 3) (v := cv) rfl
  have k4 := hb.cell (k := 4) (v := ov) rfl
  have k5 := hb.cell (k := 5) (v := .slice (some ⟨gf, 0, none⟩) m.fr.length cf) rfl
  obtain ⟨t0, t1, t2⟩ := hF.three ha
  have hD0 : RP w T id b gf cf x i cv ov rv m w := ⟨h, k3, k4, t1, Keeps.refl _ _⟩
  have i1 : (0 : Int) ≤ i := by omega
  have i2 : (i : Int) < m.fr.length := by omega
  have tb := h.tag
  have tf := h.frTag
  have lb : b < w.heap.size := World.block_lt_of_cell? w _ k5
  have lf : gf < w.heap.size := World.block_lt_of_cell? w _ t0
  have n1 : b ≠ w.heap.size := by omega
  have n3 : gf ≠ w.heap.size := by omega
  have m1 : w.heap.size ≠ b := by omega
  have m3 : w.heap.size ≠ gf := by omega
  obtain ⟨gw, cw, ew, tw, hwrow⟩ := howners.at (k := ka) hka
  subst ew
  have wa : w.cell? ⟨gw, ka, none⟩ = some (.int .i64 (m.owners.getD ka 0)) := hwrow.cell (ints_get m.owners ka hka)
  have j1a : (0 : Int) ≤ ka := by omega
  have j2a : (ka : Int) < m.owners.length := by omega
  have k4 : w.cell? ⟨b, 4, none⟩ = some (.slice (some ⟨gw, 0, none⟩) m.owners.length cw) := k4
  have lgw : gw < w.heap.size := World.block_lt_of_cell? w _ wa
  have p1gw : gw ≠ w.heap.size := by omega
  have p2gw : w.heap.size ≠ gw := by omega
  have p5gw : gw ≠ b := fun e => by rw [e, tb] at tw; simp at tw
  have p6gw : b ≠ gw := fun e => p5gw e.symm
  have p7gw : gw ≠ gf := fun e => by rw [e, tf] at tw; simp at tw
  have p8gw : gf ≠ gw := fun e => p7gw e.symm
  have fwa : w.frozen? ⟨gw, ka, none⟩ = false := hwrow.free (k := ka) (by rw [ints_len]; exact hka)
  have HP := Lib.hid (fun (ob : Obj) (n : Nat) => ((hD0.alloc ob).drewN n).owner tw ka hka i)
  have HP2 := Lib.hid (hD0.owner tw ka hka i)
  clear h hf hst hm h8 hok hb hcore hcells howners hthr hF ha hs hr hD0 tb tf hwrow
  go_enter Try.func34, Try.ntmps34
  go_wp2
  go_region
  all_goals go_wp2
  all_goals (
    go_ret2
    first
    | exact ((HP2.out.alloc _).drew.drewN _).fin
    | exact ((HP2.out.alloc _).drewN _).fin
    | exact ((HP2.out.alloc _).drew).fin
    | exact (HP2.out.alloc _).fin
    | exact (HP.out _ _).drew.fin
    | exact (HP.out _ _).fin
    | exact (HP.out _ 0).fin
    | exact ((HP.out _ _).drewN _).fin
    | exact ((HP.out _ _).drew.drewN _).fin
    | exact ((HP.out _ _).drewN _).drew.fin
    | exact ((HP.out _ 0).drewN _).fin
    | exact ((HP.out _ 0).drew).fin
    | exact ((HP.out _ 0).drew.drewN _).fin)

set_option maxRecDepth 8000 in
set_option maxHeartbeats 2000000 in
theorem rds_unlock (w : World) (T : Tags) (id b gf cf : Nat) (x : Img) (m : Mach) (i : Nat) (f : Fr) (h : RmAt w T id b gf cf x m) (hf : m.fr[i]? = some f) (hst : f.st = 2) (hm : MOk x m) (h8 : x.threads.length ≤ 8) (ka : Nat) (hka : ka < m.owners.length) (b1 c : Int) (hw : m.owners.getD ka 0 = i) :
    Calls Try.prog 34 #[.pointer (some ⟨b, 0, none⟩), .int .i64 i, .agg #[.int .i64 25, .int .i64 ka, .int .i64 b1, .int .i64 c]] w (RDoesEnd w T id b gf cf x { m with owners := m.owners.set ka (-1) } 0 0) := by
  have hok := hm.each i f hf
  have hi : i < m.fr.length := (List.getElem?_eq_some_iff.1 hf).1
  have h8' : m.fr.length ≤ 8 := by rw [hm.len]; exact h8
  obtain ⟨xc, xt, cv, ov, hb, hcore, hthr⟩ := h.ex
  have hcells : IRow w T id .cells cv m.cells := hcore.cells
  have howners : IRow w T id .owners ov m.owners := hcore.owners
  obtain ⟨H, hF⟩ := hcore.frames
  have hs := shade_get hf
  rw [shadow_run (by rw [hst]; decide)] at hs
  obtain ⟨rv, ha, hr⟩ := hF.get hs
  have k3 := hb.cell (k := 3) (v := cv) rfl
  have k4 := hb.cell (k := 4) (v := ov) rfl
  have k5 := hb.cell (k := 5) (v := .slice (some ⟨gf, 0, none⟩) m.fr.length cf) rfl
  obtain ⟨t0, t1, t2⟩ := hF.three ha
  have hD0 : RP w T id b gf cf x i cv ov rv m w := ⟨h, k3, k4, t1, Keeps.refl _ _⟩
  have i1 : (0 : Int) ≤ i := by omega
  have i2 : (i : Int) < m.fr.length := by omega
  have tb := h.tag
  have tf := h.frTag
  have lb : b < w.heap.size := World.block_lt_of_cell? w _ k5
  have lf : gf < w.heap.size := World.block_lt_of_cell? w _ t0
  have n1 : b ≠ w.heap.size := by omega
  have n3 : gf ≠ w.heap.size := by omega
  have m1 : w.heap.size ≠ b := by omega
  have m3 : w.heap.size ≠ gf := by omega
  obtain ⟨gw, cw, ew, tw, hwrow⟩ := howners.at (k := ka) hka
  subst ew
  have wa : w.cell? ⟨gw, ka, none⟩ = some (.int .i64 (m.owners.getD ka 0)) := hwrow.cell (ints_get m.owners ka hka)
  have j1a : (0 : Int) ≤ ka := by omega
  have j2a : (ka : Int) < m.owners.length := by omega
  have k4 : w.cell? ⟨b, 4, none⟩ = some (.slice (some ⟨gw, 0, none⟩) m.owners.length cw) := k4
  have lgw : gw < w.heap.size := World.block_lt_of_cell? w _ wa
  have p1gw : gw ≠ w.heap.size := by omega
  have p2gw : w.heap.size ≠ gw := by omega
  have p5gw : gw ≠ b := fun e => by rw [e, tb] at tw; simp at tw
  have p6gw : b ≠ gw := fun e => p5gw e.symm
  have p7gw : gw ≠ gf := fun e => by rw [e, tf] at tw; simp at tw
  have p8gw : gf ≠ gw := fun e => p7gw e.symm
  have fwa : w.frozen? ⟨gw, ka, none⟩ = false := hwrow.free (k := ka) (by rw [ints_len]; exact hka)
  rw [hw] at wa
  have e1 : ((i : Int) != i) = false := by simp
  have HP := Lib.hid (fun (ob : Obj) (n : Nat) => ((hD0.alloc ob).drewN n).owner tw ka hka (-1))
  clear h hf hst hm h8 hok hb hcore hcells howners hthr hF ha hs hr hD0 tb tf hwrow hw
  go_enter Try.func34, Try.ntmps34
  go_wp2
  go_quiet (fail)
  go_wp2
  go_region
  all_goals go_wp2
  all_goals (
    go_ret2
    first
    | exact (HP.out _ _).drew.fin
    | exact (HP.out _ _).fin
    | exact (HP.out _ 0).fin
    | exact ((HP.out _ _).drewN _).fin
    | exact ((HP.out _ _).drew.drewN _).fin
    | exact ((HP.out _ _).drewN _).drew.fin
    | exact ((HP.out _ 0).drewN _).fin
    | exact ((HP.out _ 0).drew).fin
    | exact ((HP.out _ 0).drew.drewN _).fin)

set_option maxRecDepth 8000 in
set_option maxHeartbeats 2000000 in
theorem rds_unlock1 (w : World) (T : Tags) (id b gf cf : Nat) (x : Img) (m : Mach) (i : Nat) (f : Fr) (h : RmAt w T id b gf cf x m) (hf : m.fr[i]? = some f) (hst : f.st = 2) (hm : MOk x m) (h8 : x.threads.length ≤ 8) (ka : Nat) (hka : ka < m.owners.length) (b1 c : Int) (hw : m.owners.getD ka 0 ≠ i) :
    Calls Try.prog 34 #[.pointer (some ⟨b, 0, none⟩), .int .i64 i, .agg #[.int .i64 25, .int .i64 ka, .int .i64 b1, .int .i64 c]] w (RDoesEnd w T id b gf cf x m 0 2) := by
  have hok := hm.each i f hf
  have hi : i < m.fr.length := (List.getElem?_eq_some_iff.1 hf).1
  have h8' : m.fr.length ≤ 8 := by rw [hm.len]; exact h8
  obtain ⟨xc, xt, cv, ov, hb, hcore, hthr⟩ := h.ex
  have hcells : IRow w T id .cells cv m.cells := hcore.cells
  have howners : IRow w T id .owners ov m.owners := hcore.owners
  obtain ⟨H, hF⟩ := hcore.frames
  have hs := shade_get hf
  rw [shadow_run (by rw [hst]; decide)] at hs
  obtain ⟨rv, ha, hr⟩ := hF.get hs
  have k3 := hb.cell (k := 3) (v := cv) rfl
  have k4 := hb.cell (k := 4) (v := ov) rfl
  have k5 := hb.cell (k := 5) (v := .slice (some ⟨gf, 0, none⟩) m.fr.length cf) rfl
  obtain ⟨t0, t1, t2⟩ := hF.three ha
  have hD0 : RP w T id b gf cf x i cv ov rv m w := ⟨h, k3, k4, t1, Keeps.refl _ _⟩
  have i1 : (0 : Int) ≤ i := by omega
  have i2 : (i : Int) < m.fr.length := by omega
  have tb := h.tag
  have tf := h.frTag
  have lb : b < w.heap.size := World.block_lt_of_cell? w _ k5
  have lf : gf < w.heap.size := World.block_lt_of_cell? w _ t0
  have n1 : b ≠ w.heap.size := by omega
  have n3 : gf ≠ w.heap.size := by omega
  have m1 : w.heap.size ≠ b := by omega
  have m3 : w.heap.size ≠ gf := by omega
  obtain ⟨gw, cw, ew, tw, hwrow⟩ := howners.at (k := ka) hka
  subst ew
  have wa : w.cell? ⟨gw, ka, none⟩ = some (.int .i64 (m.owners.getD ka 0)) := hwrow.cell (ints_get m.owners ka hka)
  have j1a : (0 : Int) ≤ ka := by omega
  have j2a : (ka : Int) < m.owners.length := by omega
  have k4 : w.cell? ⟨b, 4, none⟩ = some (.slice (some ⟨gw, 0, none⟩) m.owners.length cw) := k4
  have lgw : gw < w.heap.size := World.block_lt_of_cell? w _ wa
  have p1gw : gw ≠ w.heap.size := by omega
  have p2gw : w.heap.size ≠ gw := by omega
  have p5gw : gw ≠ b := fun e => by rw [e, tb] at tw; simp at tw
  have p6gw : b ≠ gw := fun e => p5gw e.symm
  have p7gw : gw ≠ gf := fun e => by rw [e, tf] at tw; simp at tw
  have p8gw : gf ≠ gw := fun e => p7gw e.symm
  have fwa : w.frozen? ⟨gw, ka, none⟩ = false := hwrow.free (k := ka) (by rw [ints_len]; exact hka)
  have e1 : (m.owners.getD ka 0 != (i : Int)) = true := by rw [bne_iff_ne]; exact hw
  have HP := Lib.hid (fun (ob : Obj) (n : Nat) => ((hD0.alloc ob).drewN n))
  generalize m.owners.getD ka 0 = ow at *
  clear h hf hst hm h8 hok hb hcore hcells howners hthr hF ha hs hr hD0 tb tf hwrow hw
  go_enter Try.func34, Try.ntmps34
  go_wp2
  go_quiet (fail)
  go_wp2
  all_goals (
    go_ret2
    first
    | exact (HP.out _ _).drew.fin
    | exact (HP.out _ _).fin
    | exact (HP.out _ 0).fin
    | exact ((HP.out _ _).drewN _).fin
    | exact ((HP.out _ _).drew.drewN _).fin
    | exact ((HP.out _ _).drewN _).drew.fin
    | exact ((HP.out _ 0).drewN _).fin
    | exact ((HP.out _ 0).drew).fin
    | exact ((HP.out _ 0).drew.drewN _).fin)

set_option maxRecDepth 8000 in
set_option maxHeartbeats 2000000 in
theorem rds_start1 (w : World) (T : Tags) (id b gf cf : Nat) (x : Img) (m : Mach) (i : Nat) (f : Fr) (h : RmAt w T id b gf cf x m) (hf : m.fr[i]? = some f) (hst : f.st = 2) (hm : MOk x m) (h8 : x.threads.length ≤ 8) (ka : Nat) (hka : ka < m.fr.length) (f2 : Fr) (hf2 : m.fr[ka]? = some f2) (b1 c : Int) (hs9 : f2.st ≠ 1) :
    Calls Try.prog 34 #[.pointer (some ⟨b, 0, none⟩), .int .i64 i, .agg #[.int .i64 26, .int .i64 ka, .int .i64 b1, .int .i64 c]] w (RDoesEnd w T id b gf cf x m 0 4) := by
  have hok := hm.each i f hf
  have hi : i < m.fr.length := (List.getElem?_eq_some_iff.1 hf).1
  have h8' : m.fr.length ≤ 8 := by rw [hm.len]; exact h8
  obtain ⟨xc, xt, cv, ov, hb, hcore, hthr⟩ := h.ex
  have hcells : IRow w T id .cells cv m.cells := hcore.cells
  have howners : IRow w T id .owners ov m.owners := hcore.owners
  obtain ⟨H, hF⟩ := hcore.frames
  have hs := shade_get hf
  rw [shadow_run (by rw [hst]; decide)] at hs
  obtain ⟨rv, ha, hr⟩ := hF.get hs
  have k3 := hb.cell (k := 3) (v := cv) rfl
  have k4 := hb.cell (k := 4) (v := ov) rfl
  have k5 := hb.cell (k := 5) (v := .slice (some ⟨gf, 0, none⟩) m.fr.length cf) rfl
  obtain ⟨t0, t1, t2⟩ := hF.three ha
  have hD0 : RP w T id b gf cf x i cv ov rv m w := ⟨h, k3, k4, t1, Keeps.refl _ _⟩
  have i1 : (0 : Int) ≤ i := by omega
  have i2 : (i : Int) < m.fr.length := by omega
  have tb := h.tag
  have tf := h.frTag
  have lb : b < w.heap.size := World.block_lt_of_cell? w _ k5
  have lf : gf < w.heap.size := World.block_lt_of_cell? w _ t0
  have n1 : b ≠ w.heap.size := by omega
  have n3 : gf ≠ w.heap.size := by omega
  have m1 : w.heap.size ≠ b := by omega
  have m3 : w.heap.size ≠ gf := by omega
  have hs2 := shade_get hf2
  obtain ⟨rv2, ha2, _⟩ := hF.get hs2
  have s0 := (hF.three ha2).1
  rw [shadow_st] at s0
  have ja1 : (0 : Int) ≤ ka := by omega
  have ja2 : (ka : Int) < m.fr.length := by omega
  have e1 : (f2.st != 1) = true := by rw [bne_iff_ne]; exact hs9
  have HP := Lib.hid (fun (ob : Obj) (n : Nat) => ((hD0.alloc ob).drewN n))
  clear h hf hst hm h8 hok hb hcore hcells howners hthr hF ha hs hr hD0 tb tf hf2 ha2 hs9 hs2
  go_enter Try.func34, Try.ntmps34
  go_wp2
  go_quiet (fail)
  go_wp2
  all_goals (
    go_ret2
    first
    | exact (HP.out _ _).drew.fin
    | exact (HP.out _ _).fin
    | exact (HP.out _ 0).fin
    | exact ((HP.out _ _).drewN _).fin
    | exact ((HP.out _ _).drew.drewN _).fin
    | exact ((HP.out _ _).drewN _).drew.fin
    | exact ((HP.out _ 0).drewN _).fin
    | exact ((HP.out _ 0).drew).fin
    | exact ((HP.out _ 0).drew.drewN _).fin)

set_option maxRecDepth 8000 in
set_option maxHeartbeats 2000000 in
theorem rds_join1 (w : World) (T : Tags) (id b gf cf : Nat) (x : Img) (m : Mach) (i : Nat) (f : Fr) (h : RmAt w T id b gf cf x m) (hf : m.fr[i]? = some f) (hst : f.st = 2) (hm : MOk x m) (h8 : x.threads.length ≤ 8) (ka : Nat) (hka : ka < m.fr.length) (f2 : Fr) (hf2 : m.fr[ka]? = some f2) (b1 c : Int) (hs9 : f2.st = 1) :
    Calls Try.prog 34 #[.pointer (some ⟨b, 0, none⟩), .int .i64 i, .agg #[.int .i64 27, .int .i64 ka, .int .i64 b1, .int .i64 c]] w (RDoesEnd w T id b gf cf x m 0 3) := by
  have hok := hm.each i f hf
  have hi : i < m.fr.length := (List.getElem?_eq_some_iff.1 hf).1
  have h8' : m.fr.length ≤ 8 := by rw [hm.len]; exact h8
  obtain ⟨xc, xt, cv, ov, hb, hcore, hthr⟩ := h.ex
  have hcells : IRow w T id .cells cv m.cells := hcore.cells
  have howners : IRow w T id .owners ov m.owners := hcore.owners
  obtain ⟨H, hF⟩ := hcore.frames
  have hs := shade_get hf
  rw [shadow_run (by rw [hst]; decide)] at hs
  obtain ⟨rv, ha, hr⟩ := hF.get hs
  have k3 := hb.cell (k := 3) (v := cv) rfl
  have k4 := hb.cell (k := 4) (v := ov) rfl
  have k5 := hb.cell (k := 5) (v := .slice (some ⟨gf, 0, none⟩) m.fr.length cf) rfl
  obtain ⟨t0, t1, t2⟩ := hF.three ha
  have hD0 : RP w T id b gf cf x i cv ov rv m w := ⟨h, k3, k4, t1, Keeps.refl _ _⟩
  have i1 : (0 : Int) ≤ i := by omega
  have i2 : (i : Int) < m.fr.length := by omega
  have tb := h.tag
  have tf := h.frTag
  have lb : b < w.heap.size := World.block_lt_of_cell? w _ k5
  have lf : gf < w.heap.size := World.block_lt_of_cell? w _ t0
  have n1 : b ≠ w.heap.size := by omega
  have n3 : gf ≠ w.heap.size := by omega
  have m1 : w.heap.size ≠ b := by omega
  have m3 : w.heap.size ≠ gf := by omega
  have hs2 := shade_get hf2
  obtain ⟨rv2, ha2, _⟩ := hF.get hs2
  have s0 := (hF.three ha2).1
  rw [shadow_st] at s0
  have ja1 : (0 : Int) ≤ ka := by omega
  have ja2 : (ka : Int) < m.fr.length := by omega
  rw [hs9] at s0
  have HP := Lib.hid (fun (ob : Obj) (n : Nat) => ((hD0.alloc ob).drewN n))
  clear h hf hst hm h8 hok hb hcore hcells howners hthr hF ha hs hr hD0 tb tf hf2 ha2 hs9 hs2
  go_enter Try.func34, Try.ntmps34
  go_wp2
  go_quiet (fail)
  go_wp2
  all_goals (
    go_ret2
    first
    | exact (HP.out _ _).drew.fin
    | exact (HP.out _ _).fin
    | exact (HP.out _ 0).fin
    | exact ((HP.out _ _).drewN _).fin
    | exact ((HP.out _ _).drew.drewN _).fin
    | exact ((HP.out _ _).drewN _).drew.fin
    | exact ((HP.out _ 0).drewN _).fin
    | exact ((HP.out _ 0).drew).fin
    | exact ((HP.out _ 0).drew.drewN _).fin)

set_option maxRecDepth 8000 in
set_option maxHeartbeats 2000000 in
theorem rds_join (w : World) (T : Tags) (id b gf cf : Nat) (x : Img) (m : Mach) (i : Nat) (f : Fr) (h : RmAt w T id b gf cf x m) (hf : m.fr[i]? = some f) (hst : f.st = 2) (hm : MOk x m) (h8 : x.threads.length ≤ 8) (ka : Nat) (hka : ka < m.fr.length) (f2 : Fr) (hf2 : m.fr[ka]? = some f2) (b1 c : Int) (hs9 : f2.st ≠ 1) :
    Calls Try.prog 34 #[.pointer (some ⟨b, 0, none⟩), .int .i64 i, .agg #[.int .i64 27, .int .i64 ka, .int .i64 b1, .int .i64 c]] w (RDoesEnd w T id b gf cf x m 0 0) := by
  have hok := hm.each i f hf
  have hi : i < m.fr.length := (List.getElem?_eq_some_iff.1 hf).1
  have h8' : m.fr.length ≤ 8 := by rw [hm.len]; exact h8
  obtain ⟨xc, xt, cv, ov, hb, hcore, hthr⟩ := h.ex
  have hcells : IRow w T id .cells cv m.cells := hcore.cells
  have howners : IRow w T id .owners ov m.owners := hcore.owners
  obtain ⟨H, hF⟩ := hcore.frames
  have hs := shade_get hf
  rw [shadow_run (by rw [hst]; decide)] at hs
  obtain ⟨rv, ha, hr⟩ := hF.get hs
  have k3 := hb.cell (k := 3) (v := cv) rfl
  have k4 := hb.cell (k := 4) (v := ov) rfl
  have k5 := hb.cell (k := 5) (v := .slice (some ⟨gf, 0, none⟩) m.fr.length cf) rfl
  obtain ⟨t0, t1, t2⟩ := hF.three ha
  have hD0 : RP w T id b gf cf x i cv ov rv m w := ⟨h, k3, k4, t1, Keeps.refl _ _⟩
  have i1 : (0 : Int) ≤ i := by omega
  have i2 : (i : Int) < m.fr.length := by omega
  have tb := h.tag
  have tf := h.frTag
  have lb : b < w.heap.size := World.block_lt_of_cell? w _ k5
  have lf : gf < w.heap.size := World.block_lt_of_cell? w _ t0
  have n1 : b ≠ w.heap.size := by omega
  have n3 : gf ≠ w.heap.size := by omega
  have m1 : w.heap.size ≠ b := by omega
  have m3 : w.heap.size ≠ gf := by omega
  have hs2 := shade_get hf2
  obtain ⟨rv2, ha2, _⟩ := hF.get hs2
  have s0 := (hF.three ha2).1
  rw [shadow_st] at s0
  have ja1 : (0 : Int) ≤ ka := by omega
  have ja2 : (ka : Int) < m.fr.length := by omega
  have e1 : (f2.st == 1) = false := by rw [beq_eq_false_iff_ne]; exact hs9
  have HP := Lib.hid (fun (ob : Obj) (n : Nat) => ((hD0.alloc ob).drewN n))
  clear h hf hst hm h8 hok hb hcore hcells howners hthr hF ha hs hr hD0 tb tf hf2 ha2 hs9 hs2
  go_enter Try.func34, Try.ntmps34
  go_wp2
  go_quiet (fail)
  go_wp2
  all_goals (
    go_ret2
    first
    | exact (HP.out _ _).drew.fin
    | exact (HP.out _ _).fin
    | exact (HP.out _ 0).fin
    | exact ((HP.out _ _).drewN _).fin
    | exact ((HP.out _ _).drew.drewN _).fin
    | exact ((HP.out _ _).drewN _).drew.fin
    | exact ((HP.out _ 0).drewN _).fin
    | exact ((HP.out _ 0).drew).fin
    | exact ((HP.out _ 0).drew.drewN _).fin)

set_option maxRecDepth 8000 in
set_option maxHeartbeats 2000000 in
theorem rds_assert1 (w : World) (T : Tags) (id b gf cf : Nat) (x : Img) (m : Mach) (i : Nat) (f : Fr) (h : RmAt w T id b gf cf x m) (hf : m.fr[i]? = some f) (hst : f.st = 2) (hm : MOk x m) (h8 : x.threads.length ≤ 8) (ka : Nat) (hka : ka < f.regs.length) (b1 c : Int) (hz : f.regs.getD ka 0 = 0) :
    Calls Try.prog 34 #[.pointer (some ⟨b, 0, none⟩), .int .i64 i, .agg #[.int .i64 28, .int .i64 ka, .int .i64 b1, .int .i64 c]] w (RDoesEnd w T id b gf cf x m 0 1) := by
  have hok := hm.each i f hf
  have hi : i < m.fr.length := (List.getElem?_eq_some_iff.1 hf).1
  have h8' : m.fr.length ≤ 8 := by rw [hm.len]; exact h8
  obtain ⟨xc, xt, cv, ov, hb, hcore, hthr⟩ := h.ex
  have hcells : IRow w T id .cells cv m.cells := hcore.cells
  have howners : IRow w T id .owners ov m.owners := hcore.owners
  obtain ⟨H, hF⟩ := hcore.frames
  have hs := shade_get hf
  rw [shadow_run (by rw [hst]; decide)] at hs
  obtain ⟨rv, ha, hr⟩ := hF.get hs
  have k3 := hb.cell (k := 3) (v := cv) rfl
  have k4 := hb.cell (k := 4) (v := ov) rfl
  have k5 := hb.cell (k := 5) (v := .slice (some ⟨gf, 0, none⟩) m.fr.length cf) rfl
  obtain ⟨t0, t1, t2⟩ := hF.three ha
  have hD0 : RP w T id b gf cf x i cv ov rv m w := ⟨h, k3, k4, t1, Keeps.refl _ _⟩
  have i1 : (0 : Int) ≤ i := by omega
  have i2 : (i : Int) < m.fr.length := by omega
  have tb := h.tag
  have tf := h.frTag
  have lb : b < w.heap.size := World.block_lt_of_cell? w _ k5
  have lf : gf < w.heap.size := World.block_lt_of_cell? w _ t0
  have n1 : b ≠ w.heap.size := by omega
  have n3 : gf ≠ w.heap.size := by omega
  have m1 : w.heap.size ≠ b := by omega
  have m3 : w.heap.size ≠ gf := by omega
  obtain ⟨gr, cr, er, tr, hrow⟩ := hr.at hka
  subst er
  have ra := hrow.cell (ints_get f.regs ka hka)
  have j1a : (0 : Int) ≤ ka := by omega
  have j2a : (ka : Int) < f.regs.length := by omega
  have lgr : gr < w.heap.size := World.block_lt_of_cell? w _ ra
  have p1gr : gr ≠ w.heap.size := by omega
  have p2gr : w.heap.size ≠ gr := by omega
  have p5gr : gr ≠ b := fun e => by rw [e, tb] at tr; simp at tr
  have p6gr : b ≠ gr := fun e => p5gr e.symm
  have p7gr : gr ≠ gf := fun e => by rw [e, tf] at tr; simp at tr
  have p8gr : gf ≠ gr := fun e => p7gr e.symm
  rw [hz] at ra
  have HP := Lib.hid (fun (ob : Obj) (n : Nat) => ((hD0.alloc ob).drewN n))
  clear h hf hst hm h8 hok hb hcore hcells howners hthr hF ha hs hr hD0 tb tf hrow hz
  go_enter Try.func34, Try.ntmps34
  go_wp2
  go_quiet (fail)
  go_wp2
  all_goals (
    go_ret2
    first
    | exact (HP.out _ _).drew.fin
    | exact (HP.out _ _).fin
    | exact (HP.out _ 0).fin
    | exact ((HP.out _ _).drewN _).fin
    | exact ((HP.out _ _).drew.drewN _).fin
    | exact ((HP.out _ _).drewN _).drew.fin
    | exact ((HP.out _ 0).drewN _).fin
    | exact ((HP.out _ 0).drew).fin
    | exact ((HP.out _ 0).drew.drewN _).fin)

set_option maxRecDepth 8000 in
set_option maxHeartbeats 2000000 in
theorem rds_assert (w : World) (T : Tags) (id b gf cf : Nat) (x : Img) (m : Mach) (i : Nat) (f : Fr) (h : RmAt w T id b gf cf x m) (hf : m.fr[i]? = some f) (hst : f.st = 2) (hm : MOk x m) (h8 : x.threads.length ≤ 8) (ka : Nat) (hka : ka < f.regs.length) (b1 c : Int) (hz : f.regs.getD ka 0 ≠ 0) :
    Calls Try.prog 34 #[.pointer (some ⟨b, 0, none⟩), .int .i64 i, .agg #[.int .i64 28, .int .i64 ka, .int .i64 b1, .int .i64 c]] w (RDoesEnd w T id b gf cf x m (f.regs.getD ka 0) 0) := by
  have hok := hm.each i f hf
  have hi : i < m.fr.length := (List.getElem?_eq_some_iff.1 hf).1
  have h8' : m.fr.length ≤ 8 := by rw [hm.len]; exact h8
  obtain ⟨xc, xt, cv, ov, hb, hcore, hthr⟩ := h.ex
  have hcells : IRow w T id .cells cv m.cells := hcore.cells
  have howners : IRow w T id .owners ov m.owners := hcore.owners
  obtain ⟨H, hF⟩ := hcore.frames
  have hs := shade_get hf
  rw [shadow_run (by rw [hst]; decide)] at hs
  obtain ⟨rv, ha, hr⟩ := hF.get hs
  have k3 := hb.cell (k := 3) (v := cv) rfl
  have k4 := hb.cell (k := 4) (v := ov) rfl
  have k5 := hb.cell (k := 5) (v := .slice (some ⟨gf, 0, none⟩) m.fr.length cf) rfl
  obtain ⟨t0, t1, t2⟩ := hF.three ha
  have hD0 : RP w T id b gf cf x i cv ov rv m w := ⟨h, k3, k4, t1, Keeps.refl _ _⟩
  have i1 : (0 : Int) ≤ i := by omega
  have i2 : (i : Int) < m.fr.length := by omega
  have tb := h.tag
  have tf := h.frTag
  have lb : b < w.heap.size := World.block_lt_of_cell? w _ k5
  have lf : gf < w.heap.size := World.block_lt_of_cell? w _ t0
  have n1 : b ≠ w.heap.size := by omega
  have n3 : gf ≠ w.heap.size := by omega
  have m1 : w.heap.size ≠ b := by omega
  have m3 : w.heap.size ≠ gf := by omega
  obtain ⟨gr, cr, er, tr, hrow⟩ := hr.at hka
  subst er
  have ra := hrow.cell (ints_get f.regs ka hka)
  have j1a : (0 : Int) ≤ ka := by omega
  have j2a : (ka : Int) < f.regs.length := by omega
  have lgr : gr < w.heap.size := World.block_lt_of_cell? w _ ra
  have p1gr : gr ≠ w.heap.size := by omega
  have p2gr : w.heap.size ≠ gr := by omega
  have p5gr : gr ≠ b := fun e => by rw [e, tb] at tr; simp at tr
  have p6gr : b ≠ gr := fun e => p5gr e.symm
  have p7gr : gr ≠ gf := fun e => by rw [e, tf] at tr; simp at tr
  have p8gr : gf ≠ gr := fun e => p7gr e.symm
  have e1 : (f.regs.getD ka 0 == 0) = false := by rw [beq_eq_false_iff_ne]; exact hz
  have HP := Lib.hid (fun (ob : Obj) (n : Nat) => ((hD0.alloc ob).drewN n))
  generalize f.regs.getD ka 0 = vr at *
  clear h hf hst hm h8 hok hb hcore hcells howners hthr hF ha hs hr hD0 tb tf hrow hz
  go_enter Try.func34, Try.ntmps34
  go_wp2
  go_quiet (fail)
  go_wp2
  all_goals go_quiet (fail)
  all_goals go_wp2
  all_goals (
    go_ret2
    first
    | exact (HP.out _ _).drew.fin
    | exact (HP.out _ _).fin
    | exact (HP.out _ 0).fin
    | exact ((HP.out _ _).drewN _).fin
    | exact ((HP.out _ _).drew.drewN _).fin
    | exact ((HP.out _ _).drewN _).drew.fin
    | exact ((HP.out _ 0).drewN _).fin
    | exact ((HP.out _ 0).drew).fin
    | exact ((HP.out _ 0).drew.drewN _).fin)

set_option maxRecDepth 8000 in
set_option maxHeartbeats 2000000 in
theorem rds_start (w : World) (T : Tags) (id b gf cf : Nat) (x : Img) (m : Mach) (i : Nat) (f : Fr) (h : RmAt w T id b gf cf x m) (hf : m.fr[i]? = some f) (hst : f.st = 2) (hm : MOk x m) (h8 : x.threads.length ≤ 8) (ka : Nat) (hka : ka < m.fr.length) (f2 : Fr) (hf2 : m.fr[ka]? = some f2) (b1 c : Int) (hs9 : f2.st = 1) (hg : VGood x m) (hz : VZero x m) :
    Calls Try.prog 34 #[.pointer (some ⟨b, 0, none⟩), .int .i64 i, .agg #[.int .i64 26, .int .i64 ka, .int .i64 b1, .int .i64 c]] w (RDoesEnd w T id b gf cf x (beginN x m ka) 0 0) := by
  have hok := hm.each i f hf
  have hi : i < m.fr.length := (List.getElem?_eq_some_iff.1 hf).1
  have h8' : m.fr.length ≤ 8 := by rw [hm.len]; exact h8
  obtain ⟨xc, xt, cv, ov, hb, hcore, hthr⟩ := h.ex
  have hcells : IRow w T id .cells cv m.cells := hcore.cells
  have howners : IRow w T id .owners ov m.owners := hcore.owners
  obtain ⟨H, hF⟩ := hcore.frames
  have hs := shade_get hf
  rw [shadow_run (by rw [hst]; decide)] at hs
  obtain ⟨rv, ha, hr⟩ := hF.get hs
  have k3 := hb.cell (k := 3) (v := cv) rfl
  have k4 := hb.cell (k := 4) (v := ov) rfl
  have k5 := hb.cell (k := 5) (v := .slice (some ⟨gf, 0, none⟩) m.fr.length cf) rfl
  obtain ⟨t0, t1, t2⟩ := hF.three ha
  have hD0 : RP w T id b gf cf x i cv ov rv m w := ⟨h, k3, k4, t1, Keeps.refl _ _⟩
  have i1 : (0 : Int) ≤ i := by omega
  have i2 : (i : Int) < m.fr.length := by omega
  have tb := h.tag
  have tf := h.frTag
  have lb : b < w.heap.size := World.block_lt_of_cell? w _ k5
  have lf : gf < w.heap.size := World.block_lt_of_cell? w _ t0
  have n1 : b ≠ w.heap.size := by omega
  have n3 : gf ≠ w.heap.size := by omega
  have m1 : w.heap.size ≠ b := by omega
  have m3 : w.heap.size ≠ gf := by omega
  have hs2 := shade_get hf2
  obtain ⟨rv2, ha2, _⟩ := hF.get hs2
  have s0 := (hF.three ha2).1
  rw [shadow_st] at s0
  have ja1 : (0 : Int) ≤ ka := by omega
  have ja2 : (ka : Int) < m.fr.length := by omega
  rw [hs9] at s0
  have HB : Hid (∀ W : World, Keeps NoBlk w W → Calls Try.prog 19 #[.pointer (some ⟨b, 0, none⟩), .int .i64 ka] W fun e w2 => e = .returned (.tuple #[]) ∧ RDoesEnd w T id b gf cf x (beginN x m ka) 0 0 (.returned (.tuple #[.int .i64 0, .int .i64 0])) w2) := fun W hk =>
    (rbegin_any W T id b gf cf ka x m f2 (h.keeps hk (fun _ _ h => h)) hf2 hs9 hg hz).mono (fun e w2 ⟨h1, T', h2, h3, h4⟩ => ⟨h1, rfl, T', ⟨h2.1, fun k y e => (h2.2 k y e).imp_right (fun h' => ⟨Nat.le_trans hk.size h'.1, h'.2⟩)⟩, h3, (hk.mono (fun _ _ h => h.elim)).trans h4 (fun _ _ h => h)⟩)
  clear h hf hst hm h8 hok hb hcore hcells howners hthr hF ha hs hr hD0 tb tf hf2 ha2 hs9 hs2 hg hz
  go_enter Try.func34, Try.ntmps34
  go_wp2
  go_quiet (fail)
  go_wp2_with fail
  refine (HB.out _ (by repeat (first | exact Keeps.refl _ _ | apply Keeps.drew | apply Keeps.drewN | apply Keeps.alloc))).mono ?_
  rintro e w2 ⟨rfl, h9⟩
  have hfin := Lib.hid h9
  clear h9
  go_wp2
  go_ret2
  exact hfin.out

end Go.Proofs.Ytmkfpkficmmlgaa
