/- Package vm: begin, action. -/
import Derived.Test.YtmkfpkficmmlgaaK06
namespace Go.Proofs.Ytmkfpkficmmlgaa
open Go.RowKit
set_option linter.unusedVariables false
set_option linter.unusedSimpArgs false
set_option linter.unnecessarySimpa false

/-- each thread that runs stands ahead of a step -/
def Stands (x : Img) (m : Mach) : Prop := ∀ i f, m.fr[i]? = some f → f.st = 2 → stepsN ((x.cod i).at f.at_).op = true

set_option maxRecDepth 8000 in
set_option maxHeartbeats 1000000 in
theorem vbegin_any (w : World) (T : Tags) (id b gf cf i : Nat) (x : Img) (m : Mach) (f : Fr) (h : VmAt w T id b gf cf x m) (hf : m.fr[i]? = some f) (hx : i < x.threads.length) (h8 : x.threads.length ≤ 8) (hl : m.fr.length = x.threads.length)
    (hc : codN x (x.cod i) = true) (hok : FrOk (x.cod i) f) :
    Calls Try.prog 24 #[.pointer (some ⟨b, 0, none⟩), .int .i64 i] w fun e w' => e = .returned (.tuple #[]) ∧ VmAt w' T id b gf cf x (beginN x m i) ∧ Keeps (Own T id) w w' := by
  obtain ⟨H, gd, cd, gi, oi, ci, rv, hF, ha, k2, k3, u1, c0, c1, c2, c3, t0, t2, ff⟩ := h.view hf hx hok.at_
  have i1 : (0 : Int) ≤ i := by omega
  have i2 : (i : Int) < x.threads.length := by omega
  have i2' : (i : Int) < m.fr.length := by omega
  have hi : i < m.fr.length := (List.getElem?_eq_some_iff.1 hf).1
  have h5 := hF.setSt ha hf 2
  have h6 := h.frames (i := i) ((Keeps.refl _ w).setCell (p := ⟨gf, i * 3, none⟩) (fun _ => .inl rfl) _) h5 (by simp)
  have hk6 : Keeps (Own T id) w (w.setCell ⟨gf, i * 3, none⟩ (.int .i64 2)) := (Keeps.refl _ w).setCell (p := ⟨gf, i * 3, none⟩) (fun _ => ⟨_, hF.tag, by simp⟩) _
  have hl6 := vlocal_any _ T id b gf cf i x (m.setFr i { f with st := 2 }) { f with st := 2 } h6 (List.getElem?_set_self hi) hx h8 (by simp [Mach.setFr]; exact hl) hc ⟨hok.regs, hok.at_⟩
  rw [Mach.setFr_set] at hl6
  have e9 : beginN x m i = m.setFr i (localF (x.cod i) 100000 { f with st := 2 }) := by
    unfold beginN Mach.get
    rw [show m.fr.getD i Fr.zero = f by simp [List.getD, hf]]
  rw [← e9] at hl6
  have HL := Lib.hid hl6
  have HK := Lib.hid hk6
  clear h hf hx hc hok hF ha c0 c1 c2 c3 t2 h5 h6 hl6 hk6 e9 u1 k2
  go_enter Try.func24, Try.ntmps24
  go_wp2_with (go_at_call 39; refine HL.out.mono ?_; rintro e w' ⟨rfl, h1, h2⟩; have H1 := Lib.hid h1; have H2 := Lib.hid h2; clear h1 h2)
  refine Great.bodyPost_end0 (by rfl) (by rfl) ?_
  exact ⟨rfl, H1.out, HK.out.trans H2.out (fun _ _ h => h)⟩

/-- an action as a value -/
def actV (a : Int × Int) : Value := .agg #[.int .i64 a.1, .int .i64 a.2]
section
variable (w : World) (b gf cf n : Nat) (i : Nat) (st : Int) (ad : Option Addr) (nr cr : Nat) (a_ : Nat)
set_option maxRecDepth 8000 in
set_option maxHeartbeats 1000000 in
theorem vaction_idle (hne : st ≠ 2) (hi : i < n) (hn : n ≤ 8)
    (k3 : w.cell? ⟨b, 3, none⟩ = some (.slice (some ⟨gf, 0, none⟩) n cf)) (t0 : w.cell? ⟨gf, i * 3, none⟩ = some (.int .i64 st)) (t1 : w.cell? ⟨gf, i * 3 + 1, none⟩ = some (.slice ad nr cr)) (t2 : w.cell? ⟨gf, i * 3 + 2, none⟩ = some (.int .i64 a_)) :
    Calls Try.prog 37 #[.pointer (some ⟨b, 0, none⟩), .int .i64 i] w fun e w' => e = .returned (actV (0, 0)) ∧ Keeps NoBlk w w' := by
  have i1 : (0 : Int) ≤ i := by omega
  have i2 : (i : Int) < n := by omega
  have e1 : (st != 2) = true := by rw [bne_iff_ne]; exact hne
  have qb : b < w.heap.size := World.block_lt_of_cell? w _ k3
  have qf : gf < w.heap.size := World.block_lt_of_cell? w _ t0
  have q1 : b ≠ w.heap.size := by omega
  have q2 : gf ≠ w.heap.size := by omega
  go_enter Try.func37, Try.ntmps37
  go_wp2
  refine bodyPost_ret (v := .agg #[.int .i64 0, .int .i64 0]) (by simp [results, Try.results37, go_sem]) rfl ⟨rfl, ?_⟩
  repeat (first | exact Keeps.refl _ _ | apply Keeps.drew | apply Keeps.drewN | apply Keeps.alloc)
set_option maxRecDepth 8000 in
set_option maxHeartbeats 2000000 in
theorem vaction_run (op ia ib ic : Int) (gd cd gi oi ci nc : Nat) (hop : op = 21 ∨ op = 22 ∨ op = 23 ∨ op = 24 ∨ op = 25 ∨ op = 26 ∨ op = 27 ∨ op = 28 ∨ op = 29) (hi : i < n) (hn : n ≤ 8) (hat : a_ < nc) (hnc : nc ≤ 4000)
    (k2 : w.cell? ⟨b, 2, none⟩ = some (.slice (some ⟨gd, 0, none⟩) n cd)) (k3 : w.cell? ⟨b, 3, none⟩ = some (.slice (some ⟨gf, 0, none⟩) n cf)) (t0 : w.cell? ⟨gf, i * 3, none⟩ = some (.int .i64 2)) (t1 : w.cell? ⟨gf, i * 3 + 1, none⟩ = some (.slice ad nr cr)) (t2 : w.cell? ⟨gf, i * 3 + 2, none⟩ = some (.int .i64 a_))
    (u1 : w.cell? ⟨gd, i, none⟩ = some (.slice (some ⟨gi, oi, none⟩) nc ci)) (c0 : w.cell? ⟨gi, oi + a_ * 4, none⟩ = some (.int .i64 op)) (c1 : w.cell? ⟨gi, oi + a_ * 4 + 1, none⟩ = some (.int .i64 ia)) (c2 : w.cell? ⟨gi, oi + a_ * 4 + 2, none⟩ = some (.int .i64 ib)) (c3 : w.cell? ⟨gi, oi + a_ * 4 + 3, none⟩ = some (.int .i64 ic)) :
    Calls Try.prog 37 #[.pointer (some ⟨b, 0, none⟩), .int .i64 i] w fun e w' => e = .returned (actV (op - 20, if op = 21 ∨ op = 23 then ib else if op = 28 then 0 else if op = 29 then i else ia)) ∧ Keeps NoBlk w w' := by
  have i1 : (0 : Int) ≤ i := by omega
  have i2 : (i : Int) < n := by omega
  have j1 : (0 : Int) ≤ a_ := by omega
  have j2 : (a_ : Int) < nc := by omega
  have qb : b < w.heap.size := World.block_lt_of_cell? w _ k3
  have qf : gf < w.heap.size := World.block_lt_of_cell? w _ t0
  have qd : gd < w.heap.size := World.block_lt_of_cell? w _ u1
  have qi : gi < w.heap.size := World.block_lt_of_cell? w _ c0
  have q1 : b ≠ w.heap.size := by omega
  have q2 : gf ≠ w.heap.size := by omega
  have q3 : gd ≠ w.heap.size := by omega
  have q4 : gi ≠ w.heap.size := by omega
  have p1 : b ≠ w.heap.size + 1 := by omega
  have p2 : gf ≠ w.heap.size + 1 := by omega
  have p3 : gd ≠ w.heap.size + 1 := by omega
  have p4 : gi ≠ w.heap.size + 1 := by omega
  have s1 : b ≠ w.heap.size + 2 := by omega
  have s2 : gf ≠ w.heap.size + 2 := by omega
  have s3 : gd ≠ w.heap.size + 2 := by omega
  have s4 : gi ≠ w.heap.size + 2 := by omega
  clear p1 p2 p3 p4 s1 s2 s3 s4
  rcases hop with rfl | rfl | rfl | rfl | rfl | rfl | rfl | rfl | rfl
  all_goals (
    go_enter Try.func37, Try.ntmps37
    go_upto_region 4 with fail
    obtain ⟨W, hW⟩ : ∃ W, W = (w.alloc (.cells #[.int .i64 0, .int .i64 0] 75)).alloc (.cells #[.int .i64 2, .slice ad nr cr, .int .i64 a_] 71) := ⟨_, rfl⟩
    have KW : Keeps NoBlk w W := by rw [hW]; exact ((Keeps.refl _ w).alloc _).alloc _
    have hy : W.heap[w.heap.size + 1]? = some (.cells #[.int .i64 2, .slice ad nr cr, .int .i64 a_] 71 (0, 0)) := by rw [hW]; exact heap_alloc2 w _ _
    have hz : W.heap[w.heap.size]? = some (.cells #[.int .i64 0, .int .i64 0] 75 (0, 0)) := by rw [hW]; exact (Below.heap_alloc _ _ _ (by simp)).trans (heap_alloc_new w _)
    have hsz : W.heap.size = w.heap.size + 2 := by rw [hW]; simp
    rw [← hW]
    have HK := Lib.hid KW
    have k2 := KW.cell (p := ⟨b, 2, none⟩) (fun h => h) k2
    have u1 := KW.cell (p := ⟨gd, i, none⟩) (fun h => h) u1
    have c0 := KW.cell (p := ⟨gi, oi + a_ * 4, none⟩) (fun h => h) c0
    have c1 := KW.cell (p := ⟨gi, oi + a_ * 4 + 1, none⟩) (fun h => h) c1
    have c2 := KW.cell (p := ⟨gi, oi + a_ * 4 + 2, none⟩) (fun h => h) c2
    have c3 := KW.cell (p := ⟨gi, oi + a_ * 4 + 3, none⟩) (fun h => h) c3
    have y2 : W.cell? ⟨w.heap.size + 1, 2, none⟩ = some (.int .i64 a_) := cell_of_row W _ 2 _ _ _ hy
    have z0 : W.cell? ⟨w.heap.size, 0, none⟩ = some (.int .i64 0) := cell_of_row W _ 0 _ _ _ hz
    have z1 : W.cell? ⟨w.heap.size, 1, none⟩ = some (.int .i64 0) := cell_of_row W _ 1 _ _ _ hz
    have zf0 : W.frozen? ⟨w.heap.size, 0, none⟩ = false := frozen_of_row W _ _ _ _ hz
    have zf1 : W.frozen? ⟨w.heap.size, 1, none⟩ = false := frozen_of_row W _ _ _ _ hz
    obtain ⟨y, hy0⟩ : ∃ y, y = w.heap.size + 1 := ⟨_, rfl⟩
    obtain ⟨z, hz0⟩ : ∃ z, z = w.heap.size := ⟨_, rfl⟩
    have HZ := Lib.hid hz0
    rw [← hy0] at y2 ⊢
    rw [← hz0] at z0 z1 zf0 zf1 ⊢
    have q1 : b ≠ W.heap.size := by omega
    have q2 : gf ≠ W.heap.size := by omega
    have q3 : gd ≠ W.heap.size := by omega
    have q4 : gi ≠ W.heap.size := by omega
    have q5 : y ≠ W.heap.size := by omega
    have q6 : z ≠ W.heap.size := by omega
    have q7 : W.heap.size ≠ z := by omega
    have l1 : b < W.heap.size := by omega
    have l2 : gf < W.heap.size := by omega
    have l3 : gd < W.heap.size := by omega
    have l4 : gi < W.heap.size := by omega
    have l5 : y < W.heap.size := by omega
    have l6 : z < W.heap.size := by omega
    have fz0 : ∀ (u0 u1 : Value) (o : Obj), (((W.setCell ⟨z, 0, none⟩ u0).setCell ⟨z, 1, none⟩ u1).alloc o).cell? ⟨z, 0, none⟩ = some u0 := fun u0 u1 o => by
      rw [World.cell?_of_block (Below.heap_alloc _ _ _ (by simp [World.setCell]; omega)), World.cell?_setCell_other _ _ _ _ (by simp)]
      exact World.cell?_setCell_same _ _ _ z0
    have fz1 : ∀ (u0 u1 : Value) (o : Obj), (((W.setCell ⟨z, 0, none⟩ u0).setCell ⟨z, 1, none⟩ u1).alloc o).cell? ⟨z, 1, none⟩ = some u1 := fun u0 u1 o => by
      rw [World.cell?_of_block (Below.heap_alloc _ _ _ (by simp [World.setCell]; omega))]
      exact World.cell?_setCell_same _ _ _ ((World.cell?_setCell_other _ _ _ _ (by simp)).trans z1)
    have FZ0 := Lib.hid fz0
    have FZ1 := Lib.hid fz1
    clear k3 t0 t1 t2 hy hz hW KW hy0 hz0 hsz qb qf qd qi fz0 fz1
    go_region
    all_goals go_wp2
    all_goals (
      first
      | refine bodyPost_ret (v := .agg #[.int .i64 1, .int .i64 ib]) (by simp [results, Try.results37, go_sem, FZ0.out, FZ1.out]) rfl ⟨rfl, ?_⟩
      | refine bodyPost_ret (v := .agg #[.int .i64 2, .int .i64 ia]) (by simp [results, Try.results37, go_sem, FZ0.out, FZ1.out]) rfl ⟨rfl, ?_⟩
      | refine bodyPost_ret (v := .agg #[.int .i64 3, .int .i64 ib]) (by simp [results, Try.results37, go_sem, FZ0.out, FZ1.out]) rfl ⟨rfl, ?_⟩
      | refine bodyPost_ret (v := .agg #[.int .i64 4, .int .i64 ia]) (by simp [results, Try.results37, go_sem, FZ0.out, FZ1.out]) rfl ⟨rfl, ?_⟩
      | refine bodyPost_ret (v := .agg #[.int .i64 5, .int .i64 ia]) (by simp [results, Try.results37, go_sem, FZ0.out, FZ1.out]) rfl ⟨rfl, ?_⟩
      | refine bodyPost_ret (v := .agg #[.int .i64 6, .int .i64 ia]) (by simp [results, Try.results37, go_sem, FZ0.out, FZ1.out]) rfl ⟨rfl, ?_⟩
      | refine bodyPost_ret (v := .agg #[.int .i64 7, .int .i64 ia]) (by simp [results, Try.results37, go_sem, FZ0.out, FZ1.out]) rfl ⟨rfl, ?_⟩
      | refine bodyPost_ret (v := .agg #[.int .i64 8, .int .i64 0]) (by simp [results, Try.results37, go_sem, FZ0.out, FZ1.out]) rfl ⟨rfl, ?_⟩
      | refine bodyPost_ret (v := .agg #[.int .i64 9, .int .i64 i]) (by simp [results, Try.results37, go_sem, FZ0.out, FZ1.out]) rfl ⟨rfl, ?_⟩
      repeat (first | exact HK.out | apply Keeps.drew | apply Keeps.drewN | apply Keeps.alloc | (refine Keeps.setCell ?_ (fun h => absurd h (by rw [HZ.out]; exact Nat.lt_irrefl _)) _))))
end

theorem steps_nine {op : Int} (h : stepsN op = true) : op = 21 ∨ op = 22 ∨ op = 23 ∨ op = 24 ∨ op = 25 ∨ op = 26 ∨ op = 27 ∨ op = 28 ∨ op = 29 := by
  simp [stepsN] at h
  omega
theorem vaction_any (w : World) (T : Tags) (id b gf cf i : Nat) (x : Img) (m : Mach) (f : Fr) (h : VmAt w T id b gf cf x m) (hf : m.fr[i]? = some f) (h8 : x.threads.length ≤ 8) (hm : MOk x m) (hs : Stands x m) (hc : codN x (x.cod i) = true) :
    Calls Try.prog 37 #[.pointer (some ⟨b, 0, none⟩), .int .i64 i] w fun e w' => e = .returned (actV (actN x m i)) ∧ Keeps NoBlk w w' := by
  have hi : i < m.fr.length := (List.getElem?_eq_some_iff.1 hf).1
  have hx : i < x.threads.length := by rw [← hm.len]; exact hi
  have hok := hm.each i f hf
  obtain ⟨H, gd, cd, gi, oi, ci, rv, hF, ha, k2, k3, u1, c0, c1, c2, c3, t0, t2, ff⟩ := h.view hf hx hok.at_
  have t1 := (hF.three ha).2.1
  obtain ⟨ad, cr, rfl, _⟩ := (hF.each i _ f ha hf).2.2
  have hg : m.get i = f := by simp [Mach.get, List.getD, hf]
  rw [hm.len] at k3
  by_cases h2 : f.st = 2
  · have hop := hs i f hf h2
    have e : actN x m i = (((x.cod i).at f.at_).op - 20, if ((x.cod i).at f.at_).op = 21 ∨ ((x.cod i).at f.at_).op = 23 then ((x.cod i).at f.at_).b else if ((x.cod i).at f.at_).op = 28 then 0 else if ((x.cod i).at f.at_).op = 29 then i else ((x.cod i).at f.at_).a) := by
      unfold actN
      simp only [hg, h2]
      simp
    rw [e]
    rw [h2] at t0
    exact vaction_run w b gf cf x.threads.length i ad _ cr f.at_ _ _ _ _ gd cd gi oi ci _ (steps_nine hop) hx h8 hok.at_ (codN_parts hc).2.1.2 k2 k3 t0 t1 t2 u1 c0 c1 c2 c3
  · have e : actN x m i = (0, 0) := by
      unfold actN
      simp only [hg]
      simp [h2]
    rw [e]
    exact vaction_idle w b gf cf x.threads.length i f.st ad _ cr f.at_ h2 hx h8 k3 t0 t1 t2
end Go.Proofs.Ytmkfpkficmmlgaa
