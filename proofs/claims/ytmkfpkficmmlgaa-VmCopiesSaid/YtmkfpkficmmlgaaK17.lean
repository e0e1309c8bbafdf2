/- The document's machine: action, enabled. -/
import Derived.Test.YtmkfpkficmmlgaaK16
namespace Go.Proofs.Ytmkfpkficmmlgaa
open Go.RowKit
set_option linter.unusedVariables false
set_option linter.unusedSimpArgs false
set_option linter.unnecessarySimpa false

section
variable (w : World) (b gf cf n : Nat) (i : Nat) (st : Int)
set_option maxRecDepth 8000 in
set_option maxHeartbeats 1000000 in
theorem raction_idle (hne : st ≠ 2) (hi : i < n) (hn : n ≤ 8) (k5 : w.cell? ⟨b, 5, none⟩ = some (.slice (some ⟨gf, 0, none⟩) n cf)) (t0 : w.cell? ⟨gf, i * 3, none⟩ = some (.int .i64 st)) :
    Calls Try.prog 32 #[.pointer (some ⟨b, 0, none⟩), .int .i64 i] w fun e w' => e = .returned (actV (0, 0)) ∧ Keeps NoBlk w w' := by
  have i1 : (0 : Int) ≤ i := by omega
  have i2 : (i : Int) < n := by omega
  have e1 : (st != 2) = true := by rw [bne_iff_ne]; exact hne
  have qb : b < w.heap.size := World.block_lt_of_cell? w _ k5
  have qf : gf < w.heap.size := World.block_lt_of_cell? w _ t0
  have q1 : b ≠ w.heap.size := by omega
  have q2 : gf ≠ w.heap.size := by omega
  go_enter Try.func32, Try.ntmps32
  go_wp2
  refine bodyPost_ret (v := .agg #[.int .i64 0, .int .i64 0]) (by simp [results, Try.results32, go_sem]) rfl ⟨rfl, ?_⟩
  repeat (first | exact Keeps.refl _ _ | apply Keeps.drew | apply Keeps.drewN | apply Keeps.alloc)
set_option maxRecDepth 8000 in
set_option maxHeartbeats 2000000 in
theorem raction_run (op ia ib ic : Int) (hop : op = 21 ∨ op = 22 ∨ op = 23 ∨ op = 24 ∨ op = 25 ∨ op = 26 ∨ op = 27 ∨ op = 28 ∨ op = 29) (hi : i < n) (hn : n ≤ 8) (k5 : w.cell? ⟨b, 5, none⟩ = some (.slice (some ⟨gf, 0, none⟩) n cf)) (t0 : w.cell? ⟨gf, i * 3, none⟩ = some (.int .i64 2))
    (hnx : ∀ W, Keeps NoBlk w W → Calls Try.prog 33 #[.pointer (some ⟨b, 0, none⟩), .int .i64 i] W fun e w' => e = .returned (.agg #[.int .i64 op, .int .i64 ia, .int .i64 ib, .int .i64 ic]) ∧ Keeps NoBlk W w') :
    Calls Try.prog 32 #[.pointer (some ⟨b, 0, none⟩), .int .i64 i] w fun e w' => e = .returned (actV (op - 20, if op = 21 ∨ op = 23 then ib else if op = 28 then 0 else if op = 29 then i else ia)) ∧ Keeps NoBlk w w' := by
  have i1 : (0 : Int) ≤ i := by omega
  have i2 : (i : Int) < n := by omega
  have qb : b < w.heap.size := World.block_lt_of_cell? w _ k5
  have qf : gf < w.heap.size := World.block_lt_of_cell? w _ t0
  have q1 : b ≠ w.heap.size := by omega
  have q2 : gf ≠ w.heap.size := by omega
  have HNX := Lib.hid hnx
  clear hnx
  rcases hop with rfl | rfl | rfl | rfl | rfl | rfl | rfl | rfl | rfl
  all_goals (
    go_enter Try.func32, Try.ntmps32
    go_wp2_with fail
    refine (HNX.out _ ((Keeps.refl _ w).alloc _)).mono ?_
    rintro e w1 ⟨rfl, h1⟩
    have H1 : Hid (Keeps NoBlk w w1) := ((Keeps.refl _ w).alloc _).trans h1 (fun _ _ h => h)
    have hz := h1.heap (k := w.heap.size) (fun h => h) (heap_alloc_new w _)
    have z0 : w1.cell? ⟨w.heap.size, 0, none⟩ = some (.int .i64 0) := cell_of_row w1 _ 0 _ _ _ hz
    have z1 : w1.cell? ⟨w.heap.size, 1, none⟩ = some (.int .i64 0) := cell_of_row w1 _ 1 _ _ _ hz
    have zf0 : w1.frozen? ⟨w.heap.size, 0, none⟩ = false := frozen_of_row w1 _ _ _ _ hz
    have zf1 : w1.frozen? ⟨w.heap.size, 1, none⟩ = false := frozen_of_row w1 _ _ _ _ hz
    obtain ⟨z, hz0⟩ : ∃ z, z = w.heap.size := ⟨_, rfl⟩
    have HZ := Lib.hid hz0
    rw [← hz0] at z0 z1 zf0 zf1 ⊢
    have lz : z < w1.heap.size := World.block_lt_of_cell? w1 _ z0
    have q6 : z ≠ w1.heap.size := by omega
    have q7 : w1.heap.size ≠ z := by omega
    have q8 : z ≠ w1.heap.size + 1 := by omega
    have q9 : w1.heap.size + 1 ≠ z := by omega
    have fz0 : ∀ (u0 u1 : Value) (o1 o2 : Obj), ((((w1.setCell ⟨z, 0, none⟩ u0).setCell ⟨z, 1, none⟩ u1).alloc o1).alloc o2).cell? ⟨z, 0, none⟩ = some u0 := fun u0 u1 o1 o2 => by
      rw [World.cell?_of_block (Below.heap_alloc _ _ _ (by simp [World.setCell]; omega)), World.cell?_of_block (Below.heap_alloc _ _ _ (by simp [World.setCell]; omega)), World.cell?_setCell_other _ _ _ _ (by simp)]
      exact World.cell?_setCell_same _ _ _ z0
    have fz1 : ∀ (u0 u1 : Value) (o1 o2 : Obj), ((((w1.setCell ⟨z, 0, none⟩ u0).setCell ⟨z, 1, none⟩ u1).alloc o1).alloc o2).cell? ⟨z, 1, none⟩ = some u1 := fun u0 u1 o1 o2 => by
      rw [World.cell?_of_block (Below.heap_alloc _ _ _ (by simp [World.setCell]; omega)), World.cell?_of_block (Below.heap_alloc _ _ _ (by simp [World.setCell]; omega))]
      exact World.cell?_setCell_same _ _ _ ((World.cell?_setCell_other _ _ _ _ (by simp)).trans z1)
    have FZ0 := Lib.hid fz0
    have FZ1 := Lib.hid fz1
    clear k5 t0 hz h1 hz0 fz0 fz1 q1 q2 qb qf
    go_wp2
    first
    | refine bodyPost_ret (v := .agg #[.int .i64 1, .int .i64 ib]) (by simp [results, Try.results32, go_sem, FZ0.out, FZ1.out]) rfl ⟨rfl, ?_⟩
    | refine bodyPost_ret (v := .agg #[.int .i64 2, .int .i64 ia]) (by simp [results, Try.results32, go_sem, FZ0.out, FZ1.out]) rfl ⟨rfl, ?_⟩
    | refine bodyPost_ret (v := .agg #[.int .i64 3, .int .i64 ib]) (by simp [results, Try.results32, go_sem, FZ0.out, FZ1.out]) rfl ⟨rfl, ?_⟩
    | refine bodyPost_ret (v := .agg #[.int .i64 4, .int .i64 ia]) (by simp [results, Try.results32, go_sem, FZ0.out, FZ1.out]) rfl ⟨rfl, ?_⟩
    | refine bodyPost_ret (v := .agg #[.int .i64 5, .int .i64 ia]) (by simp [results, Try.results32, go_sem, FZ0.out, FZ1.out]) rfl ⟨rfl, ?_⟩
    | refine bodyPost_ret (v := .agg #[.int .i64 6, .int .i64 ia]) (by simp [results, Try.results32, go_sem, FZ0.out, FZ1.out]) rfl ⟨rfl, ?_⟩
    | refine bodyPost_ret (v := .agg #[.int .i64 7, .int .i64 ia]) (by simp [results, Try.results32, go_sem, FZ0.out, FZ1.out]) rfl ⟨rfl, ?_⟩
    | refine bodyPost_ret (v := .agg #[.int .i64 8, .int .i64 0]) (by simp [results, Try.results32, go_sem, FZ0.out, FZ1.out]) rfl ⟨rfl, ?_⟩
    | refine bodyPost_ret (v := .agg #[.int .i64 9, .int .i64 i]) (by simp [results, Try.results32, go_sem, FZ0.out, FZ1.out]) rfl ⟨rfl, ?_⟩
    repeat (first | exact H1.out | apply Keeps.drew | apply Keeps.drewN | apply Keeps.alloc | (refine Keeps.setCell ?_ (fun h => absurd h (by rw [HZ.out]; exact Nat.lt_irrefl _)) _)))
end

theorem RmAt.cells5 {w : World} {T : Tags} {id b gf cf : Nat} {x : Img} {m : Mach} (h : RmAt w T id b gf cf x m) {i : Nat} {f : Fr} (hf : m.fr[i]? = some f) :
    w.cell? ⟨b, 5, none⟩ = some (.slice (some ⟨gf, 0, none⟩) m.fr.length cf) ∧ w.cell? ⟨gf, i * 3, none⟩ = some (.int .i64 f.st) ∧ w.cell? ⟨gf, i * 3 + 2, none⟩ = some (.int .i64 f.at_) ∧ w.frozen? ⟨gf, i * 3, none⟩ = false ∧ w.frozen? ⟨gf, i * 3 + 2, none⟩ = false := by
  obtain ⟨xc, xt, cv, ov, h1, h2, h3⟩ := h.ex
  obtain ⟨H, hF⟩ := h2.frames
  have hs := shade_get hf
  obtain ⟨rv, ha, _⟩ := hF.get hs
  obtain ⟨t0, t1, t2⟩ := hF.three ha
  rw [shadow_st] at t0
  rw [shadow_at] at t2
  have hi := (List.getElem?_eq_some_iff.1 hs).1
  exact ⟨h1.cell (k := 5) rfl, t0, t2, hF.free hi 0 (by decide), hF.free hi 2 (by decide)⟩
theorem actN_run {x : Img} {m : Mach} {k : Nat} {f : Fr} (hf : m.fr[k]? = some f) (h2 : f.st = 2) : actN x m k = (((x.cod k).at f.at_).op - 20, if ((x.cod k).at f.at_).op = 21 ∨ ((x.cod k).at f.at_).op = 23 then ((x.cod k).at f.at_).b else if ((x.cod k).at f.at_).op = 28 then 0 else if ((x.cod k).at f.at_).op = 29 then k else ((x.cod k).at f.at_).a) := by
  have hgf : m.get k = f := by simp [Mach.get, List.getD, hf]
  unfold actN
  simp only [hgf, h2]
  simp
theorem actN_idle {x : Img} {m : Mach} {k : Nat} {f : Fr} (hf : m.fr[k]? = some f) (h2 : f.st ≠ 2) : actN x m k = (0, 0) := by
  have hgf : m.get k = f := by simp [Mach.get, List.getD, hf]
  unfold actN
  simp [hgf, h2]
theorem raction_any (w : World) (T : Tags) (id b gf cf i : Nat) (x : Img) (m : Mach) (f : Fr) (h : RmAt w T id b gf cf x m) (hf : m.fr[i]? = some f) (hg : VGood x m) :
    Calls Try.prog 32 #[.pointer (some ⟨b, 0, none⟩), .int .i64 i] w fun e w' => e = .returned (actV (actN x m i)) ∧ Keeps NoBlk w w' := by
  have hi : i < m.fr.length := (List.getElem?_eq_some_iff.1 hf).1
  have hx : i < x.threads.length := by rw [← hg.len]; exact hi
  have h8 := (right_parts hg.right).1.2
  obtain ⟨k5, t0, t2, _, _⟩ := h.cells5 hf
  by_cases h2 : f.st = 2
  · rw [actN_run hf h2]
    rw [h2] at t0
    exact raction_run w b gf cf m.fr.length i _ _ _ _ (steps_nine (hg.stands i f hf h2)) hi (by rw [hg.len]; exact h8) k5 t0 (fun W hk => rnext_any W T id b gf cf i x m f (h.keeps hk (fun _ _ h => h)) hf hx h8 hg.len (right_cod hg.right hx) (hg.ok.each i f hf).at_)
  · rw [actN_idle hf h2]
    exact raction_idle w b gf cf m.fr.length i f.st h2 hi (by rw [hg.len]; exact h8) k5 t0
end Go.Proofs.Ytmkfpkficmmlgaa

/- The document's machine: enabled, Enabled, Over. -/
namespace Go.Proofs.Ytmkfpkficmmlgaa
open Go.RowKit
set_option linter.unusedVariables false
set_option linter.unusedSimpArgs false
set_option linter.unnecessarySimpa false

section
variable (w : World) (b gf cf n i : Nat)
set_option maxHeartbeats 1000000 in
theorem ren_zero (o : Int) (hact : Calls Try.prog 32 #[.pointer (some ⟨b, 0, none⟩), .int .i64 i] w fun e w' => e = .returned (actV (0, o)) ∧ Keeps NoBlk w w') :
    Calls Try.prog 31 #[.pointer (some ⟨b, 0, none⟩), .int .i64 i] w fun e w' => e = .returned (.bool false) ∧ Keeps NoBlk w w' := by
  have HACT := Lib.hid hact
  clear hact
  go_enter Try.func31, Try.ntmps31
  go_wp2_with (go_at_call 32; refine HACT.out.mono ?_; rintro e w1 ⟨rfl, h1⟩; have H1 := Lib.hid h1; clear h1; unfold actV)
  go_ret
  refine ⟨rfl, ?_⟩
  repeat (first | exact H1.out | apply Keeps.drew | apply Keeps.drewN | apply Keeps.alloc)
set_option maxHeartbeats 1000000 in
theorem ren_other (k o : Int) (hk0 : k ≠ 0) (hk4 : k ≠ 4) (hk7 : k ≠ 7) (hact : Calls Try.prog 32 #[.pointer (some ⟨b, 0, none⟩), .int .i64 i] w fun e w' => e = .returned (actV (k, o)) ∧ Keeps NoBlk w w') :
    Calls Try.prog 31 #[.pointer (some ⟨b, 0, none⟩), .int .i64 i] w fun e w' => e = .returned (.bool true) ∧ Keeps NoBlk w w' := by
  have e0 : (k == 0) = false := by rw [beq_eq_false_iff_ne]; exact hk0
  have e4 : (k == 4) = false := by rw [beq_eq_false_iff_ne]; exact hk4
  have e7 : (k == 7) = false := by rw [beq_eq_false_iff_ne]; exact hk7
  have HACT := Lib.hid hact
  clear hact
  go_enter Try.func31, Try.ntmps31
  go_wp2_with (go_at_call 32; refine HACT.out.mono ?_; rintro e w1 ⟨rfl, h1⟩; have H1 := Lib.hid h1; clear h1; unfold actV)
  go_ret
  refine ⟨rfl, ?_⟩
  repeat (first | exact H1.out | apply Keeps.drew | apply Keeps.drewN | apply Keeps.alloc)
set_option maxHeartbeats 1000000 in
theorem ren_lock (o go co no : Nat) (ow : Int) (ho : o < no) (k4 : w.cell? ⟨b, 4, none⟩ = some (.slice (some ⟨go, 0, none⟩) no co)) (o0 : w.cell? ⟨go, o, none⟩ = some (.int .i64 ow))
    (hact : Calls Try.prog 32 #[.pointer (some ⟨b, 0, none⟩), .int .i64 i] w fun e w' => e = .returned (actV (4, o)) ∧ Keeps NoBlk w w') :
    Calls Try.prog 31 #[.pointer (some ⟨b, 0, none⟩), .int .i64 i] w fun e w' => e = .returned (.bool (decide (ow < 0))) ∧ Keeps NoBlk w w' := by
  have i3 : (0 : Int) ≤ o := by omega
  have i4 : (o : Int) < no := by omega
  have HACT := Lib.hid hact
  have K1 := Lib.hid k4
  have O0 := Lib.hid o0
  clear hact
  go_enter Try.func31, Try.ntmps31
  go_upto_region 6 with (go_at_call 32; refine HACT.out.mono ?_; rintro e w1 ⟨rfl, h1⟩; have H1 := Lib.hid h1; have k1' := h1.cell (p := ⟨b, 4, none⟩) (fun h => h) K1.out; have o0' := h1.cell (p := ⟨go, o, none⟩) (fun h => h) O0.out; have qb' : b < w1.heap.size := World.block_lt_of_cell? w1 _ k1'; have qo' : go < w1.heap.size := World.block_lt_of_cell? w1 _ o0'; have nb : b ≠ w1.heap.size := (by omega); have no' : go ≠ w1.heap.size := (by omega); clear h1; unfold actV)
  go_quiet (fail)
  go_wp2
  go_ret
  refine ⟨rfl, ?_⟩
  repeat (first | exact H1.out | apply Keeps.drew | apply Keeps.drewN | apply Keeps.alloc)
set_option maxHeartbeats 1000000 in
theorem ren_join (o : Nat) (st : Int) (ho : o < n) (k5 : w.cell? ⟨b, 5, none⟩ = some (.slice (some ⟨gf, 0, none⟩) n cf)) (o0 : w.cell? ⟨gf, o * 3, none⟩ = some (.int .i64 st)) (hst : st = 1 ∨ st = 2 ∨ st = 3 ∨ st = 4)
    (hact : Calls Try.prog 32 #[.pointer (some ⟨b, 0, none⟩), .int .i64 i] w fun e w' => e = .returned (actV (7, o)) ∧ Keeps NoBlk w w') :
    Calls Try.prog 31 #[.pointer (some ⟨b, 0, none⟩), .int .i64 i] w fun e w' => e = .returned (.bool (decide (st = 1) || decide (st = 3))) ∧ Keeps NoBlk w w' := by
  have i3 : (0 : Int) ≤ o := by omega
  have i4 : (o : Int) < n := by omega
  have HACT := Lib.hid hact
  have K3 := Lib.hid k5
  have O0 := Lib.hid o0
  clear hact
  rcases hst with rfl | rfl | rfl | rfl
  all_goals (
    go_enter Try.func31, Try.ntmps31
    go_upto_region 8 with (go_at_call 32; refine HACT.out.mono ?_; rintro e w1 ⟨rfl, h1⟩; have H1 := Lib.hid h1; have k3' := h1.cell (p := ⟨b, 5, none⟩) (fun h => h) K3.out; have o0' := h1.cell (p := ⟨gf, o * 3, none⟩) (fun h => h) O0.out; have qb' : b < w1.heap.size := World.block_lt_of_cell? w1 _ k3'; have qo' : gf < w1.heap.size := World.block_lt_of_cell? w1 _ o0'; have nb : b ≠ w1.heap.size := (by omega); have no' : gf ≠ w1.heap.size := (by omega); clear h1; unfold actV)
    go_quiet (fail)
    go_wp2
    go_ret
    refine ⟨rfl, ?_⟩
    repeat (first | exact H1.out | apply Keeps.drew | apply Keeps.drewN | apply Keeps.alloc))
end
theorem refused_run {x : Img} {m : Mach} {k : Nat} {f : Fr} (hf : m.fr[k]? = some f) (h2 : f.st = 2) : refusedN x m k = if waitsN x m k then 83 else 0 := by
  have hk := (List.getElem?_eq_some_iff.1 hf).1
  have hgf : m.get k = f := by simp [Mach.get, List.getD, hf]
  unfold refusedN
  rw [if_neg (by omega), Int.toNat_natCast, hgf, h2]
  simp
theorem refused_idle {x : Img} {m : Mach} {k : Nat} {f : Fr} (hf : m.fr[k]? = some f) (h2 : f.st = 1 ∨ f.st = 3 ∨ f.st = 4) : refusedN x m k = if f.st = 1 then 80 else if f.st = 3 then 81 else 82 := by
  have hk := (List.getElem?_eq_some_iff.1 hf).1
  have hgf : m.get k = f := by simp [Mach.get, List.getD, hf]
  unfold refusedN
  rw [if_neg (by omega), Int.toNat_natCast, hgf]
  rcases h2 with e | e | e <;> simp [e]
theorem ren_any (w : World) (T : Tags) (id b gf cf k : Nat) (x : Img) (m : Mach) (f : Fr) (h : RmAt w T id b gf cf x m) (hf : m.fr[k]? = some f) (hg : VGood x m) :
    Calls Try.prog 31 #[.pointer (some ⟨b, 0, none⟩), .int .i64 k] w fun e w' => e = .returned (.bool (decide (refusedN x m k = 0))) ∧ Keeps NoBlk w w' := by
  have hact := raction_any w T id b gf cf k x m f h hf hg
  obtain ⟨k5, t0, t2, _, _⟩ := h.cells5 hf
  have hst := hg.sts k f hf
  by_cases h2 : f.st = 2
  · rw [refused_run hf h2]
    unfold waitsN
    have hop := steps_nine (hg.stands k f hf h2)
    obtain ⟨fa, fb, fc⟩ := insN_fit (hg.ins hf)
    rw [actN_run hf h2] at hact ⊢
    generalize (x.cod k).at f.at_ = n at fa hact hop ⊢
    obtain ⟨op, a, b', c⟩ := n
    dsimp only at fa hact hop ⊢
    by_cases e24 : op = 24
    · subst e24
      simp [kindsN, fitN, mostN] at fa
      obtain ⟨o, rfl⟩ := int_nat fa.1
      have ho : o < m.owners.length := by have := hg.ok.owners; have := fa.2; omega
      obtain ⟨xc, xt, cv, ov, hb, hcore, _⟩ := h.ex
      obtain ⟨go, co, e1, e2, e3⟩ := hcore.owners.at (k := o) ho
      have k4 := hb.cell (k := 4) (v := ov) rfl
      rw [e1] at k4
      have o0 := e3.cell (ints_get m.owners o ho)
      refine (ren_lock w b k o go co m.owners.length _ ho k4 o0 (by simpa using hact)).mono ?_
      rintro e w' ⟨rfl, hk⟩
      refine ⟨?_, hk⟩
      simp
    · by_cases e27 : op = 27
      · subst e27
        simp [kindsN, fitN, mostN] at fa
        obtain ⟨o, rfl⟩ := int_nat fa.1
        have ho : o < x.threads.length := by have := fa.2; omega
        obtain ⟨f2, hf2, hgf2⟩ := hg.get ho
        refine (ren_join w b gf cf m.fr.length k o f2.st (by rw [hg.len]; exact ho) k5 (h.cells5 hf2).2.1 (hg.sts o f2 hf2) (by simpa using hact)).mono ?_
        rintro e w' ⟨rfl, hk⟩
        refine ⟨?_, hk⟩
        rcases hg.sts o f2 hf2 with e | e | e | e <;> simp [hgf2, e]
      · have e4 : ¬ (op - 20 = 4) := by omega
        have e7 : ¬ (op - 20 = 7) := by omega
        refine (ren_other w b k _ _ (by omega) e4 e7 hact).mono ?_
        rintro e w' ⟨rfl, hk⟩
        refine ⟨?_, hk⟩
        simp [e4, e7]
  · rw [actN_idle hf h2] at hact
    have h3 : f.st = 1 ∨ f.st = 3 ∨ f.st = 4 := by omega
    rw [refused_idle hf h3]
    refine (ren_zero w b k 0 hact).mono ?_
    rintro e w' ⟨rfl, hk⟩
    refine ⟨?_, hk⟩
    rcases h3 with e | e | e <;> simp [e]
end Go.Proofs.Ytmkfpkficmmlgaa

/- The document's machine: Enabled, Over. -/
namespace Go.Proofs.Ytmkfpkficmmlgaa
open Go.RowKit
set_option linter.unusedVariables false
set_option linter.unusedSimpArgs false
set_option linter.unnecessarySimpa false

set_option maxRecDepth 8000 in
set_option maxHeartbeats 2000000 in
theorem renabled_any (w : World) (T : Tags) (id b gf cf : Nat) (x : Img) (m : Mach) (h : RmAt w T id b gf cf x m) (hg : VGood x m) :
    Calls Try.prog 12 #[.pointer (some ⟨b, 0, none⟩)] w (NewInts w (enabledN x m)) := by
  obtain ⟨i0, hi0, hz0, hz1, hz2⟩ := info_parts infoInt
  have k3 := (h.ex.choose_spec.choose_spec.choose_spec.choose_spec.1).cell (k := 5) (v := .slice (some ⟨gf, 0, none⟩) m.fr.length cf) rfl
  have h8 : m.fr.length ≤ 8 := by rw [hg.ok.len]; exact (right_parts hg.right).1.2
  have HV := Lib.hid h
  have HG := Lib.hid hg
  unfold enabledN
  obtain ⟨n, hn⟩ : ∃ n, n = m.fr.length := ⟨_, rfl⟩
  rw [← hn] at k3 h8 ⊢
  have n1 : (0 : Int) ≤ n := by omega
  have HN := Lib.hid hn
  have K5 := Lib.hid k3
  clear h hg hn k3
  go_enter Try.func12, Try.ntmps12
  go_wp2
  go_loopw [3, 4] (fun v i wr => ∃ k mm adv capv, k ≤ n ∧ i = .int .i64 (k : Nat) ∧ v = .slice adv mm capv ∧ Hid (mm = (enN x m k).length ∧ wr.ownsRow 0 3 1 (.slice adv mm capv) mm (ints (enN x m k))) ∧ Hid (Keeps NoBlk w wr) ∧ Hid (∀ kb, (Value.slice adv mm capv).ownBlock = some kb → w.heap.size ≤ kb)) (fun _ i _ => n - (intOf i).toNat)
  case atStart => exact ⟨0, 0, none, 0, Nat.zero_le _, rfl, rfl, ⟨rfl, World.ownsRow_nil _ _ _ _⟩, Keeps.refl _ _, fun kb e => by simp [Value.ownBlock] at e⟩
  case round =>
    obtain ⟨k, mm, adv, capv, hk, rfl, rfl, hown, hb, hq⟩ := hrel
    have k3 := hb.out.cell (p := ⟨b, 5, none⟩) (fun h => h) K5.out
    by_cases hlt : k < n
    · have i1 : (0 : Int) ≤ k := by omega
      have i2 : (k : Int) < (n : Int) := by omega
      have hm : Hid (mm ≤ 8) := by
        have h1 := enN_len x m k
        have h2 := hown.out.1
        show mm ≤ 8
        omega
      have HP := Lib.hid (enN_next x m k)
      have hkm : k < m.fr.length := by rw [← HN.out]; exact hlt
      have HR := Lib.hid (ren_any wr T id b gf cf k x m m.fr[k] (HV.out.keeps hb.out (fun _ _ h => h)) (List.getElem?_eq_getElem hkm) HG.out)
      clear hkm
      obtain ⟨r, hr⟩ : ∃ r, r = refusedN x m k := ⟨_, rfl⟩
      rw [← hr] at HP HR
      clear hr
      by_cases hx : r = 0
      · rw [decide_eq_true hx] at HR
        have HQ : Hid (enN x m (k + 1) = enN x m k ++ [(k : Int)]) := by rw [HP.out, if_pos hx]; exact rfl
        clear HP hx
        go_wp2_with (first | (go_at_call 31; refine HR.out.mono ?_; rintro e w1 ⟨rfl, g1⟩; have G1 := Lib.hid g1; have hs1 : wr.heap.size ≤ w1.heap.size := g1.size; have ho1 : Hid (w1.ownsRow 0 3 1 (.slice adv mm capv) mm (ints (enN x m k))) := (by exact ownsRow_keeps hown.out.2 g1 (fun _ _ h => h)); clear g1) | (at_builtin; refine wpList_append_lies _ (by rfl) _ _ 22 (by rfl) 0 3 i0 _ 1 8 Try.underlying22 hi0 hz0 hz1 hz2 rfl (by decide) (.slice adv mm capv) mm _ (by rfl) (by exact ho1.out.alloc _) ⟨w1.heap.size, 0, none⟩ 1 1 [.int .i64 k] (by rfl) (by rfl) (World.news_of_block (cs := #[.int .i64 k]) (t := 3) (fr := (0, 0)) (heap_alloc_new w1 _)) (by simp [Value.oneCell']) (by decide) (by have := hm.out; unfold maxLen; omega) (by have := hm.out; omega) (Nat.zero_le _) (w1.heap.size + 1) (by simp) ?_; intro gg cm' w6 hown6 hgr6 hat6 hlt6; have hB6 : Hid (Keeps NoBlk w w6) := (by exact (((hb.out.trans G1.out (fun _ _ h => h)).alloc _).grown hgr6 (fun kb e hlt => absurd (hq.out kb e) (by omega)))); have hO6 : Hid (mm + 1 = (enN x m (k + 1)).length ∧ w6.ownsRow 0 3 1 (.slice (some ⟨gg, 0, none⟩) (mm + 1) cm') (mm + 1) (ints (enN x m (k + 1)))) := (by rw [HQ.out]; refine ⟨by rw [List.length_append, hown.out.1]; rfl, ?_⟩; unfold ints; rw [List.map_append]; exact hown6); have hG6 : Hid (∀ kb, (Value.slice (some ⟨gg, 0, none⟩) (mm + 1) cm').ownBlock = some kb → w.heap.size ≤ kb) := (by intro kb e; simp [Value.ownBlock] at e; subst e; rcases hat6 with h | h; exact hq.out _ h; have := hb.out.size; omega); clear hown6 hgr6 hat6 hlt6))
        go_roundw
        case rel => exact ⟨k + 1, mm + 1, _, _, by omega, by go_num, rfl, hO6, hB6, hG6⟩
        case measure => simp [intOf]; omega
      · rw [decide_eq_false hx] at HR
        have HQ : Hid (mm = (enN x m (k + 1)).length ∧ wr.ownsRow 0 3 1 (.slice adv mm capv) mm (ints (enN x m (k + 1)))) := by rw [HP.out, if_neg hx]; exact hown.out
        clear HP hown hx
        go_wp2_with (go_at_call 31; refine HR.out.mono ?_; rintro e w1 ⟨rfl, g1⟩; have G1 := Lib.hid g1; clear g1)
        exact ⟨⟨k + 1, mm, adv, capv, by omega, by go_num, rfl, ⟨HQ.out.1, ownsRow_keeps HQ.out.2 G1.out (fun _ _ h => h)⟩, hb.out.trans G1.out (fun _ _ h => h), hq⟩, by simp [intOf]; omega⟩
    · have hkn : k = n := by omega
      subst hkn
      clear hlt
      go_wp2
      go_ret
      obtain ⟨e, ho⟩ := hown.out
      subst e
      exact ⟨_, rfl, ho, hb.out, hq.out⟩

set_option maxHeartbeats 1000000 in
theorem rover_any (w : World) (T : Tags) (id b gf cf : Nat) (x : Img) (m : Mach) (h : RmAt w T id b gf cf x m) (hg : VGood x m) :
    Calls Try.prog 30 #[.pointer (some ⟨b, 0, none⟩)] w fun e w' => e = .returned (.bool (decide ((enabledN x m).length = 0))) ∧ Keeps NoBlk w w' := by
  have HE := Lib.hid (renabled_any w T id b gf cf x m h hg)
  clear h hg
  go_enter Try.func30, Try.ntmps30
  go_wp2_with (go_at_call 12; refine HE.out.mono ?_; rintro e w1 ⟨v, rfl, g1, g2, g3⟩; obtain ⟨ad, cap, ev⟩ : ∃ ad cap, v = .slice ad (enabledN x m).length cap := (by rcases g1.2 with ⟨e1, e2⟩ | ⟨g, cap, cur, e1, _⟩; exact ⟨none, 0, (by rw [e1, e2])⟩; exact ⟨_, _, e1⟩); subst ev; have G2 := Lib.hid g2; clear g1 g2 g3)
  go_ret
  refine ⟨?_, G2.out⟩
  have e : (((enabledN x m).length : Int) == 0) = decide ((enabledN x m).length = 0) := by
    by_cases h : (enabledN x m).length = 0
    · rw [h]; rfl
    · rw [decide_eq_false h, beq_eq_false_iff_ne]; omega
  simp only [go_sem]
  rw [e]
  rfl
end Go.Proofs.Ytmkfpkficmmlgaa
