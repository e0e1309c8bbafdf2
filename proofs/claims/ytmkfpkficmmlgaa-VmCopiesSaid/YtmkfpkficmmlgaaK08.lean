/- Package vm: refused. -/
import Derived.Test.YtmkfpkficmmlgaaK07
namespace Go.Proofs.Ytmkfpkficmmlgaa
open Go.RowKit
set_option linter.unusedVariables false
set_option linter.unusedSimpArgs false
set_option linter.unnecessarySimpa false

/-- why a thread makes no step; 0: it makes one -/
def refusedN (x : Img) (m : Mach) (i : Int) : Int :=
  if i < 0 ∨ (m.fr.length : Int) ≤ i then 2
  else if (m.get i.toNat).st = 1 then 80 else if (m.get i.toNat).st = 3 then 81 else if (m.get i.toNat).st = 4 then 82
  else if waitsN x m i.toNat then 83 else 0

section
variable (w : World) (b gf cf n : Nat) (i : Int)
set_option maxHeartbeats 400000 in
theorem vref_low (hi : i < 0) :
    Calls Try.prog 36 #[.pointer (some ⟨b, 0, none⟩), .int .i64 i] w fun e w' => e = .returned (.int .i64 2) ∧ Keeps NoBlk w w' := by
  go_enter Try.func36, Try.ntmps36
  go_wp2
  go_ret
  exact ⟨rfl, Keeps.refl _ _⟩
set_option maxHeartbeats 400000 in
theorem vref_high (hi : 0 ≤ i) (hn : (n : Int) ≤ i) (k3 : w.cell? ⟨b, 3, none⟩ = some (.slice (some ⟨gf, 0, none⟩) n cf)) :
    Calls Try.prog 36 #[.pointer (some ⟨b, 0, none⟩), .int .i64 i] w fun e w' => e = .returned (.int .i64 2) ∧ Keeps NoBlk w w' := by
  have e1 : decide (i < 0) = false := decide_eq_false (by omega)
  go_enter Try.func36, Try.ntmps36
  go_wp2
  go_ret
  exact ⟨rfl, Keeps.refl _ _⟩
end
section
variable (w : World) (b gf cf n i : Nat)
set_option maxHeartbeats 400000 in
theorem vref_state (st : Int) (hst : st = 1 ∨ st = 3 ∨ st = 4) (hi : i < n) (k3 : w.cell? ⟨b, 3, none⟩ = some (.slice (some ⟨gf, 0, none⟩) n cf)) (t0 : w.cell? ⟨gf, i * 3, none⟩ = some (.int .i64 st)) :
    Calls Try.prog 36 #[.pointer (some ⟨b, 0, none⟩), .int .i64 i] w fun e w' => e = .returned (.int .i64 (if st = 1 then 80 else if st = 3 then 81 else 82)) ∧ Keeps NoBlk w w' := by
  have i0 : (0 : Int) ≤ i := by omega
  have e1 : decide ((i : Int) < 0) = false := decide_eq_false (by omega)
  have i2 : (i : Int) < n := by omega
  rcases hst with rfl | rfl | rfl
  all_goals (
    go_enter Try.func36, Try.ntmps36
    go_wp2
    go_ret
    exact ⟨rfl, Keeps.refl _ _⟩)
set_option maxHeartbeats 1000000 in
theorem vref_other (k o : Int) (hk4 : k ≠ 4) (hk7 : k ≠ 7) (hi : i < n) (k3 : w.cell? ⟨b, 3, none⟩ = some (.slice (some ⟨gf, 0, none⟩) n cf)) (t0 : w.cell? ⟨gf, i * 3, none⟩ = some (.int .i64 2))
    (hact : Calls Try.prog 37 #[.pointer (some ⟨b, 0, none⟩), .int .i64 i] w fun e w' => e = .returned (actV (k, o)) ∧ Keeps NoBlk w w') :
    Calls Try.prog 36 #[.pointer (some ⟨b, 0, none⟩), .int .i64 i] w fun e w' => e = .returned (.int .i64 0) ∧ Keeps NoBlk w w' := by
  have i0 : (0 : Int) ≤ i := by omega
  have e1 : decide ((i : Int) < 0) = false := decide_eq_false (by omega)
  have i2 : (i : Int) < n := by omega
  have e4 : (k == 4) = false := by rw [beq_eq_false_iff_ne]; exact hk4
  have e7 : (k == 7) = false := by rw [beq_eq_false_iff_ne]; exact hk7
  have HACT := Lib.hid hact
  clear hact
  go_enter Try.func36, Try.ntmps36
  go_upto_region 11 with (go_at_call 37; refine HACT.out.mono ?_; rintro e w1 ⟨rfl, h1⟩; have H1 := Lib.hid h1; clear h1; unfold actV)
  go_quiet (fail)
  go_wp2
  go_quiet (fail)
  go_wp2
  go_ret
  refine ⟨rfl, ?_⟩
  repeat (first | exact H1.out | apply Keeps.drew | apply Keeps.drewN | apply Keeps.alloc)
set_option maxHeartbeats 1000000 in
theorem vref_lock (o go co no : Nat) (ow : Int) (ho : o < no) (hi : i < n) (k3 : w.cell? ⟨b, 3, none⟩ = some (.slice (some ⟨gf, 0, none⟩) n cf)) (t0 : w.cell? ⟨gf, i * 3, none⟩ = some (.int .i64 2))
    (k1 : w.cell? ⟨b, 1, none⟩ = some (.slice (some ⟨go, 0, none⟩) no co)) (o0 : w.cell? ⟨go, o, none⟩ = some (.int .i64 ow))
    (hact : Calls Try.prog 37 #[.pointer (some ⟨b, 0, none⟩), .int .i64 i] w fun e w' => e = .returned (actV (4, o)) ∧ Keeps NoBlk w w') :
    Calls Try.prog 36 #[.pointer (some ⟨b, 0, none⟩), .int .i64 i] w fun e w' => e = .returned (.int .i64 (if 0 ≤ ow then 83 else 0)) ∧ Keeps NoBlk w w' := by
  have i0 : (0 : Int) ≤ i := by omega
  have e1 : decide ((i : Int) < 0) = false := decide_eq_false (by omega)
  have i2 : (i : Int) < n := by omega
  have i3 : (0 : Int) ≤ o := by omega
  have i4 : (o : Int) < no := by omega
  have HACT := Lib.hid hact
  have K1 := Lib.hid k1
  have O0 := Lib.hid o0
  have qb : b < w.heap.size := World.block_lt_of_cell? w _ k1
  have qo : go < w.heap.size := World.block_lt_of_cell? w _ o0
  clear hact
  by_cases hw : 0 ≤ ow
  · rw [if_pos hw]
    go_enter Try.func36, Try.ntmps36
    go_upto_region 11 with (go_at_call 37; refine HACT.out.mono ?_; rintro e w1 ⟨rfl, h1⟩; have H1 := Lib.hid h1; have k1' := h1.cell (p := ⟨b, 1, none⟩) (fun h => h) K1.out; have o0' := h1.cell (p := ⟨go, o, none⟩) (fun h => h) O0.out; have qb' : b < w1.heap.size := World.block_lt_of_cell? w1 _ k1'; have qo' : go < w1.heap.size := World.block_lt_of_cell? w1 _ o0'; have nb : b ≠ w1.heap.size := (by omega); have no' : go ≠ w1.heap.size := (by omega); clear h1; unfold actV)
    go_quiet (fail)
    go_wp2
    go_ret
    refine ⟨rfl, ?_⟩
    repeat (first | exact H1.out | apply Keeps.drew | apply Keeps.drewN | apply Keeps.alloc)
  · rw [if_neg hw]
    have e2 : decide (0 ≤ ow) = false := decide_eq_false hw
    have e3 : ow < 0 := by omega
    go_enter Try.func36, Try.ntmps36
    go_upto_region 11 with (go_at_call 37; refine HACT.out.mono ?_; rintro e w1 ⟨rfl, h1⟩; have H1 := Lib.hid h1; have k1' := h1.cell (p := ⟨b, 1, none⟩) (fun h => h) K1.out; have o0' := h1.cell (p := ⟨go, o, none⟩) (fun h => h) O0.out; have qb' : b < w1.heap.size := World.block_lt_of_cell? w1 _ k1'; have qo' : go < w1.heap.size := World.block_lt_of_cell? w1 _ o0'; have nb : b ≠ w1.heap.size := (by omega); have no' : go ≠ w1.heap.size := (by omega); clear h1; unfold actV)
    go_quiet (fail)
    go_wp2
    go_quiet (fail)
    go_wp2
    go_ret
    refine ⟨rfl, ?_⟩
    repeat (first | exact H1.out | apply Keeps.drew | apply Keeps.drewN | apply Keeps.alloc)
set_option maxHeartbeats 1000000 in
theorem vref_join (o : Nat) (st : Int) (ho : o < n) (hi : i < n) (k3 : w.cell? ⟨b, 3, none⟩ = some (.slice (some ⟨gf, 0, none⟩) n cf)) (t0 : w.cell? ⟨gf, i * 3, none⟩ = some (.int .i64 2))
    (o0 : w.cell? ⟨gf, o * 3, none⟩ = some (.int .i64 st)) (hst : st = 1 ∨ st = 2 ∨ st = 3 ∨ st = 4)
    (hact : Calls Try.prog 37 #[.pointer (some ⟨b, 0, none⟩), .int .i64 i] w fun e w' => e = .returned (actV (7, o)) ∧ Keeps NoBlk w w') :
    Calls Try.prog 36 #[.pointer (some ⟨b, 0, none⟩), .int .i64 i] w fun e w' => e = .returned (.int .i64 (if st = 2 ∨ st = 4 then 83 else 0)) ∧ Keeps NoBlk w w' := by
  have i0 : (0 : Int) ≤ i := by omega
  have e1 : decide ((i : Int) < 0) = false := decide_eq_false (by omega)
  have i2 : (i : Int) < n := by omega
  have i3 : (0 : Int) ≤ o := by omega
  have i4 : (o : Int) < n := by omega
  have HACT := Lib.hid hact
  have K3 := Lib.hid k3
  have O0 := Lib.hid o0
  clear hact
  rcases hst with rfl | rfl | rfl | rfl
  all_goals (
    go_enter Try.func36, Try.ntmps36
    go_upto_region 11 with (go_at_call 37; refine HACT.out.mono ?_; rintro e w1 ⟨rfl, h1⟩; have H1 := Lib.hid h1; have k3' := h1.cell (p := ⟨b, 3, none⟩) (fun h => h) K3.out; have o0' := h1.cell (p := ⟨gf, o * 3, none⟩) (fun h => h) O0.out; have qb' : b < w1.heap.size := World.block_lt_of_cell? w1 _ k3'; have qo' : gf < w1.heap.size := World.block_lt_of_cell? w1 _ o0'; have nb : b ≠ w1.heap.size := (by omega); have no' : gf ≠ w1.heap.size := (by omega); clear h1; unfold actV)
    go_quiet (fail)
    go_wp2
    go_quiet (fail)
    go_wp2
    go_ret
    refine ⟨rfl, ?_⟩
    repeat (first | exact H1.out | apply Keeps.drew | apply Keeps.drewN | apply Keeps.alloc))
end
end Go.Proofs.Ytmkfpkficmmlgaa

/- Package vm: refused whole, Enabled, Over. -/
namespace Go.Proofs.Ytmkfpkficmmlgaa
open Go.RowKit
set_option linter.unusedVariables false
set_option linter.unusedSimpArgs false
set_option linter.unnecessarySimpa false

/-- a machine that may be -/
structure VGood (x : Img) (m : Mach) : Prop where
  right : rightN x = true
  ok : MOk x m
  stands : Stands x m
  sts : ∀ (i : Nat) (f : Fr), m.fr[i]? = some f → f.st = 1 ∨ f.st = 2 ∨ f.st = 3 ∨ f.st = 4

theorem right_parts {x : Img} (h : rightN x = true) : (1 ≤ x.threads.length ∧ x.threads.length ≤ 8) ∧ x.cells.length ≤ 8 ∧ (0 ≤ x.mutexes ∧ x.mutexes ≤ 8) ∧ (∀ c ∈ x.cells, numN' c = true) ∧ ∀ c ∈ x.threads, codN x c = true := by
  simp only [rightN, Bool.and_eq_true, decide_eq_true_eq, List.all_eq_true] at h
  exact ⟨h.1.1.1.1, h.1.1.1.2, h.1.1.2, h.1.2, h.2⟩
theorem right_cod {x : Img} (h : rightN x = true) {i : Nat} (hi : i < x.threads.length) : codN x (x.cod i) = true := by
  refine (right_parts h).2.2.2.2 _ ?_
  simp [Img.cod, List.getD, hi]
theorem VGood.get {x : Img} {m : Mach} (h : VGood x m) {i : Nat} (hi : i < x.threads.length) : ∃ f, m.fr[i]? = some f ∧ m.get i = f := by
  have hi' : i < m.fr.length := by rw [h.ok.len]; exact hi
  exact ⟨m.fr[i], List.getElem?_eq_getElem hi', by simp [Mach.get, List.getD, hi']⟩
/-- the instruction ahead of which a running thread stands -/
theorem VGood.ins {x : Img} {m : Mach} (h : VGood x m) {i : Nat} {f : Fr} (hf : m.fr[i]? = some f) : insN x (x.cod i) ((x.cod i).at f.at_) = true := by
  have hi : i < x.threads.length := by rw [← h.ok.len]; exact (List.getElem?_eq_some_iff.1 hf).1
  exact (codN_parts (right_cod h.right hi)).2.2.2 _ (Cod.at_mem _ _ (h.ok.each i f hf).at_)

theorem vrefused_any (w : World) (T : Tags) (id b gf cf : Nat) (i : Int) (x : Img) (m : Mach) (h : VmAt w T id b gf cf x m) (hg : VGood x m) :
    Calls Try.prog 36 #[.pointer (some ⟨b, 0, none⟩), .int .i64 i] w fun e w' => e = .returned (.int .i64 (refusedN x m i)) ∧ Keeps NoBlk w w' := by
  have h8 := (right_parts hg.right).1
  obtain ⟨cv, ov, dv, hb, hcore, hcode⟩ := h.ex
  have k3 := hb.cell (k := 3) (v := .slice (some ⟨gf, 0, none⟩) m.fr.length cf) rfl
  have hl := hg.ok.len
  unfold refusedN
  by_cases hlo : i < 0
  · rw [if_pos (.inl hlo)]
    exact vref_low w b i hlo
  by_cases hhi : (m.fr.length : Int) ≤ i
  · rw [if_pos (.inr hhi)]
    exact vref_high w b gf cf m.fr.length i (by omega) hhi k3
  rw [if_neg (by rintro (h | h); exact hlo h; exact hhi h)]
  obtain ⟨k, rfl⟩ : ∃ k : Nat, i = k := ⟨i.toNat, by omega⟩
  rw [Int.toNat_natCast]
  have hk : k < x.threads.length := by rw [← hl]; omega
  obtain ⟨f, hf, hgf⟩ := hg.get hk
  rw [hgf]
  have hc := right_cod hg.right hk
  have hok := hg.ok.each k f hf
  obtain ⟨H, gd, cd, gi, oi, ci, rv, hF, ha, _, _, u1, c0, c1, c2, c3, t0, t2, ff⟩ := h.view hf hk hok.at_
  have hk' : k < m.fr.length := by rw [hl]; exact hk
  have hst := hg.sts k f hf
  by_cases h2 : f.st = 2
  · rw [if_neg (by omega), if_neg (by omega), if_neg (by omega)]
    have hact := vaction_any w T id b gf cf k x m f h hf h8.2 hg.ok hg.stands hc
    rw [h2] at t0
    have hins := hg.ins hf
    obtain ⟨fa, fb, fc⟩ := insN_fit hins
    have hop := hg.stands k f hf h2
    have hact2 : actN x m k = (((x.cod k).at f.at_).op - 20, if ((x.cod k).at f.at_).op = 21 ∨ ((x.cod k).at f.at_).op = 23 then ((x.cod k).at f.at_).b else if ((x.cod k).at f.at_).op = 28 then 0 else if ((x.cod k).at f.at_).op = 29 then k else ((x.cod k).at f.at_).a) := by
      unfold actN
      simp only [hgf, h2]
      simp
    unfold waitsN
    rw [hact2] at hact ⊢
    generalize (x.cod k).at f.at_ = n at fa hact hop ⊢
    obtain ⟨op, a, b', c⟩ := n
    dsimp only at fa hact hop ⊢
    by_cases e24 : op = 24
    · subst e24
      simp [kindsN, fitN, mostN] at fa
      obtain ⟨o, rfl⟩ := int_nat fa.1
      have ho : o < m.owners.length := by have := hg.ok.owners; have := fa.2; omega
      obtain ⟨go, co, e1, e2, e3⟩ := hcore.owners.at ho
      have k1 := hb.cell (k := 1) (v := ov) rfl
      rw [e1] at k1
      have o0 := e3.cell (ints_get m.owners o ho)
      have := vref_lock w b gf cf m.fr.length k o go co m.owners.length _ ho hk' k3 t0 k1 o0 (by simpa using hact)
      refine this.mono ?_
      rintro e w' ⟨rfl, hk⟩
      refine ⟨?_, hk⟩
      simp
    · by_cases e27 : op = 27
      · subst e27
        simp [kindsN, fitN, mostN] at fa
        obtain ⟨o, rfl⟩ := int_nat fa.1
        have ho : o < x.threads.length := by have := fa.2; omega
        obtain ⟨f2, hf2, hgf2⟩ := hg.get ho
        obtain ⟨rv2, ha2, _⟩ := hF.get hf2
        have := vref_join w b gf cf m.fr.length k o f2.st (by rw [hl]; exact ho) hk' k3 t0 (hF.three ha2).1 (hg.sts o f2 hf2) (by simpa using hact)
        refine this.mono ?_
        rintro e w' ⟨rfl, hk⟩
        refine ⟨?_, hk⟩
        simp [hgf2]
      · have e4 : ¬ (op - 20 = 4) := by omega
        have e7 : ¬ (op - 20 = 7) := by omega
        refine (vref_other w b gf cf m.fr.length k _ _ e4 e7 hk' k3 t0 hact).mono ?_
        rintro e w' ⟨rfl, hk⟩
        refine ⟨?_, hk⟩
        simp [e4, e7]
  · have hst' : f.st = 1 ∨ f.st = 3 ∨ f.st = 4 := by omega
    refine (vref_state w b gf cf m.fr.length k f.st hst' hk' k3 t0).mono ?_
    rintro e w' ⟨rfl, hk⟩
    refine ⟨?_, hk⟩
    rcases hst' with e | e | e <;> simp [e]
end Go.Proofs.Ytmkfpkficmmlgaa

/- Package vm: Enabled, Over. -/
namespace Go.Proofs.Ytmkfpkficmmlgaa
open Go.RowKit
set_option linter.unusedVariables false
set_option linter.unusedSimpArgs false
set_option linter.unnecessarySimpa false

theorem infoInt : (Try.prog.info? 3).map (fun i => (i.zero, i.size, i.bytes)) = some (some (.int .i64 0), 1, 8) := by kernel_rfl
/-- the first threads that can make a step -/
def enN (x : Img) (m : Mach) (k : Nat) : List Int := ((List.range k).filter fun i : Nat => decide (refusedN x m (i : Int) = 0)).map fun i : Nat => (i : Int)
theorem enN_next (x : Img) (m : Mach) (k : Nat) : enN x m (k + 1) = if refusedN x m k = 0 then enN x m k ++ [(k : Int)] else enN x m k := by
  unfold enN
  rw [List.range_succ, List.filter_append, List.map_append]
  by_cases h : refusedN x m k = 0
  · simp [h]
  · simp [h]
theorem enN_len (x : Img) (m : Mach) (k : Nat) : (enN x m k).length ≤ k := by
  unfold enN
  rw [List.length_map]
  exact Nat.le_trans (List.length_filter_le _ _) (by simp)
def enabledN (x : Img) (m : Mach) : List Int := enN x m m.fr.length

/-- a call that makes a slice of ints of its own -/
def NewInts (w : World) (xs : List Int) (e : Ending) (w' : World) : Prop :=
  ∃ v, e = .returned v ∧ w'.ownsRow 0 3 1 v xs.length (ints xs) ∧ Keeps NoBlk w w' ∧ ∀ kb, v.ownBlock = some kb → w.heap.size ≤ kb

set_option maxRecDepth 8000 in
set_option maxHeartbeats 2000000 in
theorem venabled_any (w : World) (T : Tags) (id b gf cf : Nat) (x : Img) (m : Mach) (h : VmAt w T id b gf cf x m) (hg : VGood x m) :
    Calls Try.prog 25 #[.pointer (some ⟨b, 0, none⟩)] w (NewInts w (enabledN x m)) := by
  obtain ⟨i0, hi0, hz0, hz1, hz2⟩ := info_parts infoInt
  have k3 := (h.ex.choose_spec.choose_spec.choose_spec.1).cell (k := 3) (v := .slice (some ⟨gf, 0, none⟩) m.fr.length cf) rfl
  have h8 : m.fr.length ≤ 8 := by rw [hg.ok.len]; exact (right_parts hg.right).1.2
  have HV := Lib.hid h
  have HG := Lib.hid hg
  unfold enabledN
  obtain ⟨n, hn⟩ : ∃ n, n = m.fr.length := ⟨_, rfl⟩
  rw [← hn] at k3 h8 ⊢
  have n1 : (0 : Int) ≤ n := by omega
  clear h hg hn
  go_enter Try.func25, Try.ntmps25
  go_wp2
  go_loopw [3, 10] (fun v i wr => ∃ k mm adv capv, k ≤ n ∧ i = .int .i64 (k : Nat) ∧ v = .slice adv mm capv ∧ Hid (mm = (enN x m k).length ∧ wr.ownsRow 0 3 1 (.slice adv mm capv) mm (ints (enN x m k))) ∧ Hid (Keeps NoBlk w wr) ∧ Hid (∀ kb, (Value.slice adv mm capv).ownBlock = some kb → w.heap.size ≤ kb)) (fun _ i _ => n - (intOf i).toNat)
  case atStart => exact ⟨0, 0, none, 0, Nat.zero_le _, rfl, rfl, ⟨rfl, World.ownsRow_nil _ _ _ _⟩, Keeps.refl _ _, fun kb e => by simp [Value.ownBlock] at e⟩
  case round =>
    obtain ⟨k, mm, adv, capv, hk, rfl, rfl, hown, hb, hq⟩ := hrel
    by_cases hlt : k < n
    · have i1 : (0 : Int) ≤ k := by omega
      have i2 : (k : Int) < (n : Int) := by omega
      have hm : Hid (mm ≤ 8) := by
        have h1 := enN_len x m k
        have h2 := hown.out.1
        show mm ≤ 8
        omega
      have HP := Lib.hid (enN_next x m k)
      have HR := Lib.hid (vrefused_any wr T id b gf cf k x m (HV.out.keeps hb.out (fun _ _ h => h)) HG.out)
      obtain ⟨r, hr⟩ : ∃ r, r = refusedN x m k := ⟨_, rfl⟩
      rw [← hr] at HP HR
      clear hr
      by_cases hx : r = 0
      · have e6 : (r == 0) = true := by rw [hx]; rfl
        have HQ : Hid (enN x m (k + 1) = enN x m k ++ [(k : Int)]) := by rw [HP.out, if_pos hx]; exact rfl
        clear HP hx
        go_wp2_with (first | (go_at_call 36; refine HR.out.mono ?_; rintro e w1 ⟨rfl, g1⟩; have G1 := Lib.hid g1; have hs1 : wr.heap.size ≤ w1.heap.size := g1.size; have ho1 : Hid (w1.ownsRow 0 3 1 (.slice adv mm capv) mm (ints (enN x m k))) := (by exact ownsRow_keeps hown.out.2 g1 (fun _ _ h => h)); clear g1) | (at_builtin; refine wpList_append_lies _ (by rfl) _ _ 22 (by rfl) 0 3 i0 _ 1 8 Try.underlying22 hi0 hz0 hz1 hz2 rfl (by decide) (.slice adv mm capv) mm _ (by rfl) (by exact ho1.out.alloc _) ⟨w1.heap.size, 0, none⟩ 1 1 [.int .i64 k] (by rfl) (by rfl) (World.news_of_block (cs := #[.int .i64 k]) (t := 3) (fr := (0, 0)) (heap_alloc_new w1 _)) (by simp [Value.oneCell']) (by decide) (by have := hm.out; unfold maxLen; omega) (by have := hm.out; omega) (Nat.zero_le _) (w1.heap.size + 1) (by simp) ?_; intro gg cm' w6 hown6 hgr6 hat6 hlt6; have hB6 : Hid (Keeps NoBlk w w6) := (by exact (((hb.out.trans G1.out (fun _ _ h => h)).alloc _).grown hgr6 (fun kb e hlt => absurd (hq.out kb e) (by omega)))); have hO6 : Hid (mm + 1 = (enN x m (k + 1)).length ∧ w6.ownsRow 0 3 1 (.slice (some ⟨gg, 0, none⟩) (mm + 1) cm') (mm + 1) (ints (enN x m (k + 1)))) := (by rw [HQ.out]; refine ⟨by rw [List.length_append, hown.out.1]; rfl, ?_⟩; unfold ints; rw [List.map_append]; exact hown6); have hG6 : Hid (∀ kb, (Value.slice (some ⟨gg, 0, none⟩) (mm + 1) cm').ownBlock = some kb → w.heap.size ≤ kb) := (by intro kb e; simp [Value.ownBlock] at e; subst e; rcases hat6 with h | h; exact hq.out _ h; have := hb.out.size; omega); clear hown6 hgr6 hat6 hlt6))
        go_roundw
        case rel => exact ⟨k + 1, mm + 1, _, _, by omega, by go_num, rfl, hO6, hB6, hG6⟩
        case measure => simp [intOf]; omega
      · have e6 : (r == 0) = false := by rw [beq_eq_false_iff_ne]; exact hx
        have HQ : Hid (mm = (enN x m (k + 1)).length ∧ wr.ownsRow 0 3 1 (.slice adv mm capv) mm (ints (enN x m (k + 1)))) := by rw [HP.out, if_neg hx]; exact hown.out
        clear HP hown hx
        go_wp2_with (go_at_call 36; refine HR.out.mono ?_; rintro e w1 ⟨rfl, g1⟩; have G1 := Lib.hid g1; clear g1)
        exact ⟨⟨k + 1, mm, adv, capv, by omega, by go_num, rfl, ⟨HQ.out.1, ownsRow_keeps HQ.out.2 G1.out (fun _ _ h => h)⟩, hb.out.trans G1.out (fun _ _ h => h), hq⟩, by simp [intOf]; omega⟩
    · have hkn : k = n := by omega
      subst hkn
      clear hlt
      go_wp2
      go_ret
      obtain ⟨e, ho⟩ := hown.out
      subst e
      exact ⟨_, rfl, ho, hb.out, hq.out⟩

set_option maxHeartbeats 1000000 in
theorem vover_any (w : World) (T : Tags) (id b gf cf : Nat) (x : Img) (m : Mach) (h : VmAt w T id b gf cf x m) (hg : VGood x m) :
    Calls Try.prog 29 #[.pointer (some ⟨b, 0, none⟩)] w fun e w' => e = .returned (.bool (decide ((enabledN x m).length = 0))) ∧ Keeps NoBlk w w' := by
  have HE := Lib.hid (venabled_any w T id b gf cf x m h hg)
  clear h hg
  go_enter Try.func29, Try.ntmps29
  go_wp2_with (go_at_call 25; refine HE.out.mono ?_; rintro e w1 ⟨v, rfl, g1, g2, g3⟩; obtain ⟨ad, cap, ev⟩ : ∃ ad cap, v = .slice ad (enabledN x m).length cap := (by rcases g1.2 with ⟨e1, e2⟩ | ⟨g, cap, cur, e1, _⟩; exact ⟨none, 0, (by rw [e1, e2])⟩; exact ⟨_, _, e1⟩); subst ev; have G2 := Lib.hid g2; clear g1 g2 g3)
  go_ret
  refine ⟨?_, G2.out⟩
  have e : (((enabledN x m).length : Int) == 0) = decide ((enabledN x m).length = 0) := by
    by_cases h : (enabledN x m).length = 0
    · rw [h]; rfl
    · rw [decide_eq_false h, beq_eq_false_iff_ne]; omega
  simp only [go_sem]
  rw [e]
  rfl
end Go.Proofs.Ytmkfpkficmmlgaa
