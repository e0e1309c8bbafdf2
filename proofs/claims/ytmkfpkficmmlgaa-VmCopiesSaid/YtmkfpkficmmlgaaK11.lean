/- Package vm: what a step does, whole. -/
import Derived.Test.YtmkfpkficmmlgaaK10
namespace Go.Proofs.Ytmkfpkficmmlgaa
open Go.RowKit
set_option linter.unusedVariables false
set_option linter.unusedSimpArgs false
set_option linter.unnecessarySimpa false

set_option maxRecDepth 8000 in
set_option maxHeartbeats 2000000 in
theorem vds_start (w : World) (T : Tags) (id b gf cf : Nat) (x : Img) (m : Mach) (eb i : Nat) (k o : Int) (f : Fr) (h : VmAt w T id b gf cf x m) (hf : m.fr[i]? = some f) (hev : RowAt w eb [.int .i64 i, .int .i64 k, .int .i64 o, .int .i64 0, .int .i64 0]) (hT : T eb = none) (hm : MOk x m) (h8 : x.threads.length ≤ 8) (ka : Nat) (hka : ka < m.fr.length) (f2 : Fr) (hf2 : m.fr[ka]? = some f2) (b1 c : Int) (hs : f2.st = 1) (hc : codN x (x.cod ka) = true) :
    Calls Try.prog 38 #[.pointer (some ⟨b, 0, none⟩), .pointer (some ⟨eb, 0, none⟩), .agg #[.int .i64 26, .int .i64 ka, .int .i64 b1, .int .i64 c]] w (DoesEnd w T id b gf cf x eb i k o (beginN x m ka) 0 0) := by
  have hok := hm.each i f hf
  have hi : i < m.fr.length := (List.getElem?_eq_some_iff.1 hf).1
  have h8' : m.fr.length ≤ 8 := by rw [hm.len]; exact h8
  obtain ⟨cv, ov, dv, hb, hcore, hcode⟩ := h.ex
  obtain ⟨H, hF⟩ := hcore.frames
  obtain ⟨rv, ha, hr⟩ := hF.get hf
  have k0 := hb.cell (k := 0) (v := cv) rfl
  have k1 := hb.cell (k := 1) (v := ov) rfl
  have k3 := hb.cell (k := 3) (v := .slice (some ⟨gf, 0, none⟩) m.fr.length cf) rfl
  obtain ⟨t0, t1, t2⟩ := hF.three ha
  have hD0 : DP w T id b gf cf x eb i k o cv ov rv m 0 0 w := ⟨h, hev, k0, k1, t1, hT, Keeps.refl _ _⟩
  have v0 := hev.cell (k := 0) (v := .int .i64 i) rfl
  have v3 := hev.cell (k := 3) (v := .int .i64 0) rfl
  have v4 := hev.cell (k := 4) (v := .int .i64 0) rfl
  have g3 := hev.free (k := 3) (by simp)
  have g4 := hev.free (k := 4) (by simp)
  have i1 : (0 : Int) ≤ i := by omega
  have i2 : (i : Int) < m.fr.length := by omega
  have tb := h.tag
  have tf := h.frTag
  have lb : b < w.heap.size := World.block_lt_of_cell? w _ k3
  have le : eb < w.heap.size := World.block_lt_of_cell? w _ v0
  have lf : gf < w.heap.size := World.block_lt_of_cell? w _ t0
  have n1 : b ≠ w.heap.size := by omega
  have n2 : eb ≠ w.heap.size := by omega
  have n3 : gf ≠ w.heap.size := by omega
  have m1 : w.heap.size ≠ b := by omega
  have m2 : w.heap.size ≠ eb := by omega
  have m3 : w.heap.size ≠ gf := by omega
  have n4 : b ≠ eb := fun e => by rw [e, hT] at tb; cases tb
  have n5 : gf ≠ eb := fun e => by rw [e, hT] at tf; cases tf
  have m4 : eb ≠ b := fun e => n4 e.symm
  have m5 : eb ≠ gf := fun e => n5 e.symm
  obtain ⟨rv2, ha2, _⟩ := hF.get hf2
  have s0 := (hF.three ha2).1
  have ja1 : (0 : Int) ≤ ka := by omega
  have ja2 : (ka : Int) < m.fr.length := by omega
  rw [hs] at s0
  have HB : Hid (∀ W : World, Keeps NoBlk w W → Calls Try.prog 24 #[.pointer (some ⟨b, 0, none⟩), .int .i64 ka] W fun e w2 => e = .returned (.tuple #[]) ∧ DoesEnd w T id b gf cf x eb i k o (beginN x m ka) 0 0 (.returned (.tuple #[])) w2) := fun W hk =>
    (vbegin_any W T id b gf cf ka x m f2 (h.keeps hk (fun _ _ h => h)) hf2 (by rw [← hm.len]; exact hka) h8 hm.len hc (hm.each ka f2 hf2)).mono (fun e w2 h' => ⟨h'.1, rfl, h'.2.1, (hD0.quiet hk).ev.keeps h'.2.2 (fun h9 => hD0.nown.1 h9), (hk.mono (fun _ _ h => h.elim)).trans h'.2.2 (fun _ _ h => .inl h)⟩)
  clear h hf hev hm h8 hok hb hcore hcode hF ha hr hD0 tb tf hT hf2 ha2 hs hc
  go_enter Try.func38, Try.ntmps38
  go_wp2
  go_quiet (fail)
  go_wp2
  go_quiet (fail)
  go_wp2_with fail
  refine (HB.out _ (by repeat (first | exact Keeps.refl _ _ | apply Keeps.drew | apply Keeps.drewN | apply Keeps.alloc))).mono ?_
  rintro e w2 ⟨rfl, h9⟩
  have hfin := Lib.hid h9
  clear h9
  go_wp2
  refine Great.bodyPost_end0 (by rfl) (by rfl) ?_
  exact hfin.out

/-- what a step does -/
theorem vdo_any (w : World) (T : Tags) (id b gf cf : Nat) (x : Img) (m : Mach) (eb i : Nat) (k o : Int) (f : Fr) (h : VmAt w T id b gf cf x m) (hf : m.fr[i]? = some f) (hev : RowAt w eb [.int .i64 i, .int .i64 k, .int .i64 o, .int .i64 0, .int .i64 0]) (hT : T eb = none) (hg : VGood x m) (hr : f.st = 2) (h29 : ((x.cod i).at f.at_).op ≠ 29) :
    Calls Try.prog 38 #[.pointer (some ⟨b, 0, none⟩), .pointer (some ⟨eb, 0, none⟩), .agg #[.int .i64 ((x.cod i).at f.at_).op, .int .i64 ((x.cod i).at f.at_).a, .int .i64 ((x.cod i).at f.at_).b, .int .i64 ((x.cod i).at f.at_).c]] w
      (DoesEnd w T id b gf cf x eb i k o (stepN x m i ((x.cod i).at f.at_)).1 (stepN x m i ((x.cod i).at f.at_)).2.1 (stepN x m i ((x.cod i).at f.at_)).2.2) := by
  have h8 := (right_parts hg.right).1.2
  have hm := hg.ok
  have hop := steps_nine (hg.stands i f hf hr)
  obtain ⟨fa, fb, fc⟩ := insN_fit (hg.ins hf)
  have hgf : m.get i = f := by simp [Mach.get, List.getD, hf]
  have hok := hm.each i f hf
  unfold stepN
  simp only [hgf]
  generalize (x.cod i).at f.at_ = n at hop fa fb fc h29 ⊢
  obtain ⟨op, a, b', c⟩ := n
  dsimp only at hop fa fb fc h29 ⊢
  have regN : ∀ z, fitN x (x.cod i) 2 z = true → ∃ kz : Nat, z = kz ∧ kz < f.regs.length := fun z hz => by
    obtain ⟨h1, h2⟩ := fit_reg hok hz
    exact ⟨z.toNat, by omega, by omega⟩
  have celN : ∀ z, fitN x (x.cod i) 4 z = true → ∃ kz : Nat, z = kz ∧ kz < m.cells.length := fun z hz => by
    simp [fitN, mostN] at hz
    exact ⟨z.toNat, by omega, by rw [hm.cells]; omega⟩
  have ownN : ∀ z, fitN x (x.cod i) 5 z = true → ∃ kz : Nat, z = kz ∧ kz < m.owners.length := fun z hz => by
    simp [fitN, mostN] at hz
    have := hm.owners
    exact ⟨z.toNat, by omega, by omega⟩
  have thrN : ∀ z, fitN x (x.cod i) 6 z = true → ∃ kz : Nat, z = kz ∧ kz < m.fr.length := fun z hz => by
    simp [fitN, mostN] at hz
    have := hm.len
    exact ⟨z.toNat, by omega, by omega⟩
  rcases hop with rfl | rfl | rfl | rfl | rfl | rfl | rfl | rfl | rfl
  · simp [kindsN] at fa fb fc
    obtain ⟨ka, rfl, hka⟩ := regN a fa
    obtain ⟨kb, rfl, hkb⟩ := celN b' fb
    have := vds_read w T id b gf cf x m eb i k o f h hf hev hT hm h8 ka hka kb hkb c
    simpa [Fr.reg] using this
  · simp [kindsN] at fa fb fc
    obtain ⟨ka, rfl, hka⟩ := celN a fa
    obtain ⟨kb, rfl, hkb⟩ := regN b' fb
    have := vds_write w T id b gf cf x m eb i k o f h hf hev hT hm h8 ka hka kb hkb c
    simpa [Fr.reg] using this
  · simp [kindsN] at fa fb fc
    obtain ⟨ka, rfl, hka⟩ := regN a fa
    obtain ⟨kb, rfl, hkb⟩ := celN b' fb
    obtain ⟨kc, rfl, hkc⟩ := regN c fc
    have := vds_fetch w T id b gf cf x m eb i k o f h hf hev hT hm h8 ka hka kb hkb kc hkc
    simpa [Fr.reg] using this
  · simp [kindsN] at fa fb fc
    obtain ⟨ka, rfl, hka⟩ := ownN a fa
    have := vds_lock w T id b gf cf x m eb i k o f h hf hev hT hm h8 ka hka b' c
    simpa using this
  · simp [kindsN] at fa fb fc
    obtain ⟨ka, rfl, hka⟩ := ownN a fa
    by_cases hw : m.owners.getD ka 0 = i
    · have := vds_unlock w T id b gf cf x m eb i k o f h hf hev hT hm h8 ka hka b' c hw
      have e : m.owners[ka]?.getD 0 = i := by simpa [List.getD] using hw
      simpa [e] using this
    · have := vds_unlock1 w T id b gf cf x m eb i k o f h hf hev hT hm h8 ka hka b' c hw
      have e : ¬ m.owners[ka]?.getD 0 = i := by simpa [List.getD] using hw
      simpa [e] using this
  · simp [kindsN] at fa fb fc
    obtain ⟨ka, rfl, hka⟩ := thrN a fa
    obtain ⟨f2, hf2, hgf2⟩ := hg.get (i := ka) (by rw [← hm.len]; exact hka)
    by_cases hs : f2.st = 1
    · have := vds_start w T id b gf cf x m eb i k o f h hf hev hT hm h8 ka hka f2 hf2 b' c hs (right_cod hg.right (by rw [← hm.len]; exact hka))
      simpa [hgf2, hs] using this
    · have := vds_start1 w T id b gf cf x m eb i k o f h hf hev hT hm h8 ka hka f2 hf2 b' c hs
      simpa [hgf2, hs] using this
  · simp [kindsN] at fa fb fc
    obtain ⟨ka, rfl, hka⟩ := thrN a fa
    obtain ⟨f2, hf2, hgf2⟩ := hg.get (i := ka) (by rw [← hm.len]; exact hka)
    by_cases hs : f2.st = 1
    · have := vds_join1 w T id b gf cf x m eb i k o f h hf hev hT hm h8 ka hka f2 hf2 b' c hs
      simpa [hgf2, hs] using this
    · have := vds_join w T id b gf cf x m eb i k o f h hf hev hT hm h8 ka hka f2 hf2 b' c hs
      simpa [hgf2, hs] using this
  · simp [kindsN] at fa fb fc
    obtain ⟨ka, rfl, hka⟩ := regN a fa
    by_cases hz : f.regs.getD ka 0 = 0
    · have := vds_assert1 w T id b gf cf x m eb i k o f h hf hev hT hm h8 ka hka b' c hz
      have e : f.regs[ka]?.getD 0 = 0 := by simpa [List.getD] using hz
      simpa [Fr.reg, e] using this
    · have := vds_assert w T id b gf cf x m eb i k o f h hf hev hT hm h8 ka hka b' c hz
      have e : ¬ f.regs[ka]?.getD 0 = 0 := by simpa [List.getD] using hz
      simpa [Fr.reg, e] using this
  · exact absurd rfl h29
end Go.Proofs.Ytmkfpkficmmlgaa

/- Plain laws: a machine that may be stays one. -/
namespace Go.Proofs.Ytmkfpkficmmlgaa
open Go.RowKit
set_option linter.unusedVariables false
set_option linter.unusedSimpArgs false
set_option linter.unnecessarySimpa false

theorem doesF_st (f : Fr) (n : Ins) : (doesF f n).st = f.st := by
  unfold doesF
  repeat' split
  all_goals rfl
theorem loc_st (c : Cod) : ∀ (n : Nat) (f : Fr), (localF c n f).st = f.st ∨ (localF c n f).st = 4
  | 0, f => by
    unfold localF
    split
    · exact .inl rfl
    · exact .inr rfl
  | n + 1, f => by
    unfold localF
    split
    · exact .inl rfl
    · have := loc_st c n (doesF f (c.at f.at_))
      rwa [doesF_st] at this

theorem VGood.len {x : Img} {m : Mach} (h : VGood x m) : m.fr.length = x.threads.length := h.ok.len
theorem good_setFr {x : Img} {m : Mach} (h : VGood x m) (i : Nat) (f' : Fr) (h1 : FrOk (x.cod i) f') (h2 : f'.st = 2 → stepsN ((x.cod i).at f'.at_).op = true) (h3 : f'.st = 1 ∨ f'.st = 2 ∨ f'.st = 3 ∨ f'.st = 4) : VGood x (m.setFr i f') := by
  have key : ∀ (j : Nat) (f : Fr), (m.setFr i f').fr[j]? = some f → (j = i ∧ f = f') ∨ m.fr[j]? = some f := by
    intro j f hf
    unfold Mach.setFr at hf
    dsimp only at hf
    by_cases e : i = j
    · subst e
      rw [List.getElem?_set] at hf
      split at hf
      · split at hf
        · cases hf; exact .inl ⟨rfl, rfl⟩
        · cases hf
      · exact .inr hf
    · rw [List.getElem?_set_ne e] at hf
      exact .inr hf
  refine ⟨h.right, ⟨h.ok.cells, h.ok.owners, by simp [Mach.setFr]; exact h.ok.len, ?_⟩, ?_, ?_⟩
  · intro j f hf
    rcases key j f hf with ⟨rfl, rfl⟩ | h'
    · exact h1
    · exact h.ok.each j f h'
  · intro j f hf
    rcases key j f hf with ⟨rfl, rfl⟩ | h'
    · exact h2
    · exact h.stands j f h'
  · intro j f hf
    rcases key j f hf with ⟨rfl, rfl⟩ | h'
    · exact h3
    · exact h.sts j f h'
theorem good_cells {x : Img} {m : Mach} (h : VGood x m) (l : List Int) (hl : l.length = m.cells.length) : VGood x { m with cells := l } :=
  ⟨h.right, ⟨hl.trans h.ok.cells, h.ok.owners, h.ok.len, h.ok.each⟩, h.stands, h.sts⟩
theorem good_owners {x : Img} {m : Mach} (h : VGood x m) (l : List Int) (hl : l.length = m.owners.length) : VGood x { m with owners := l } :=
  ⟨h.right, ⟨h.ok.cells, by rw [← h.ok.owners]; exact congrArg _ hl, h.ok.len, h.ok.each⟩, h.stands, h.sts⟩
/-- all that is local, from a frame on that may be -/
theorem good_local {x : Img} {m : Mach} (h : VGood x m) (i : Nat) (hi : i < x.threads.length) (n : Nat) (f' : Fr) (h1 : FrOk (x.cod i) f') (h3 : f'.st = 1 ∨ f'.st = 2 ∨ f'.st = 3 ∨ f'.st = 4) : VGood x (m.setFr i (localF (x.cod i) n f')) := by
  refine good_setFr h i _ (loc_ok (right_cod h.right hi) n f' h1) (fun h2 => ?_) ?_
  · rcases loc_end (c := x.cod i) n f' with h4 | h4
    · exact h4
    · rw [h4] at h2; cases h2
  · rcases loc_st (x.cod i) n f' with h4 | h4
    · rw [h4]; exact h3
    · exact .inr (.inr (.inr h4))
theorem good_begin {x : Img} {m : Mach} (h : VGood x m) (i : Nat) (hi : i < x.threads.length) : VGood x (beginN x m i) := by
  obtain ⟨f, hf, hg⟩ := h.get hi
  unfold beginN
  rw [hg]
  exact good_local h i hi _ _ ⟨(h.ok.each i f hf).regs, (h.ok.each i f hf).at_⟩ (.inr (.inl rfl))
theorem get_setFr_ne (m : Mach) (i j : Nat) (f : Fr) (h : i ≠ j) : (m.setFr i f).fr[j]? = m.fr[j]? := by
  unfold Mach.setFr
  exact List.getElem?_set_ne h
theorem get_setFr_eq (m : Mach) (i : Nat) (f : Fr) (h : i < m.fr.length) : (m.setFr i f).fr[i]? = some f := List.getElem?_set_self h

/-- what a step leaves of its own thread, and that the machine may still be -/
theorem step_ok {x : Img} {m : Mach} (h : VGood x m) (i : Nat) (f : Fr) (hf : m.fr[i]? = some f) (hr : f.st = 2) (h29 : ((x.cod i).at f.at_).op ≠ 29) :
    VGood x (stepN x m i ((x.cod i).at f.at_)).1 ∧ ∃ f1, (stepN x m i ((x.cod i).at f.at_)).1.fr[i]? = some f1 ∧ f1.at_ = f.at_ ∧ f1.st = 2 ∧ f1.regs.length = f.regs.length := by
  have hi : i < m.fr.length := (List.getElem?_eq_some_iff.1 hf).1
  have hi2 : i < x.threads.length := by rw [← h.len]; exact hi
  have hgf : m.get i = f := by simp [Mach.get, List.getD, hf]
  have hok := h.ok.each i f hf
  have hst := h.stands i f hf hr
  obtain ⟨fa, fb, fc⟩ := insN_fit (h.ins hf)
  have hput : ∀ (m' : Mach) z v, VGood x m' → m'.fr = m.fr → VGood x (m'.setFr i (f.put z v)) ∧ ∃ f1, (m'.setFr i (f.put z v)).fr[i]? = some f1 ∧ f1.at_ = f.at_ ∧ f1.st = 2 ∧ f1.regs.length = f.regs.length := by
    intro m' z v hm' hfr
    refine ⟨good_setFr hm' i _ ⟨by simp [Fr.put]; exact hok.regs, hok.at_⟩ (fun _ => hst) (.inr (.inl hr)), f.put z v, get_setFr_eq _ _ _ (by rw [hfr]; exact hi), rfl, hr, by simp [Fr.put]⟩
  have hsame : ∀ m' : Mach, VGood x m' → m'.fr = m.fr → VGood x m' ∧ ∃ f1, m'.fr[i]? = some f1 ∧ f1.at_ = f.at_ ∧ f1.st = 2 ∧ f1.regs.length = f.regs.length := fun m' hm' hfr => ⟨hm', f, by rw [hfr]; exact hf, rfl, hr, rfl⟩
  unfold stepN
  simp only [hgf]
  generalize (x.cod i).at f.at_ = n at hst fa fb fc h29 ⊢
  obtain ⟨op, a, b', c⟩ := n
  dsimp only at hst fa fb fc h29 ⊢
  rcases steps_nine hst with rfl | rfl | rfl | rfl | rfl | rfl | rfl | rfl | rfl
  · simp; exact hput m _ _ h rfl
  · simp; exact hsame _ (good_cells h _ (by simp)) rfl
  · simp; exact hput _ _ _ (good_cells h _ (by simp)) rfl
  · simp; exact hsame _ (good_owners h _ (by simp)) rfl
  · simp
    split
    · exact hsame _ (good_owners h _ (by simp)) rfl
    · exact hsame m h rfl
  · simp [kindsN, fitN, mostN] at fa
    simp
    split
    · rename_i hs
      have hk : a.toNat < x.threads.length := by omega
      obtain ⟨f2, hf2, hg2⟩ := h.get hk
      have hne : a.toNat ≠ i := fun e => by rw [e, hgf] at hs; omega
      refine ⟨good_begin h _ hk, f, ?_, rfl, hr, rfl⟩
      unfold beginN
      rw [get_setFr_ne _ _ _ _ hne]
      exact hf
    · exact hsame m h rfl
  · simp
    split
    · exact hsame m h rfl
    · exact hsame m h rfl
  · simp
    split
    · exact hsame m h rfl
    · exact hsame m h rfl
  · exact absurd rfl h29

/-- a step that is not a thread's last stands ahead of another instruction -/
theorem step_next {x : Img} {m : Mach} (h : VGood x m) (i : Nat) (f : Fr) (hf : m.fr[i]? = some f) (hr : f.st = 2) (h29 : ((x.cod i).at f.at_).op ≠ 29) : f.at_ + 1 < (x.cod i).ins.length := by
  have hi2 : i < x.threads.length := by rw [← h.len]; exact (List.getElem?_eq_some_iff.1 hf).1
  have hok := h.ok.each i f hf
  have hst := steps_nine (h.stands i f hf hr)
  obtain ⟨_, _, hl, _⟩ := codN_parts (right_cod h.right hi2)
  rcases Nat.lt_or_ge (f.at_ + 1) (x.cod i).ins.length with h1 | h1
  · exact h1
  · have e : f.at_ = (x.cod i).ins.length - 1 := by have := hok.at_; omega
    unfold lastOp at hl
    rw [← e] at hl
    omega
theorem done_ok {x : Img} {m : Mach} (h : VGood x m) (i : Nat) (f : Fr) (hf : m.fr[i]? = some f) (hr : f.st = 2) : VGood x (doneN x m i).1 := by
  have hi : i < m.fr.length := (List.getElem?_eq_some_iff.1 hf).1
  have hi2 : i < x.threads.length := by rw [← h.len]; exact hi
  have hgf : m.get i = f := by simp [Mach.get, List.getD, hf]
  have hok := h.ok.each i f hf
  unfold doneN
  simp only [hgf]
  by_cases h29 : ((x.cod i).at f.at_).op = 29
  · rw [if_pos h29]
    exact good_setFr h i _ ⟨hok.regs, hok.at_⟩ (fun h' => by cases h') (.inr (.inr (.inl rfl)))
  · rw [if_neg h29]
    obtain ⟨h1, f1, e1, e2, e3, e4⟩ := step_ok h i f hf hr h29
    have hg1 : (stepN x m i ((x.cod i).at f.at_)).1.get i = f1 := by simp [Mach.get, List.getD, e1]
    rw [hg1]
    have hok1 := h1.ok.each i f1 e1
    split
    · exact good_setFr h1 i _ ⟨hok1.regs, hok1.at_⟩ (fun h' => by cases h') (.inr (.inr (.inr rfl)))
    · exact good_local h1 i hi2 _ _ ⟨hok1.regs, by show f1.at_ + 1 < _; rw [e2]; exact step_next h i f hf hr h29⟩ (.inr (.inl e3))
end Go.Proofs.Ytmkfpkficmmlgaa
