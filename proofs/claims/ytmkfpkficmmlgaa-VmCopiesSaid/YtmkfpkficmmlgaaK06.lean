/- Plain laws of the machine: a code that may be never leaves its bounds. -/
import Derived.Test.YtmkfpkficmmlgaaK05
namespace Go.Proofs.Ytmkfpkficmmlgaa
open Go.RowKit
set_option linter.unusedVariables false
set_option linter.unusedSimpArgs false
set_option linter.unnecessarySimpa false

/-- a thread stands within its code, with its registers -/
structure FrOk (c : Cod) (f : Fr) : Prop where
  regs : (f.regs.length : Int) = c.regs
  at_ : f.at_ < c.ins.length

theorem codN_parts {x : Img} {c : Cod} (h : codN x c = true) : (0 ≤ c.regs ∧ c.regs ≤ 64) ∧ (1 ≤ c.ins.length ∧ c.ins.length ≤ 4000) ∧ (lastOp c = 29 ∨ lastOp c = 18) ∧ ∀ i ∈ c.ins, insN x c i = true := by
  simp only [codN, Bool.and_eq_true, Bool.or_eq_true, decide_eq_true_eq, List.all_eq_true] at h
  exact ⟨h.1.1.1, h.1.1.2, h.1.2, h.2⟩
theorem Cod.at_mem (c : Cod) (k : Nat) (hk : k < c.ins.length) : c.at k ∈ c.ins := by
  simp [Cod.at, List.getD, hk]

theorem insN_op {x : Img} {c : Cod} {i : Ins} (h : insN x c i = true) : 1 ≤ i.op ∧ i.op ≤ 29 := by
  simp only [insN, Bool.and_eq_true, decide_eq_true_eq] at h
  exact h.1
theorem insN_fit {x : Img} {c : Cod} {i : Ins} (h : insN x c i = true) : fitN x c (kindsN i.op).1 i.a = true ∧ fitN x c (kindsN i.op).2.1 i.b = true ∧ fitN x c (kindsN i.op).2.2 i.c = true := by
  simp only [insN, Bool.and_eq_true, decide_eq_true_eq] at h
  exact ⟨h.2.1.1, h.2.1.2, h.2.2⟩
theorem fit_reg {x : Img} {c : Cod} {f : Fr} {n : Int} (hf : FrOk c f) (h : fitN x c 2 n = true) : RegOk f n := by
  simp [fitN, mostN] at h
  have := hf.regs
  exact ⟨h.1, by omega⟩
theorem fit_ins {x : Img} {c : Cod} {n : Int} (h : fitN x c 3 n = true) : 0 ≤ n ∧ n < c.ins.length := by
  simpa [fitN, mostN] using h

theorem loc_fit {x : Img} {c : Cod} {f : Fr} (hc : codN x c = true) (hf : FrOk c f) (hs : stepsN (c.at f.at_).op = false) :
    LocFit f (c.at f.at_) ∧ FrOk c (doesF f (c.at f.at_)) := by
  obtain ⟨h1, h2, h3, h4⟩ := codN_parts hc
  have hi := h4 _ (c.at_mem f.at_ hf.at_)
  have hop := insN_op hi
  obtain ⟨fa, fb, fc⟩ := insN_fit hi
  have hnext : (c.at f.at_).op ≠ 18 → f.at_ + 1 < c.ins.length := by
    intro hne
    rcases Nat.lt_or_ge (f.at_ + 1) c.ins.length with h | h
    · exact h
    · exfalso
      have e : f.at_ = c.ins.length - 1 := by have := hf.at_; omega
      have hl : (c.at f.at_).op = 29 ∨ (c.at f.at_).op = 18 := by rw [e]; exact h3
      rcases hl with hl | hl
      · rw [hl] at hs; simp [stepsN] at hs
      · exact hne hl
  generalize c.at f.at_ = I at hi hop fa fb fc hs hnext ⊢
  obtain ⟨op, a, b, d⟩ := I
  try dsimp only at hop
  try dsimp only at fa
  try dsimp only at fb
  try dsimp only at fc
  try dsimp only at hs
  try dsimp only at hnext
  have hlow : op < 21 := by
    simp [stepsN] at hs
    omega
  have hput : ∀ k v, FrOk c f.on → FrOk c (f.on.put k v) := fun k v h => ⟨by simp [Fr.put, Fr.on]; exact hf.regs, h.at_⟩
  have hon : op ≠ 18 → FrOk c f.on := fun h => ⟨hf.regs, hnext h⟩
  have hto : ∀ g : Fr, g.regs.length = f.regs.length → ∀ n : Int, 0 ≤ n ∧ n < c.ins.length → FrOk c (g.to n) := fun g hg n hn => ⟨by simp [Fr.to, hg]; exact hf.regs, by show n.toNat < _; omega⟩
  unfold LocFit doesF
  dsimp only
  by_cases e1 : op = 1
  · subst e1
    simp [kindsN] at fa fb fc
    simp only [if_pos]
    exact ⟨fit_reg hf fa, hput _ _ (hon (by decide))⟩
  by_cases e2 : op = 2
  · subst e2
    simp [kindsN] at fa fb fc
    simp
    exact ⟨⟨fit_reg hf fa, fit_reg hf fb⟩, hput _ _ (hon (by decide))⟩
  by_cases e3 : op = 3
  · subst e3
    simp [kindsN] at fa fb fc
    simp
    exact ⟨⟨fit_reg hf fa, fit_reg hf fb⟩, hput _ _ (hon (by decide))⟩
  by_cases e4 : op = 4
  · subst e4
    simp [kindsN] at fa fb fc
    simp
    exact ⟨⟨fit_reg hf fa, fit_reg hf fb⟩, hput _ _ (hon (by decide))⟩
  by_cases e18 : op = 18
  · subst e18
    simp [kindsN] at fa fb fc
    simp
    exact ⟨(fit_ins fa).1, hto _ rfl _ (fit_ins fa)⟩
  by_cases e19 : op = 19
  · subst e19
    simp [kindsN] at fa fb fc
    simp
    refine ⟨⟨fit_reg hf fa, (fit_ins fb).1⟩, ?_⟩
    split
    · exact hto _ rfl _ (fit_ins fb)
    · exact hon (by decide)
  by_cases e20 : op = 20
  · subst e20
    simp [kindsN] at fa fb fc
    simp
    refine ⟨⟨fit_reg hf fa, (fit_ins fb).1⟩, ?_⟩
    split
    · exact hto _ (by simp [Fr.put]) _ (fit_ins fb)
    · exact hput _ _ (hon (by decide))
  have hk : kindsN op = (2, 2, 2) := by
    unfold kindsN
    simp [e1, e2, e3, e4, e18, e19, e20, show op ≠ 21 by omega, show op ≠ 22 by omega, show op ≠ 23 by omega, show op ≠ 24 by omega, show op ≠ 25 by omega, show op ≠ 26 by omega, show op ≠ 27 by omega, show op ≠ 28 by omega, show op ≠ 29 by omega]
  rw [hk] at fa fb fc
  simp only [e1, e2, e3, e4, e18, e19, e20, if_false, or_self]
  exact ⟨⟨by omega, fit_reg hf fa, fit_reg hf fb, fit_reg hf fc⟩, hput _ _ (hon e18)⟩

theorem loc_ok {x : Img} {c : Cod} (hc : codN x c = true) : ∀ (n : Nat) (f : Fr), FrOk c f → FrOk c (localF c n f)
  | 0, f, hf => by
    unfold localF
    split
    · exact hf
    · exact ⟨hf.regs, hf.at_⟩
  | n + 1, f, hf => by
    unfold localF
    split
    · exact hf
    · rename_i h
      exact loc_ok hc n _ (loc_fit hc hf (by simpa using h)).2
/-- behind all that is local a thread stands ahead of a step, or has failed -/
theorem loc_end {c : Cod} : ∀ (n : Nat) (f : Fr), stepsN (c.at (localF c n f).at_).op = true ∨ (localF c n f).st = 4
  | 0, f => by
    unfold localF
    split
    · left; assumption
    · right; rfl
  | n + 1, f => by
    unfold localF
    split
    · left; assumption
    · exact loc_end n _

theorem beqZ (v : Int) : (v == 0) = decide (v = 0) := by by_cases h : v = 0 <;> simp [h]
theorem int_nat {k : Int} (h : 0 ≤ k) : ∃ n : Nat, k = n := ⟨k.toNat, by omega⟩
section
variable (w : World) (T : Tags) (id g : Nat) (H : List HFr) (fr : List Fr) (i : Nat) (f : Fr)
theorem vdoes_any (hF : FrG w T id g H fr) (hf : fr[i]? = some f) (hat : f.at_ < 4000) (n : Ins) (hfit : LocFit f n) :
    Calls Try.prog 48 #[.pointer (some ⟨g, i * 3, none⟩), .agg #[.int .i64 n.op, .int .i64 n.a, .int .i64 n.b, .int .i64 n.c]] w fun e w' => ∃ rv, LocPost w T id g fr i rv (doesF f n) e w' := by
  obtain ⟨rv, ha, hr⟩ := hF.get hf
  have hat' : (f.at_ : Int) < 4000 := by omega
  have hreg : ∀ k, RegOk f k → ∃ (ka : Nat) (gr cap : Nat), k = ka ∧ ka < f.regs.length ∧ rv = .slice (some ⟨gr, 0, none⟩) f.regs.length cap ∧ T gr = some (id, .regs i) := by
    intro k hk
    have hk' : k.toNat < f.regs.length := by have := hk.1; have := hk.2; omega
    obtain ⟨gr, cap, e1, e2, _⟩ := hr.at hk'
    exact ⟨k.toNat, gr, cap, by have := hk.1; omega, hk', e1, e2⟩
  have hreg2 : ∀ k, RegOk f k → ∃ ka : Nat, k = ka ∧ ka < f.regs.length := fun k hk => ⟨k.toNat, by have := hk.1; omega, by have := hk.1; have := hk.2; omega⟩
  have fin : ∀ {rv f'}, Calls Try.prog 48 #[.pointer (some ⟨g, i * 3, none⟩), .agg #[.int .i64 n.op, .int .i64 n.a, .int .i64 n.b, .int .i64 n.c]] w (LocPost w T id g fr i rv f') → f' = doesF f n → Calls Try.prog 48 #[.pointer (some ⟨g, i * 3, none⟩), .agg #[.int .i64 n.op, .int .i64 n.a, .int .i64 n.b, .int .i64 n.c]] w fun e w' => ∃ rv, LocPost w T id g fr i rv (doesF f n) e w' := by
    intro rv f' h e
    subst e
    exact h.mono (fun e w' h => ⟨_, h⟩)
  obtain ⟨op, a, b, c⟩ := n
  unfold LocFit at hfit
  dsimp only at hfit ⊢ fin
  by_cases e1 : op = 1
  · subst e1
    simp at hfit
    obtain ⟨ka, gr, cap, rfl, hka, rfl, hT⟩ := hreg a hfit
    exact fin (vdoes_const w T id g H fr i f gr cap hF hf hat' ha hT ka hka b c) (by simp [doesF])
  by_cases e2 : op = 2
  · subst e2
    simp at hfit
    obtain ⟨ka, gr, cap, rfl, hka, rfl, hT⟩ := hreg a hfit.1
    obtain ⟨kb, rfl, hkb⟩ := hreg2 b hfit.2
    exact fin (vdoes_move w T id g H fr i f gr cap hF hf hat' ha hT ka hka kb hkb c) (by simp [doesF, Fr.reg])
  by_cases e3 : op = 3
  · subst e3
    simp at hfit
    obtain ⟨ka, gr, cap, rfl, hka, rfl, hT⟩ := hreg a hfit.1
    obtain ⟨kb, rfl, hkb⟩ := hreg2 b hfit.2
    exact fin (vdoes_neg w T id g H fr i f gr cap hF hf hat' ha hT ka hka kb hkb c) (by simp [doesF, Fr.reg])
  by_cases e4 : op = 4
  · subst e4
    simp at hfit
    obtain ⟨ka, gr, cap, rfl, hka, rfl, hT⟩ := hreg a hfit.1
    obtain ⟨kb, rfl, hkb⟩ := hreg2 b hfit.2
    exact fin (vdoes_not w T id g H fr i f gr cap hF hf hat' ha hT ka hka kb hkb c) (by rw [beqZ]; simp [doesF, Fr.reg])
  by_cases e18 : op = 18
  · subst e18
    simp at hfit
    obtain ⟨ka, rfl⟩ := int_nat hfit
    exact fin (vdoes_jump w T id g H fr i f hF hf hat' rv ha ka b c) (by simp [doesF])
  by_cases e19 : op = 19
  · subst e19
    simp at hfit
    obtain ⟨ka, gr, cap, rfl, hka, rfl, hT⟩ := hreg a hfit.1
    obtain ⟨kb, rfl⟩ := int_nat hfit.2
    by_cases hz : f.regs.getD ka 0 = 0
    · exact fin (vdoes_unless0 w T id g H fr i f gr cap hF hf hat' ha hT ka hka kb c hz) (by simp only [doesF, Fr.reg, Int.toNat_natCast, hz]; rfl)
    · exact fin (vdoes_unless1 w T id g H fr i f gr cap hF hf hat' ha hT ka hka kb c hz) (by simp only [doesF, Fr.reg, Int.toNat_natCast, hz]; rfl)
  by_cases e20 : op = 20
  · subst e20
    simp at hfit
    obtain ⟨ka, gr, cap, rfl, hka, rfl, hT⟩ := hreg a hfit.1
    obtain ⟨kb, rfl⟩ := int_nat hfit.2
    by_cases hz : 0 < w64 (f.regs.getD ka 0 - 1)
    · exact fin (vdoes_again1 w T id g H fr i f gr cap hF hf hat' ha hT ka hka kb c hz) (by simp only [doesF, Fr.reg, Int.toNat_natCast, hz]; rfl)
    · exact fin (vdoes_again0 w T id g H fr i f gr cap hF hf hat' ha hT ka hka kb c (Int.not_lt.1 hz)) (by simp only [doesF, Fr.reg, Int.toNat_natCast, hz]; rfl)
  simp only [e1, e2, e3, e4, e18, e19, e20, if_false, or_self] at hfit
  obtain ⟨hop, ha', hb', hc'⟩ := hfit
  obtain ⟨ka, gr, cap, rfl, hka, rfl, hT⟩ := hreg a ha'
  obtain ⟨kb, rfl, hkb⟩ := hreg2 b hb'
  obtain ⟨kc, rfl, hkc⟩ := hreg2 c hc'
  exact fin (vdoes_reck w T id g H fr i f gr cap hF hf hat' ha hT ka hka kb hkb kc hkc op hop) (by simp [doesF, Fr.reg, e1, e2, e3, e4, e18, e19, e20])
end
end Go.Proofs.Ytmkfpkficmmlgaa

/- Package vm: local: all that is, up to a step. -/
namespace Go.Proofs.Ytmkfpkficmmlgaa
open Go.RowKit
set_option linter.unusedVariables false
set_option linter.unusedSimpArgs false
set_option linter.unnecessarySimpa false

/-- a machine within its bounds -/
structure MOk (x : Img) (m : Mach) : Prop where
  cells : m.cells.length = x.cells.length
  owners : (m.owners.length : Int) = x.mutexes
  len : m.fr.length = x.threads.length
  each : ∀ i f, m.fr[i]? = some f → FrOk (x.cod i) f
theorem VmAt.frames {w w' : World} {T : Tags} {id b gf cf i : Nat} {x : Img} {m : Mach} {H' : List HFr} {fr' : List Fr} (h : VmAt w T id b gf cf x m) (hk : Keeps (fun k => k = gf ∨ T k = some (id, .regs i)) w w')
    (hF : FrG w' T id gf H' fr') (hl : fr'.length = m.fr.length) : VmAt w' T id b gf cf x { m with fr := fr' } := by
  obtain ⟨cv, ov, dv, h1, h2, h3⟩ := h.ex
  have hg : T gf = some (id, .frames) := hF.tag
  have hn : ∀ k t, T k = some (id, t) → t ≠ .frames → t ≠ .regs i → ¬ (k = gf ∨ T k = some (id, .regs i)) := by
    rintro k t e n1 n2 (rfl | e')
    · rw [e] at hg; simp at hg; exact n1 hg
    · rw [e] at e'; simp at e'; exact n2 e'
  refine ⟨h.tag, fun k y e => Nat.lt_of_lt_of_le (h.ok k y e) hk.size, cv, ov, dv, ?_, ⟨h2.cells.keeps hk (fun k e => hn k _ e (by simp) (by simp)), h2.owners.keeps hk (fun k e => hn k _ e (by simp) (by simp)), H', hF⟩, ?_⟩
  · rw [show ({ m with fr := fr' } : Mach).fr.length = m.fr.length from hl]
    exact h1.keeps hk (hn b _ h.tag (by simp) (by simp))
  · refine h3.keeps hk (fun k e => ?_)
    obtain ⟨id', e⟩ := e
    rintro (rfl | e')
    · rw [e] at hg; simp at hg
    · rw [e] at e'; simp at e'
theorem Mach.setFr_self (m : Mach) (i : Nat) (f : Fr) (h : m.fr[i]? = some f) : m.setFr i f = m := by
  obtain ⟨hi, e⟩ := List.getElem?_eq_some_iff.1 h
  unfold Mach.setFr
  rw [← e, List.set_getElem_self]
theorem Mach.setFr_set (m : Mach) (i : Nat) (f g : Fr) : (m.setFr i f).setFr i g = m.setFr i g := by
  unfold Mach.setFr
  simp
theorem own_fr {T : Tags} {id gf i : Nat} (h : T gf = some (id, .frames)) : ∀ k, (k = gf ∨ T k = some (id, .regs i)) → Own T id k := by
  rintro k (rfl | e)
  · exact ⟨_, h, by simp⟩
  · exact ⟨_, e, by simp⟩

theorem loc_stop (c : Cod) (n : Nat) (f : Fr) (h : stepsN (c.at f.at_).op = true) : localF c n f = f := by
  cases n <;> simp [localF, h]
theorem loc_next (c : Cod) (n : Nat) (f : Fr) (h : stepsN (c.at f.at_).op = false) : localF c (n + 1) f = localF c n (doesF f (c.at f.at_)) := by
  simp [localF, h]
theorem loc_zero (c : Cod) (f : Fr) (h : stepsN (c.at f.at_).op = false) : localF c 0 f = { f with st := 4 } := by
  simp [localF, h]
/-- what local needs to see of a machine -/
theorem VmAt.view {w : World} {T : Tags} {id b gf cf : Nat} {x : Img} {m : Mach} (h : VmAt w T id b gf cf x m) {i : Nat} {f : Fr} (hf : m.fr[i]? = some f) (hx : i < x.threads.length) (hat : f.at_ < (x.cod i).ins.length) :
    ∃ H gd cd gi oi ci rv, FrG w T id gf H m.fr ∧ H[i]? = some ⟨f.st, rv, f.at_⟩ ∧
      w.cell? ⟨b, 2, none⟩ = some (.slice (some ⟨gd, 0, none⟩) x.threads.length cd) ∧ w.cell? ⟨b, 3, none⟩ = some (.slice (some ⟨gf, 0, none⟩) m.fr.length cf) ∧
      w.cell? ⟨gd, i, none⟩ = some (.slice (some ⟨gi, oi, none⟩) (x.cod i).ins.length ci) ∧
      w.cell? ⟨gi, oi + f.at_ * 4, none⟩ = some (.int .i64 ((x.cod i).at f.at_).op) ∧ w.cell? ⟨gi, oi + f.at_ * 4 + 1, none⟩ = some (.int .i64 ((x.cod i).at f.at_).a) ∧
      w.cell? ⟨gi, oi + f.at_ * 4 + 2, none⟩ = some (.int .i64 ((x.cod i).at f.at_).b) ∧ w.cell? ⟨gi, oi + f.at_ * 4 + 3, none⟩ = some (.int .i64 ((x.cod i).at f.at_).c) ∧
      w.cell? ⟨gf, i * 3, none⟩ = some (.int .i64 f.st) ∧ w.cell? ⟨gf, i * 3 + 2, none⟩ = some (.int .i64 f.at_) ∧ w.frozen? ⟨gf, i * 3, none⟩ = false := by
  obtain ⟨cv, ov, dv, h1, h2, h3⟩ := h.ex
  obtain ⟨H, hF⟩ := h2.frames
  obtain ⟨rv, ha, _⟩ := hF.get hf
  obtain ⟨gd, cd, rfl, _, hd⟩ := h3
  obtain ⟨u, hu, ad, ci, rfl, hins⟩ := hd i hx
  obtain ⟨gi, oi, rfl, _, c0, c1, c2, c3⟩ := hins f.at_ hat
  obtain ⟨t0, t1, t2⟩ := hF.three ha
  exact ⟨H, gd, cd, gi, oi, ci, rv, hF, ha, h1.cell (k := 2) rfl, h1.cell (k := 3) rfl, hu, c0, c1, c2, c3, t0, t2, hF.free (List.getElem?_eq_some_iff.1 hf).1 0 (by decide)⟩

set_option maxRecDepth 8000 in
set_option maxHeartbeats 2000000 in
theorem vlocal_any (w : World) (T : Tags) (id b gf cf i : Nat) (x : Img) (m : Mach) (f : Fr) (h : VmAt w T id b gf cf x m) (hf : m.fr[i]? = some f) (hx : i < x.threads.length) (h8 : x.threads.length ≤ 8) (hl : m.fr.length = x.threads.length)
    (hc : codN x (x.cod i) = true) (hok : FrOk (x.cod i) f) :
    Calls Try.prog 39 #[.pointer (some ⟨b, 0, none⟩), .int .i64 i] w fun e w' => e = .returned (.tuple #[]) ∧ VmAt w' T id b gf cf x (m.setFr i (localF (x.cod i) 100000 f)) ∧ Keeps (Own T id) w w' := by
  obtain ⟨H, gd, cd, gi, oi, ci, rv, hF, ha, k2, k3, u1, c0, c1, c2, c3, t0, t2, ff⟩ := h.view hf hx hok.at_
  have hl4 : (x.cod i).ins.length ≤ 4000 := (codN_parts hc).2.1.2
  have i1 : (0 : Int) ≤ i := by omega
  have i2 : (i : Int) < x.threads.length := by omega
  have i2' : (i : Int) < m.fr.length := by omega
  have HH : Hid (VmAt w T id b gf cf x (m.setFr i f)) := by rw [m.setFr_self i f hf]; exact h
  have HOK := Lib.hid hok
  have HC := Lib.hid hc
  have HX := Lib.hid hx
  have HI : Hid (i < m.fr.length) := (List.getElem?_eq_some_iff.1 hf).1
  have HL4 := Lib.hid hl4
  clear h hf hok hc hF ha c0 c1 c2 c3 t0 t2 ff u1 hx hl4
  go_enter Try.func39, Try.ntmps39
  go_wp2
  go_loopw [12] (fun n wr => ∃ (k : Nat) (f' : Fr), k ≤ 100000 ∧ n = .int .i64 k ∧ Hid (VmAt wr T id b gf cf x (m.setFr i f') ∧ FrOk (x.cod i) f' ∧ localF (x.cod i) (100000 - k) f' = localF (x.cod i) 100000 f ∧ Keeps (Own T id) w wr)) (fun n _ => 100000 - (intOf n).toNat)
  case atStart => exact ⟨0, f, Nat.zero_le _, rfl, HH.out, HOK.out, rfl, Keeps.refl _ _⟩
  case round =>
    obtain ⟨k, f', hk, rfl, hrel⟩ := hrel
    obtain ⟨hv, hok, hloc, hkp⟩ := hrel.out
    have hf' : (m.setFr i f').fr[i]? = some f' := List.getElem?_set_self HI.out
    obtain ⟨H, gd, cd, gi, oi, ci, rv, hF, ha, k2, k3, u1, c0, c1, c2, c3, t0, t2, ff⟩ := hv.view hf' HX.out hok.at_
    have hlen : (m.setFr i f').fr.length = m.fr.length := by simp [Mach.setFr]
    rw [hlen] at k3
    have j1 : (0 : Int) ≤ f'.at_ := by omega
    have j2 : (f'.at_ : Int) < (x.cod i).ins.length := by have := hok.at_; omega
    obtain ⟨I, hI⟩ : ∃ I : Ins, I = (x.cod i).at f'.at_ := ⟨_, rfl⟩
    have HIN := Lib.hid hI
    rw [← hI] at c0 c1 c2 c3
    have HV := Lib.hid hv
    have HF := Lib.hid hF
    have HA := Lib.hid ha
    have HOK2 := Lib.hid hok
    have HLOC := Lib.hid hloc
    have HKP := Lib.hid hkp
    have HF2 := Lib.hid hf'
    have qi : gi < wr.heap.size := World.block_lt_of_cell? wr _ c0
    have qf : gf < wr.heap.size := World.block_lt_of_cell? wr _ t0
    have qb : b < wr.heap.size := World.block_lt_of_cell? wr _ k2
    have qd : gd < wr.heap.size := World.block_lt_of_cell? wr _ u1
    have qb1 : b ≠ wr.heap.size := by omega
    have qd1 : gd ≠ wr.heap.size := by omega
    have qi1 : gi ≠ wr.heap.size := by omega
    have qf1 : gf ≠ wr.heap.size := by omega
    have qf2 : wr.heap.size ≠ gf := by omega
    clear hv hok hloc hkp hF ha hI hlen hf' hrel
    by_cases hlt : k < 100000
    · have i3 : (0 : Int) ≤ k := by omega
      have i4 : (k : Int) < 100000 := by omega
      cases hs : stepsN I.op with
      | true =>
        have HS := Lib.hid hs
        clear hs
        go_wp2
        go_region
        all_goals go_wp2_with (go_at_call 47; refine (steps_any _ _).mono ?_; rintro e w' ⟨rfl, rfl⟩; rw [HS.out])
        all_goals (
          refine bodyPost_ret (results_none (by rfl) _ _ _) (by rfl) ?_
          have hl0 : localF (x.cod i) (100000 - k) f' = f' := loc_stop _ _ _ (by rw [← HIN.out]; exact HS.out)
          refine ⟨rfl, ?_, ?_⟩
          · rw [← HLOC.out, hl0]
            exact HV.out.keeps (S := NoBlk) (((Keeps.refl _ wr).alloc _).drew) (fun _ _ h => h)
          · exact (HKP.out.alloc _).drew)
      | false =>
        have HS := Lib.hid hs
        clear hs
        go_wp2
        go_region
        all_goals go_wp2_with (go_at_call 47; refine (steps_any _ _).mono ?_; rintro e w' ⟨rfl, rfl⟩; rw [HS.out])
        obtain ⟨W, hW⟩ : ∃ W, W = (wr.alloc (.cells #[.int .i64 I.op, .int .i64 I.a, .int .i64 I.b, .int .i64 I.c] 48)).drew := ⟨_, rfl⟩
        have hKW : Keeps NoBlk wr W := by rw [hW]; exact ((Keeps.refl _ wr).alloc _).drew
        rw [← hW]
        have hfit := loc_fit HC.out HOK2.out (by rw [← HIN.out]; exact HS.out)
        rw [← HIN.out] at hfit
        refine (vdoes_any W T id gf H _ i f' (HF.out.keeps hKW (fun _ _ h => h)) HF2.out (Nat.lt_of_lt_of_le HOK2.out.at_ HL4.out) I hfit.1).mono ?_
        rintro e w2 ⟨rv2, rfl, ⟨H2, hF2, _⟩, hK2⟩
        have hv2 := (HV.out.keeps hKW (fun _ _ h => h)).frames hK2 hF2 (by simp)
        have hl1 : localF (x.cod i) (100000 - k) f' = localF (x.cod i) (100000 - (k + 1)) (doesF f' I) := by
          rw [show 100000 - k = (100000 - (k + 1)) + 1 by omega, HIN.out]
          exact loc_next _ _ _ (by rw [← HIN.out]; exact HS.out)
        have HR : Hid (VmAt w2 T id b gf cf x (m.setFr i (doesF f' I)) ∧ FrOk (x.cod i) (doesF f' I) ∧ localF (x.cod i) (100000 - (k + 1)) (doesF f' I) = localF (x.cod i) 100000 f ∧ Keeps (Own T id) w w2) := by
          refine ⟨?_, hfit.2, by rw [← hl1]; exact HLOC.out, (HKP.out.trans hKW (fun _ _ h => h.elim)).trans hK2 (fun k _ h => own_fr HF.out.tag k h)⟩
          have e9 : ({ (m.setFr i f') with fr := (m.setFr i f').fr.set i (doesF f' I) } : Mach) = m.setFr i (doesF f' I) := m.setFr_set i f' _
          rw [← e9]
          exact hv2
        clear hfit hv2 hl1 hK2 hF2 hW hKW
        go_wp2
        exact ⟨⟨k + 1, _, by omega, by go_num, HR⟩, by simp [intOf]; omega⟩
    · have hk2 : k = 100000 := by omega
      subst hk2
      have i3 : (0 : Int) ≤ 100000 := by omega
      cases hs : stepsN I.op with
      | true =>
        have HS := Lib.hid hs
        have HSC : ∀ w, Calls Try.prog 47 #[.int .i64 I.op] w fun e w' => e = .returned (.bool true) ∧ w' = w := fun w => (steps_any I.op w).mono (fun e w' h => ⟨by rw [h.1, HS.out], h.2.symm⟩)
        have HSC := Lib.hid HSC
        clear hs
        go_wp2
        go_quiet ((go_at_call 47; exact Calls.quiet_of_same (HSC.out _)))
        go_wp2
        refine Great.bodyPost_end0 (by rfl) (by rfl) ?_
        have hl0 : localF (x.cod i) (100000 - 100000) f' = f' := loc_stop _ _ _ (by rw [← HIN.out]; exact HS.out)
        refine ⟨rfl, ?_, HKP.out.drewN _⟩
        rw [← HLOC.out, hl0]
        exact HV.out.keeps (S := NoBlk) ((Keeps.refl _ wr).drewN _) (fun _ _ h => h)
      | false =>
        have HS := Lib.hid hs
        have HSC : ∀ w, Calls Try.prog 47 #[.int .i64 I.op] w fun e w' => e = .returned (.bool false) ∧ w' = w := fun w => (steps_any I.op w).mono (fun e w' h => ⟨by rw [h.1, HS.out], h.2.symm⟩)
        have HSC := Lib.hid HSC
        clear hs
        go_wp2
        go_quiet ((go_at_call 47; exact Calls.quiet_of_same (HSC.out _)))
        go_wp2
        refine Great.bodyPost_end0 (by rfl) (by rfl) ?_
        have hl0 : localF (x.cod i) (100000 - 100000) f' = { f' with st := 4 } := loc_zero _ _ (by rw [← HIN.out]; exact HS.out)
        have h5 := HF.out.setSt HA.out HF2.out 4
        have h6 := HV.out.frames (i := i) ((Keeps.refl _ wr).setCell (p := ⟨gf, i * 3, none⟩) (fun _ => .inl rfl) _) h5 (by simp)
        rw [← HLOC.out, hl0]
        have e9 : ({ (m.setFr i f') with fr := (m.setFr i f').fr.set i { f' with st := 4 } } : Mach) = m.setFr i { f' with st := 4 } := m.setFr_set i f' _
        rw [← e9]
        refine ⟨rfl, ?_, ?_⟩
        · first
          | exact h6.keeps (S := NoBlk) ((Keeps.refl _ _).drewN _) (fun _ _ h => h)
          | exact h6
        · first
          | exact (HKP.out.setCell (p := ⟨gf, i * 3, none⟩) (fun _ => ⟨_, HF.out.tag, by simp⟩) _).drewN _
          | exact (HKP.out.drewN _).setCell (p := ⟨gf, i * 3, none⟩) (fun _ => ⟨_, HF.out.tag, by simp⟩) _
end Go.Proofs.Ytmkfpkficmmlgaa
