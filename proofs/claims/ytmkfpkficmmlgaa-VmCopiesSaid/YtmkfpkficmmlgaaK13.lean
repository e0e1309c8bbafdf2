/- Package vm: Step, whole; retagging. -/
import Derived.Test.YtmkfpkficmmlgaaK12
namespace Go.Proofs.Ytmkfpkficmmlgaa
open Go.RowKit
set_option linter.unusedVariables false
set_option linter.unusedSimpArgs false
set_option linter.unnecessarySimpa false

theorem refused_zero {x : Img} {m : Mach} {i : Int} (hg : VGood x m) (h : refusedN x m i = 0) : ∃ (k : Nat) (f : Fr), i = k ∧ m.fr[k]? = some f ∧ f.st = 2 := by
  unfold refusedN at h
  split at h
  · cases h
  · rename_i hc
    have hk : i.toNat < x.threads.length := by rw [← hg.len]; omega
    obtain ⟨f, hf, hgf⟩ := hg.get hk
    rw [hgf] at h
    refine ⟨i.toNat, f, by omega, hf, ?_⟩
    have := hg.sts _ _ hf
    rcases this with e | e | e | e <;> simp [e] at h
    exact e
theorem vstep_any (w : World) (T : Tags) (id b gf cf : Nat) (x : Img) (m : Mach) (i : Int) (h : VmAt w T id b gf cf x m) (hg : VGood x m) :
    Calls Try.prog 14 #[.pointer (some ⟨b, 0, none⟩), .int .i64 i] w (StepEnd w T id b gf cf x (stepR x m i)) := by
  by_cases hr : refusedN x m i = 0
  · obtain ⟨k, f, rfl, hf, hst⟩ := refused_zero hg hr
    exact vstep_do w T id b gf cf k x m f h hg hr hf hst
  · exact vstep_ref w T id b gf cf x m i h hg hr
theorem stepR_good {x : Img} {m : Mach} (i : Int) (hg : VGood x m) : VGood x (stepR x m i).1 := by
  unfold stepR
  by_cases hr : refusedN x m i = 0
  · obtain ⟨k, f, rfl, hf, hst⟩ := refused_zero hg hr
    rw [if_neg (by rw [hr]; simp)]
    exact done_ok hg k f hf hst
  · rw [if_pos hr]
    exact hg

/-- more tags -/
def Ext (T T' : Tags) : Prop := ∀ k y, T k = some y → T' k = some y
theorem Ext.refl (T : Tags) : Ext T T := fun _ _ h => h
theorem Ext.trans {T1 T2 T3 : Tags} (h : Ext T1 T2) (h' : Ext T2 T3) : Ext T1 T3 := fun k y e => h' k y (h k y e)
theorem IRow.ext {w : World} {T T' : Tags} {id : Nat} {t : Tg} {v : Value} {xs : List Int} (h : IRow w T id t v xs) (hT : Ext T T') : IRow w T' id t v xs := by
  obtain ⟨ad, cap, e, h1⟩ := h
  refine ⟨ad, cap, e, fun hn => ?_⟩
  obtain ⟨g, e1, e2, e3⟩ := h1 hn
  exact ⟨g, e1, hT _ _ e2, e3⟩
theorem FrG.ext {w : World} {T T' : Tags} {id g : Nat} {H : List HFr} {fr : List Fr} (h : FrG w T id g H fr) (hT : Ext T T') : FrG w T' id g H fr :=
  ⟨hT _ _ h.tag, h.row, h.len, fun i a f e1 e2 => ⟨(h.each i a f e1 e2).1, (h.each i a f e1 e2).2.1, (h.each i a f e1 e2).2.2.ext hT⟩⟩
theorem Cd.ext {T T' : Tags} {k : Nat} (h : Cd T k) (hT : Ext T T') : Cd T' k := let ⟨i, e⟩ := h; ⟨i, hT _ _ e⟩
theorem InsAt.ext {w : World} {T T' : Tags} {v : Value} {l : List Ins} (h : InsAt w T v l) (hT : Ext T T') : InsAt w T' v l := by
  obtain ⟨ad, cap, e, h1⟩ := h
  refine ⟨ad, cap, e, fun k hk => ?_⟩
  obtain ⟨g, o, e1, e2, r⟩ := h1 k hk
  exact ⟨g, o, e1, e2.ext hT, r⟩
theorem CodeAt.ext {w : World} {T T' : Tags} {v : Value} {l : List Cod} (h : CodeAt w T v l) (hT : Ext T T') : CodeAt w T' v l := by
  obtain ⟨g, cap, e, e2, h1⟩ := h
  refine ⟨g, cap, e, e2.ext hT, fun i hi => ?_⟩
  obtain ⟨u, c, h3⟩ := h1 i hi
  exact ⟨u, c, h3.ext hT⟩
theorem CoreAt.ext {w : World} {T T' : Tags} {id gf : Nat} {cv ov : Value} {m : Mach} (h : CoreAt w T id cv ov gf m) (hT : Ext T T') : CoreAt w T' id cv ov gf m :=
  ⟨h.cells.ext hT, h.owners.ext hT, let ⟨H, hF⟩ := h.frames; ⟨H, hF.ext hT⟩⟩
theorem VmAt.ext {w : World} {T T' : Tags} {id b gf cf : Nat} {x : Img} {m : Mach} (h : VmAt w T id b gf cf x m) (hT : Ext T T') (hok : TOk T' w) : VmAt w T' id b gf cf x m :=
  ⟨hT _ _ h.tag, hok, let ⟨cv, ov, dv, h1, h2, h3⟩ := h.ex; ⟨cv, ov, dv, h1, h2.ext hT, h3.ext hT⟩⟩
end Go.Proofs.Ytmkfpkficmmlgaa

/- How the document's machine of layer 11 lies in memory. -/
namespace Go.Proofs.Ytmkfpkficmmlgaa
open Go.RowKit
set_option linter.unusedVariables false
set_option linter.unusedSimpArgs false
set_option linter.unnecessarySimpa false

/-- threads of an image, read alone -/
def ThrAt (w : World) (T : Tags) (v : Value) (cs : List Cod) : Prop :=
  ∃ ad cap, v = .slice ad cs.length cap ∧ ∀ i, i < cs.length → ∃ g o u, ad = some ⟨g, o, none⟩ ∧ Cd T g ∧ w.cell? ⟨g, o + i * 2, none⟩ = some (.int .i64 (cs.getD i ⟨0, []⟩).regs) ∧ w.cell? ⟨g, o + i * 2 + 1, none⟩ = some u ∧ InsAt w T u (cs.getD i ⟨0, []⟩).ins
theorem ThrAt.keeps {S : Nat → Prop} {w w' : World} {T : Tags} {v : Value} {l : List Cod} (h : ThrAt w T v l) (hk : Keeps S w w') (hS : ∀ k, Cd T k → ¬ S k) : ThrAt w' T v l := by
  obtain ⟨ad, cap, e, h1⟩ := h
  refine ⟨ad, cap, e, fun i hi => ?_⟩
  obtain ⟨g, o, u, e1, e2, c0, c1, h3⟩ := h1 i hi
  exact ⟨g, o, u, e1, e2, hk.cell (p := ⟨g, _, none⟩) (hS g e2) c0, hk.cell (p := ⟨g, _, none⟩) (hS g e2) c1, h3.keeps hk hS⟩
theorem ThrAt.ext {w : World} {T T' : Tags} {v : Value} {l : List Cod} (h : ThrAt w T v l) (hT : Ext T T') : ThrAt w T' v l := by
  obtain ⟨ad, cap, e, h1⟩ := h
  refine ⟨ad, cap, e, fun i hi => ?_⟩
  obtain ⟨g, o, u, e1, e2, c0, c1, h3⟩ := h1 i hi
  exact ⟨g, o, u, e1, e2.ext hT, c0, c1, h3.ext hT⟩
/-- an idle thread's registers are not there yet -/
def shadow (f : Fr) : Fr := if f.st = 1 then { f with regs := [] } else f
theorem shadow_run {f : Fr} (h : f.st ≠ 1) : shadow f = f := if_neg h
theorem shadow_st (f : Fr) : (shadow f).st = f.st := by unfold shadow; split <;> rfl
theorem shadow_at (f : Fr) : (shadow f).at_ = f.at_ := by unfold shadow; split <;> rfl
def Mach.shade (m : Mach) : Mach := { m with fr := m.fr.map shadow }
theorem shade_get {m : Mach} {i : Nat} {f : Fr} (h : m.fr[i]? = some f) : m.shade.fr[i]? = some (shadow f) := by simp [Mach.shade, h]
theorem shade_set (m : Mach) (i : Nat) (f : Fr) : (m.setFr i f).shade = { m.shade with fr := m.shade.fr.set i (shadow f) } := by simp [Mach.shade, Mach.setFr, List.map_set]
/-- a slice, shown -/
structure Sl where
  ad : Option Addr
  n : Nat
  cap : Nat
def Sl.v (s : Sl) : Value := .slice s.ad s.n s.cap
/-- a machine of the document's -/
structure RmAt (w : World) (T : Tags) (id b gf cf : Nat) (x : Img) (m : Mach) : Prop where
  tag : T b = some (id, .mach)
  ok : TOk T w
  ex : ∃ (xc : Sl) (xt cv ov : Value), RowAt w b [xc.v, .int .i64 x.mutexes, xt, cv, ov, .slice (some ⟨gf, 0, none⟩) m.fr.length cf] ∧ CoreAt w T id cv ov gf m.shade ∧ ThrAt w T xt x.threads
theorem RmAt.keeps {S : Nat → Prop} {w w' : World} {T : Tags} {id b gf cf : Nat} {x : Img} {m : Mach} (h : RmAt w T id b gf cf x m) (hk : Keeps S w w') (hS : ∀ k, Cd T k ∨ Own T id k → ¬ S k) : RmAt w' T id b gf cf x m := by
  obtain ⟨xc, xt, cv, ov, h1, h2, h3⟩ := h.ex
  exact ⟨h.tag, fun k y e => Nat.lt_of_lt_of_le (h.ok k y e) hk.size, xc, xt, cv, ov, h1.keeps hk (hS b (.inr ⟨_, h.tag, by simp⟩)), h2.keeps hk (fun k e => hS k (.inr e)), h3.keeps hk (fun k e => hS k (.inl e))⟩
theorem RmAt.ext {w : World} {T T' : Tags} {id b gf cf : Nat} {x : Img} {m : Mach} (h : RmAt w T id b gf cf x m) (hT : Ext T T') (hok : TOk T' w) : RmAt w T' id b gf cf x m :=
  ⟨hT _ _ h.tag, hok, let ⟨xc, xt, cv, ov, h1, h2, h3⟩ := h.ex; ⟨xc, xt, cv, ov, h1, h2.ext hT, h3.ext hT⟩⟩
theorem RmAt.frames {w w' : World} {T : Tags} {id b gf cf i : Nat} {x : Img} {m m' : Mach} {H' : List HFr} (h : RmAt w T id b gf cf x m) (hk : Keeps (fun k => k = gf ∨ T k = some (id, .regs i)) w w')
    (hF : FrG w' T id gf H' m'.shade.fr) (hc : m'.cells = m.cells) (ho : m'.owners = m.owners) (hl : m'.fr.length = m.fr.length) : RmAt w' T id b gf cf x m' := by
  obtain ⟨xc, xt, cv, ov, h1, h2, h3⟩ := h.ex
  have hg : T gf = some (id, .frames) := hF.tag
  have hn : ∀ k t, T k = some (id, t) → t ≠ .frames → t ≠ .regs i → ¬ (k = gf ∨ T k = some (id, .regs i)) := by
    rintro k t e n1 n2 (rfl | e')
    · rw [e] at hg; simp at hg; exact n1 hg
    · rw [e] at e'; simp at e'; exact n2 e'
  refine ⟨h.tag, fun k y e => Nat.lt_of_lt_of_le (h.ok k y e) hk.size, xc, xt, cv, ov, ?_, ⟨?_, ?_, H', hF⟩, ?_⟩
  · rw [hl]
    exact h1.keeps hk (hn b _ h.tag (by simp) (by simp))
  · have := h2.cells.keeps hk (fun k e => hn k _ e (by simp) (by simp))
    rw [show m'.shade.cells = m.shade.cells from hc]
    exact this
  · have := h2.owners.keeps hk (fun k e => hn k _ e (by simp) (by simp))
    rw [show m'.shade.owners = m.shade.owners from ho]
    exact this
  · refine h3.keeps hk (fun k e => ?_)
    obtain ⟨id', e⟩ := e
    rintro (rfl | e')
    · rw [e] at hg; simp at hg
    · rw [e] at e'; simp at e'
/-- what is seen of a thread -/
theorem RmAt.view {w : World} {T : Tags} {id b gf cf : Nat} {x : Img} {m : Mach} (h : RmAt w T id b gf cf x m) {i : Nat} {f : Fr} (hf : m.fr[i]? = some f) (hx : i < x.threads.length) (hat : f.at_ < (x.cod i).ins.length) :
    ∃ H gt ot ct gi oi ci rv, FrG w T id gf H m.shade.fr ∧ H[i]? = some ⟨f.st, rv, f.at_⟩ ∧
      w.cell? ⟨b, 2, none⟩ = some (.slice (some ⟨gt, ot, none⟩) x.threads.length ct) ∧ w.cell? ⟨b, 5, none⟩ = some (.slice (some ⟨gf, 0, none⟩) m.fr.length cf) ∧
      w.cell? ⟨gt, ot + i * 2, none⟩ = some (.int .i64 (x.cod i).regs) ∧ w.cell? ⟨gt, ot + i * 2 + 1, none⟩ = some (.slice (some ⟨gi, oi, none⟩) (x.cod i).ins.length ci) ∧
      w.cell? ⟨gi, oi + f.at_ * 4, none⟩ = some (.int .i64 ((x.cod i).at f.at_).op) ∧ w.cell? ⟨gi, oi + f.at_ * 4 + 1, none⟩ = some (.int .i64 ((x.cod i).at f.at_).a) ∧
      w.cell? ⟨gi, oi + f.at_ * 4 + 2, none⟩ = some (.int .i64 ((x.cod i).at f.at_).b) ∧ w.cell? ⟨gi, oi + f.at_ * 4 + 3, none⟩ = some (.int .i64 ((x.cod i).at f.at_).c) ∧
      w.cell? ⟨gf, i * 3, none⟩ = some (.int .i64 f.st) ∧ w.cell? ⟨gf, i * 3 + 2, none⟩ = some (.int .i64 f.at_) ∧ w.frozen? ⟨gf, i * 3, none⟩ = false := by
  obtain ⟨xc, xt, cv, ov, h1, h2, h3⟩ := h.ex
  obtain ⟨H, hF⟩ := h2.frames
  have hs := shade_get hf
  obtain ⟨rv, ha, _⟩ := hF.get hs
  obtain ⟨ad, ct, rfl, ht⟩ := h3
  obtain ⟨gt, ot, u, rfl, _, r0, r1, ad2, ci, rfl, hins⟩ := ht i hx
  obtain ⟨gi, oi, rfl, _, c0, c1, c2, c3⟩ := hins f.at_ hat
  obtain ⟨t0, t1, t2⟩ := hF.three ha
  rw [shadow_st] at ha t0
  rw [shadow_at] at ha t2
  exact ⟨H, gt, ot, ct, gi, oi, ci, rv, hF, ha, h1.cell (k := 2) rfl, h1.cell (k := 5) rfl, r0, r1, c0, c1, c2, c3, t0, t2, hF.free (List.getElem?_eq_some_iff.1 hs).1 0 (by decide)⟩
end Go.Proofs.Ytmkfpkficmmlgaa

/- The document's operators. -/
namespace Go.Proofs.Ytmkfpkficmmlgaa
open Go.RowKit
set_option linter.unusedVariables false
set_option linter.unusedSimpArgs false
set_option linter.unnecessarySimpa false

theorem truth_any (b : Bool) (w : World) :
    Calls Try.prog 58 #[.bool b] w fun e w' => e = .returned (.int .i64 (yesN b)) ∧ w = w' := by
  cases b
  · go_enter Try.func58, Try.ntmps58
    go_wp2
    go_ret
    exact ⟨rfl, rfl⟩
  · go_enter Try.func58, Try.ntmps58
    go_wp2
    go_ret
    exact ⟨rfl, rfl⟩
/-- what an operator makes of one value -/
def unN (op a : Int) : Int := if op = 3 then w64 (-a) else yesN (a == 0)
theorem runary_any (op a : Int) (h : op = 3 ∨ op = 4) (w : World) :
    Calls Try.prog 54 #[.int .i64 op, .int .i64 a] w fun e w' => e = .returned (.int .i64 (unN op a)) ∧ w' = w := by
  rcases h with rfl | rfl
  all_goals (
    go_enter Try.func54, Try.ntmps54
    go_wp2_with (go_at_call 58; refine (truth_any _ _).mono ?_; rintro e w' ⟨rfl, rfl⟩)
    go_ret
    exact ⟨by simp [unN, w64], rfl⟩)
theorem rbin_arith (op a b : Int) (w : World) (h : op = 5 ∨ op = 6 ∨ op = 7) :
    Calls Try.prog 55 #[.int .i64 op, .int .i64 a, .int .i64 b] w fun e w' => e = .returned (.int .i64 (reckN op a b)) ∧ w' = w := by
  rcases h with rfl | rfl | rfl
  all_goals (
    go_enter Try.func55, Try.ntmps55
    go_wp2
    go_ret
    exact ⟨by simp [reckN, w64], rfl⟩)
theorem rbin_zero (op a : Int) (w : World) (h : op = 8 ∨ op = 9) :
    Calls Try.prog 55 #[.int .i64 op, .int .i64 a, .int .i64 0] w fun e w' => e = .returned (.int .i64 (reckN op a 0)) ∧ w' = w := by
  rcases h with rfl | rfl
  all_goals (
    go_enter Try.func55, Try.ntmps55
    go_wp2
    go_ret
    exact ⟨by simp [reckN, w64], rfl⟩)
theorem rbin_minus (op a : Int) (w : World) (h : op = 8 ∨ op = 9) :
    Calls Try.prog 55 #[.int .i64 op, .int .i64 a, .int .i64 (-1)] w fun e w' => e = .returned (.int .i64 (reckN op a (-1))) ∧ w' = w := by
  have e1 : ((-1 : Int) == 0) = false := by decide
  have e2 : ((-1 : Int) == -1) = true := by decide
  rcases h with rfl | rfl
  all_goals (
    go_enter Try.func55, Try.ntmps55
    go_wp2
    go_ret
    exact ⟨by simp [reckN, w64, Int.tdiv_neg, Int.tmod_neg], rfl⟩)
theorem rbin_div (op a b : Int) (w : World) (h : op = 8 ∨ op = 9) (hb : b ≠ 0) (hm : b ≠ -1) :
    Calls Try.prog 55 #[.int .i64 op, .int .i64 a, .int .i64 b] w fun e w' => e = .returned (.int .i64 (reckN op a b)) ∧ w' = w := by
  have e1 : (b == 0) = false := by rw [beq_eq_false_iff_ne]; exact hb
  have e2 : (b == -1) = false := by rw [beq_eq_false_iff_ne]; exact hm
  rcases h with rfl | rfl
  all_goals (
    go_enter Try.func55, Try.ntmps55
    go_wp2
    go_ret
    exact ⟨by simp [reckN, hb, w64], rfl⟩)
theorem rbin_cmp (op a b : Int) (w : World) (h : op = 10 ∨ op = 11 ∨ op = 12 ∨ op = 13 ∨ op = 14 ∨ op = 15) :
    Calls Try.prog 55 #[.int .i64 op, .int .i64 a, .int .i64 b] w fun e w' => e = .returned (.int .i64 (reckN op a b)) ∧ w' = w := by
  rcases h with rfl | rfl | rfl | rfl | rfl | rfl
  all_goals (
    go_enter Try.func55, Try.ntmps55
    go_wp2_with (go_at_call 58; refine (truth_any _ _).mono ?_; rintro e w' ⟨rfl, rfl⟩)
    go_ret
    exact ⟨by simp [reckN, yesN], rfl⟩)
theorem rbin_log (op a b : Int) (w : World) (h : op = 16 ∨ op = 17) :
    Calls Try.prog 55 #[.int .i64 op, .int .i64 a, .int .i64 b] w fun e w' => e = .returned (.int .i64 (reckN op a b)) ∧ w' = w := by
  by_cases ha : a = 0
  · subst ha
    rcases h with rfl | rfl
    all_goals (
      go_enter Try.func55, Try.ntmps55
      go_wp2_with (go_at_call 58; refine (truth_any _ _).mono ?_; rintro e w' ⟨rfl, rfl⟩)
      go_ret
      exact ⟨by simp [reckN, yesN], rfl⟩)
  · have e1 : (a != 0) = true := by rw [bne_iff_ne]; exact ha
    rcases h with rfl | rfl
    all_goals (
      go_enter Try.func55, Try.ntmps55
      go_wp2_with (go_at_call 58; refine (truth_any _ _).mono ?_; rintro e w' ⟨rfl, rfl⟩)
      go_ret
      exact ⟨by simp [reckN, yesN, ha], rfl⟩)
theorem rbinary_any (op a b : Int) (w : World) (h : 5 ≤ op ∧ op ≤ 17) :
    Calls Try.prog 55 #[.int .i64 op, .int .i64 a, .int .i64 b] w fun e w' => e = .returned (.int .i64 (reckN op a b)) ∧ w' = w := by
  have hc : (op = 5 ∨ op = 6 ∨ op = 7) ∨ (op = 8 ∨ op = 9) ∨ (op = 10 ∨ op = 11 ∨ op = 12 ∨ op = 13 ∨ op = 14 ∨ op = 15) ∨ (op = 16 ∨ op = 17) := by omega
  rcases hc with h | h | h | h
  · exact rbin_arith op a b w h
  · by_cases hb : b = 0
    · subst hb; exact rbin_zero op a w h
    · by_cases hm : b = -1
      · subst hm; exact rbin_minus op a w h
      · exact rbin_div op a b w h hb hm
  · exact rbin_cmp op a b w h
  · exact rbin_log op a b w h
end Go.Proofs.Ytmkfpkficmmlgaa
