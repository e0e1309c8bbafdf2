/- Package vm: New, what its loop holds. -/
import Derived.Test.YtmkfpkficmmlgaaK30
namespace Go.Proofs.Ytmkfpkficmmlgaa
open Go.RowKit
set_option linter.unusedVariables false
set_option linter.unusedSimpArgs false
set_option linter.unnecessarySimpa false

def ownersN (x : Img) : List Int := List.replicate x.mutexes.toNat (-1)
def regsN (x : Img) (j : Nat) : List Int := List.replicate (x.cod j).regs.toNat 0
structure NvI (w wr : World) (T T' : Tags) (id b : Nat) (x : Img) (c o : Value) (kc kf : Nat) (us rs : List Value) (dv fv : Value) : Prop where
  ext : ExtI T T' id w
  tok : TOk T' wr
  tb : T' b = some (id, .mach)
  bnew : w.heap.size ≤ b
  row : RowAt wr b [c, o, dv, fv]
  cells : IRow wr T' id .cells c x.cells
  owners : IRow wr T' id .owners o (ownersN x)
  down : wr.ownsRow 0 49 1 dv kc us
  dnew : ∀ kb, dv.ownBlock = some kb → T' kb = none ∧ w.heap.size ≤ kb
  code : ∀ j, j < kc → ∃ u, us[j]? = some u ∧ InsAt wr T' u (x.cod j).ins
  fown : wr.ownsRow 0 71 3 fv kf (frCells (rs.map idleF))
  ftag : ∀ kb, fv.ownBlock = some kb → T' kb = some (id, .frames)
  fnew : ∀ kb, fv.ownBlock = some kb → w.heap.size ≤ kb
  regs : ∀ j r, rs[j]? = some r → IRow wr T' id (.regs j) r (regsN x j)
  keep : Keeps NoBlk w wr

section
variable {w wr : World} {T T' : Tags} {id b : Nat} {x : Img} {c o : Value} {kc kf : Nat} {us rs : List Value} {dv fv : Value}
theorem NvI.keeps0 (h : NvI w wr T T' id b x c o kc kf us rs dv fv) {W : World} (hk : Keeps NoBlk wr W) : NvI w W T T' id b x c o kc kf us rs dv fv :=
  ⟨h.ext, h.tok.keeps hk, h.tb, h.bnew, h.row.keeps hk (fun h => h), h.cells.keeps hk (fun _ _ h => h), h.owners.keeps hk (fun _ _ h => h), ownsRow_keeps h.down hk (fun _ _ h => h), h.dnew,
   fun j hj => by obtain ⟨u, e, hi⟩ := h.code j hj; exact ⟨u, e, hi.keeps hk (fun _ _ h => h)⟩, ownsRow_keeps h.fown hk (fun _ _ h => h), h.ftag, h.fnew, fun j r e => (h.regs j r e).keeps hk (fun _ _ h => h), h.keep.trans0 hk⟩
/-- a world in which but some blocks have changed, that are not of the invariant's -/
theorem NvI.len_us (h : NvI w wr T T' id b x c o kc kf us rs dv fv) : us.length = kc := by have := h.down.1; simpa using this
theorem NvI.len_rs (h : NvI w wr T T' id b x c o kc kf us rs dv fv) : rs.length = kf := by
  have := h.fown.1
  unfold frCells at this
  rw [length_cells _ 3 hfr_len, List.length_map] at this
  omega

/-- a code is appended -/
theorem NvI.codeStep (h : NvI w wr T T' id b x c o kc kf us rs dv fv) {W w2 : World} {u : Value} {ad : Option Addr} {cap : Nat} (hk : Keeps NoBlk wr W)
    (hu : FRow W wr.heap.size u (x.cod kc).ins.length (insCells (x.cod kc).ins)) (hn : (x.cod kc).ins.length ≠ 0)
    (hout : AppOut W 0 49 1 dv (kc + 1) (us ++ [u]) ad cap w2) :
    ∃ T2, NvI w (w2.setCell ⟨b, 2, none⟩ (.slice ad (kc + 1) cap)) T T2 id b x c o (kc + 1) kf (us ++ [u]) rs (.slice ad (kc + 1) cap) fv := by
  have hW := h.keeps0 hk
  have hus := h.len_us
  obtain ⟨uad, uc, rfl, _, _, hu2⟩ := (show FRow _ _ _ _ _ from hu)
  obtain ⟨g, rfl, hg1, hg2⟩ := hu2 hn
  have hgl : g < W.heap.size := hg2.lt (fun e => hn (by have := congrArg List.length e; rw [insCells_len] at this; simp only [List.length_nil] at this; omega))
  have hnt : NewTag T' id .code (.slice (some ⟨g, 0, none⟩) (x.cod kc).ins.length uc) wr.heap.size := fun kb e => by
    simp [Value.ownBlock] at e
    subst e
    exact .inr ⟨h.tok.free hg1, hg1⟩
  have hx := tagV_ext (w := wr) hnt
  obtain ⟨T2, hT2⟩ : ∃ T2, T2 = tagV T' id .code (.slice (some ⟨g, 0, none⟩) (x.cod kc).ins.length uc) := ⟨_, rfl⟩
  rw [← hT2] at hx
  have hgt : T2 g = some (id, .code) := by rw [hT2]; exact tagV_own rfl
  have hok2 : TOk T2 W := by rw [hT2]; exact tagV_ok hW.tok (fun kb e => by simp [Value.ownBlock] at e; omega)
  have hbg : b ≠ g := fun e => by have h1 := h.tok b _ h.tb; omega
  have hdn : ∀ kb, dv.ownBlock = some kb → T2 kb = none := fun kb e => by
    rw [hT2]
    unfold tagV
    rw [if_neg (fun e' => by simp [Value.ownBlock] at e'; have := ownsRow_lt h.down e; omega)]
    exact (h.dnew kb e).1
  -- the worlds
  have k2 : Keeps (fun q => dv.ownBlock = some q) W w2 := hout.keeps (Keeps.refl _ _) (fun q e _ => e)
  have k3 : Keeps (fun q => dv.ownBlock = some q ∨ q = b) W (w2.setCell ⟨b, 2, none⟩ (.slice ad (kc + 1) cap)) := (k2.mono (fun _ _ e => .inl e)).setCell (p := ⟨b, 2, none⟩) (fun _ => .inr rfl) _
  have hb2 : T2 b = some (id, .mach) := hx.1 _ _ h.tb
  have hS : ∀ k y, T2 k = some y → y.2 ≠ .mach → ¬ (dv.ownBlock = some k ∨ k = b) := fun k y e hy e' => by
    rcases e' with e' | e'
    · rw [hdn k e'] at e; cases e
    · rw [e', hb2] at e; cases e; exact hy rfl
  have hbd : ∀ kb, dv.ownBlock = some kb → kb ≠ b := fun kb e e' => by rw [e'] at e; have h1 := hdn b e; rw [hb2] at h1; cases h1
  have hnew : ∀ kb, (Value.slice ad (kc + 1) cap).ownBlock = some kb → T2 kb = none ∧ w.heap.size ≤ kb := fun kb e => by
    rcases hout.2.2 kb e with h1 | h1
    · exact ⟨hdn kb h1, (h.dnew kb h1).2⟩
    · rw [h1]
      exact ⟨hok2.free (Nat.le_refl _), Nat.le_trans hW.keep.size (Nat.le_refl _)⟩
  refine ⟨T2, h.ext.trans (hx.later h.keep.size), hok2.keeps k3, hb2, h.bnew, ?_, ?_, ?_, ?_, hnew, ?_, ?_, fun kb e => hx.1 _ _ (h.ftag kb e), h.fnew, ?_, ?_⟩
  · exact (hW.row.keeps k2 (fun e => hbd b e rfl)).set 2 (by simp) _
  · exact (hW.cells.ext hx.1).keeps k3 (fun k e => hS k _ e (by simp))
  · exact (hW.owners.ext hx.1).keeps k3 (fun k e => hS k _ e (by simp))
  · exact ownsRow_keeps hout.1 (Keeps.setCell (S := fun q => q = b) (p := ⟨b, 2, none⟩) (Keeps.refl _ _) (fun _ => rfl) _) (fun q e e' => by have e'' : q = b := e'; have h1 := (hnew q e).1; rw [e'', hb2] at h1; cases h1)
  · intro j hj
    by_cases e : j < kc
    · obtain ⟨u', e1, hi⟩ := hW.code j e
      exact ⟨u', by rw [List.getElem?_append_left (by omega)]; exact e1, (hi.ext hx.1).keeps k3 (fun k e => by obtain ⟨i2, e⟩ := e; exact hS k _ e (by simp))⟩
    · obtain rfl : j = kc := by omega
      refine ⟨.slice (some ⟨g, 0, none⟩) (x.cod j).ins.length uc, by rw [List.getElem?_append_right (by omega), hus]; simp, ?_⟩
      exact (InsAt.of (T := T2) hu rfl (fun kb e => by simp [Value.ownBlock] at e; subst e; exact ⟨id, hgt⟩)).keeps k3 (fun k e => by obtain ⟨i2, e⟩ := e; exact hS k _ e (by simp))
  · refine ownsRow_keeps hW.fown k3 (fun q e => hS q _ (hx.1 _ _ (h.ftag q e)) (by simp))
  · intro j r e
    exact ((hW.regs j r e).ext hx.1).keeps k3 (fun k e => hS k _ e (by simp))
  · refine hW.keep.trans k3 (fun q hq e => ?_)
    rcases e with e | e
    · have := (h.dnew q e).2; omega
    · have := h.bnew; omega

/-- a frame is appended -/
theorem NvI.frStep (h : NvI w wr T T' id b x c o kc kf us rs dv fv) {W w2 : World} {g n : Nat} {ad : Option Addr} {cap : Nat} (hk : Keeps NoBlk wr W)
    (hg : wr.heap.size ≤ g) (hgl : g < W.heap.size) (hn : n = (x.cod kf).regs.toNat) (hr : RowAt W g (ints (List.replicate n 0)))
    (hout : AppOut W 0 71 3 fv (kf + 1) (frCells (rs.map idleF) ++ (idleF (.slice (some ⟨g, 0, none⟩) n n)).cells) ad cap w2) :
    ∃ T2, NvI w (w2.setCell ⟨b, 3, none⟩ (.slice ad (kf + 1) cap)) T T2 id b x c o kc (kf + 1) us (rs ++ [.slice (some ⟨g, 0, none⟩) n n]) dv (.slice ad (kf + 1) cap) := by
  have hW := h.keeps0 hk
  have hrs := h.len_rs
  have hfree : T' g = none := h.tok.free hg
  have hnt : NewTag T' id (.regs kf) (.slice (some ⟨g, 0, none⟩) n n) wr.heap.size := fun kb e => by
    simp [Value.ownBlock] at e
    subst e
    exact .inr ⟨hfree, hg⟩
  have hx1 := tagV_ext (w := wr) hnt
  obtain ⟨T1, hT1⟩ : ∃ T1, T1 = tagV T' id (.regs kf) (.slice (some ⟨g, 0, none⟩) n n) := ⟨_, rfl⟩
  rw [← hT1] at hx1
  have hgt : T1 g = some (id, .regs kf) := by rw [hT1]; exact tagV_own rfl
  have hok1 : TOk T1 W := by rw [hT1]; exact tagV_ok hW.tok (fun kb e => by simp [Value.ownBlock] at e; omega)
  have hnt2 : NewTag T1 id .frames (.slice ad (kf + 1) cap) W.heap.size := fun kb e => by
    rcases hout.2.2 kb e with h1 | h1
    · exact .inl (hx1.1 _ _ (h.ftag kb h1))
    · rw [h1]; exact .inr ⟨hok1.free (Nat.le_refl _), Nat.le_refl _⟩
  have hx2 := tagV_ext (w := W) hnt2
  obtain ⟨T2, hT2⟩ : ∃ T2, T2 = tagV T1 id .frames (.slice ad (kf + 1) cap) := ⟨_, rfl⟩
  rw [← hT2] at hx2
  have hft : ∀ kb, (Value.slice ad (kf + 1) cap).ownBlock = some kb → T2 kb = some (id, .frames) := fun kb e => by rw [hT2]; exact tagV_own e
  have k2 : Keeps (fun q => fv.ownBlock = some q) W w2 := hout.keeps (Keeps.refl _ _) (fun q e _ => e)
  have k3 : Keeps (fun q => fv.ownBlock = some q ∨ q = b) W (w2.setCell ⟨b, 3, none⟩ (.slice ad (kf + 1) cap)) := (k2.mono (fun _ _ e => .inl e)).setCell (p := ⟨b, 3, none⟩) (fun _ => .inr rfl) _
  have hok2 : TOk T2 w2 := by rw [hT2]; exact tagV_ok (hok1.keeps k2) (fun kb e => ownsRow_lt hout.1 e)
  have hx := hx1.1.trans hx2.1
  have hb2 : T2 b = some (id, .mach) := hx _ _ h.tb
  -- what the worlds leave alone
  have hS : ∀ k y, T' k = some y → y.2 ≠ .mach → y.2 ≠ .frames → ¬ (fv.ownBlock = some k ∨ k = b) := fun k y e hy hy2 e' => by
    rcases e' with e' | e'
    · rw [h.ftag k e'] at e; cases e; exact hy2 rfl
    · rw [e', h.tb] at e; cases e; exact hy rfl
  have hbf : ∀ kb, fv.ownBlock = some kb → kb ≠ b := fun kb e e' => by rw [e'] at e; have h1 := h.ftag b e; rw [h.tb] at h1; cases h1
  have hgS : ¬ (fv.ownBlock = some g ∨ g = b) := by
    rintro (e | e)
    · have := h.ftag g e; rw [hfree] at this; cases this
    · have h1 := h.tb; rw [← e, hfree] at h1; cases h1
  have hnbf : ∀ kb, (Value.slice ad (kf + 1) cap).ownBlock = some kb → kb ≠ b := fun kb e e' => by rw [e'] at e; have h1 := hft b e; rw [hb2] at h1; cases h1
  refine ⟨T2, h.ext.trans ((hx1.later h.keep.size).trans (hx2.later hW.keep.size)), ?_, hb2, h.bnew, ?_, ?_, ?_, ?_, ?_, ?_, ?_, hft, ?_, ?_, ?_⟩
  · exact hok2.keeps (Keeps.setCell (S := fun q => q = b) (p := ⟨b, 3, none⟩) (Keeps.refl _ _) (fun _ => rfl) _)
  · exact (hW.row.keeps k2 (fun e => hbf b e rfl)).set 3 (by simp) _
  · exact (hW.cells.keeps k3 (fun k e => hS k _ e (by simp) (by simp))).ext hx
  · exact (hW.owners.keeps k3 (fun k e => hS k _ e (by simp) (by simp))).ext hx
  · refine ownsRow_keeps hW.down k3 (fun q e e' => ?_)
    have h1 := (h.dnew q e).1
    rcases e' with e' | e'
    · rw [h.ftag q e'] at h1; cases h1
    · rw [e', h.tb] at h1; cases h1
  · intro kb e
    have h1 := h.dnew kb e
    have h2 := ownsRow_lt h.down e
    refine ⟨?_, h1.2⟩
    rw [hT2]
    unfold tagV
    rw [if_neg, hT1]
    · unfold tagV
      rw [if_neg (fun e' => by simp [Value.ownBlock] at e'; omega)]
      exact h1.1
    · intro e'
      rcases hout.2.2 kb e' with h3 | h3
      · rw [h.ftag kb h3] at h1; cases h1.1
      · have := hk.size; omega
  · intro j hj
    obtain ⟨u, e1, hi⟩ := hW.code j hj
    exact ⟨u, e1, (hi.keeps k3 (fun k e => by obtain ⟨i2, e⟩ := e; exact hS k _ e (by simp) (by simp))).ext hx⟩
  · have e : frCells ((rs ++ [Value.slice (some ⟨g, 0, none⟩) n n]).map idleF) = frCells (rs.map idleF) ++ (idleF (.slice (some ⟨g, 0, none⟩) n n)).cells := by simp [frCells]
    rw [e]
    exact ownsRow_keeps hout.1 (Keeps.setCell (S := fun q => q = b) (p := ⟨b, 3, none⟩) (Keeps.refl _ _) (fun _ => rfl) _) (fun q e e' => hnbf q e e')
  · intro kb e
    rcases hout.2.2 kb e with h3 | h3
    · exact h.fnew kb h3
    · rw [h3]; exact hW.keep.size
  · intro j r e
    by_cases ej : j < kf
    · rw [List.getElem?_append_left (by omega)] at e
      exact ((hW.regs j r e).keeps k3 (fun k e => hS k _ e (by simp) (by simp))).ext hx
    · rw [List.getElem?_append_right (by omega)] at e
      have hj : j = kf := by
        have := (List.getElem?_eq_some_iff.1 e).1
        simp at this
        omega
      subst hj
      rw [hrs, Nat.sub_self] at e
      simp at e
      subst e
      unfold regsN
      rw [← hn]
      refine ⟨_, n, by rw [List.length_replicate], fun _ => ⟨g, rfl, hx2.1 _ _ hgt, hr.keeps k3 hgS⟩⟩
  · refine hW.keep.trans k3 (fun q hq e => ?_)
    rcases e with e | e
    · have := h.fnew q e; omega
    · have := h.bnew; omega
end

theorem FRow.own {w : World} {n B : Nat} {v : Value} {xs : List Value} {e : TypeId} (h : w.ownsRow 0 e 1 v n xs) (hB : ∀ kb, v.ownBlock = some kb → B ≤ kb) : FRow w B v n xs := FRow.of h hB
/-- the invariant at its start -/
theorem NvI.start {w W w1 : World} {T : Tags} {id b : Nat} {x : Img} {c o : Value} (hok : TOk T w) (hk : Keeps NoBlk w W) (hk1 : Keeps NoBlk W w1) (hb : W.heap.size ≤ b) (hr : RowAt w1 b [c, o, nilV, nilV])
    (hc : W.ownsRow 0 3 1 c x.cells.length (ints x.cells)) (hcB : ∀ kb, c.ownBlock = some kb → w.heap.size ≤ kb) (ho : W.ownsRow 0 3 1 o (ownersN x).length (ints (ownersN x))) (hoB : ∀ kb, o.ownBlock = some kb → w.heap.size ≤ kb)
    (hap : ∀ kb, c.ownBlock = some kb → o.ownBlock ≠ some kb) : ∃ T', NvI w w1 T T' id b x c o 0 0 [] [] nilV nilV := by
  have hbw : w.heap.size ≤ b := Nat.le_trans hk.size hb
  have hb1 : b < w1.heap.size := hr.lt (by simp)
  have hcl : ∀ kb, c.ownBlock = some kb → kb < W.heap.size := fun kb e => ownsRow_lt hc e
  have hol : ∀ kb, o.ownBlock = some kb → kb < W.heap.size := fun kb e => ownsRow_lt ho e
  have n1 : NewTag T id .mach (.slice (some ⟨b, 0, none⟩) 1 1) w.heap.size := fun kb e => by
    simp [Value.ownBlock] at e
    subst e
    exact .inr ⟨hok.free hbw, hbw⟩
  have x1 := tagV_ext (w := w) n1
  obtain ⟨T1, e1⟩ : ∃ T1, T1 = tagV T id .mach (.slice (some ⟨b, 0, none⟩) 1 1) := ⟨_, rfl⟩
  rw [← e1] at x1
  have tb1 : T1 b = some (id, .mach) := by rw [e1]; exact tagV_own rfl
  have u1 : ∀ kb, kb ≠ b → w.heap.size ≤ kb → T1 kb = none := fun kb hne hk' => by
    rw [e1]
    unfold tagV
    rw [if_neg (fun e => by simp [Value.ownBlock] at e; exact hne e.symm)]
    exact hok.free hk'
  have n2 : NewTag T1 id .cells c w.heap.size := fun kb e => .inr ⟨u1 kb (by have := hcl kb e; omega) (hcB kb e), hcB kb e⟩
  have x2 := tagV_ext (w := w) n2
  obtain ⟨T2, e2⟩ : ∃ T2, T2 = tagV T1 id .cells c := ⟨_, rfl⟩
  rw [← e2] at x2
  have n3 : NewTag T2 id .owners o w.heap.size := fun kb e => by
    refine .inr ⟨?_, hoB kb e⟩
    rw [e2]
    unfold tagV
    rw [if_neg (fun e' => hap kb e' e)]
    exact u1 kb (by have := hol kb e; omega) (hoB kb e)
  have x3 := tagV_ext (w := w) n3
  obtain ⟨T3, e3⟩ : ∃ T3, T3 = tagV T2 id .owners o := ⟨_, rfl⟩
  rw [← e3] at x3
  have hsz : W.heap.size ≤ w1.heap.size := hk1.size
  have ok3 : TOk T3 w1 := by
    rw [e3]
    refine tagV_ok ?_ (fun kb e => by have := hol kb e; omega)
    rw [e2]
    refine tagV_ok ?_ (fun kb e => by have := hcl kb e; omega)
    rw [e1]
    exact tagV_ok (hok.keeps (hk.trans0 hk1)) (fun kb e => by simp [Value.ownBlock] at e; omega)
  refine ⟨T3, x1.trans (x2.trans x3), ok3, (x2.1.trans x3.1) _ _ tb1, hbw, hr, ?_, ?_, World.ownsRow_nil _ _ _ _, fun kb e => by simp [nilV, Value.ownBlock] at e, fun j hj => absurd hj (Nat.not_lt_zero _), World.ownsRow_nil _ _ _ _, fun kb e => by simp [nilV, Value.ownBlock] at e, fun kb e => by simp [nilV, Value.ownBlock] at e, fun j r e => by simp at e, hk.trans0 hk1⟩
  · exact (IRow.of (FRow.own hc hcB) (fun kb e => x3.1 _ _ (by rw [e2]; exact tagV_own e))).keeps hk1 (fun _ _ h => h)
  · exact (IRow.of (FRow.own ho hoB) (fun kb e => by rw [e3]; exact tagV_own e)).keeps hk1 (fun _ _ h => h)

/-- the machine, ahead of its first thread's beginning -/
theorem NvI.done {w wr : World} {T T' : Tags} {id b : Nat} {x : Img} {c o : Value} {us rs : List Value} {dv fv : Value} (h : NvI w wr T T' id b x c o x.threads.length x.threads.length us rs dv fv) (hn : 1 ≤ x.threads.length) :
    ∃ T2 gf cf, ExtI T T2 id w ∧ VmAt wr T2 id b gf cf x (new0 x) := by
  have hrs := h.len_rs
  obtain ⟨gf, cf, rfl, _, _⟩ := h.fown.form (by omega)
  obtain ⟨gd, cd, rfl, _, _⟩ := h.down.form (by omega)
  have hnt : NewTag T' id .code (.slice (some ⟨gd, 0, none⟩) x.threads.length cd) w.heap.size := fun kb e => .inr (h.dnew kb e)
  have hx := tagV_ext (w := w) hnt
  have hcode : tagV T' id .code (.slice (some ⟨gd, 0, none⟩) x.threads.length cd) gd = some (id, .code) := tagV_own rfl
  have hok : TOk (tagV T' id .code (.slice (some ⟨gd, 0, none⟩) x.threads.length cd)) wr := tagV_ok h.tok (fun kb e => ownsRow_lt h.down e)
  generalize tagV T' id .code (.slice (some ⟨gd, 0, none⟩) x.threads.length cd) = T2 at hx hcode hok
  refine ⟨T2, gf, cf, h.ext.trans hx, hx.1 _ _ h.tb, hok, c, o, .slice (some ⟨gd, 0, none⟩) x.threads.length cd, ?_, ⟨h.cells.ext hx.1, h.owners.ext hx.1, rs.map idleF, ?_⟩, ?_⟩
  · have e : (new0 x).fr.length = x.threads.length := by simp [new0]
    rw [e]
    exact h.row
  · refine ⟨hx.1 _ _ (h.ftag gf rfl), RowAt.ofOwns h.fown, by simp [new0, hrs], fun i a f ha hf => ?_⟩
    obtain ⟨hi, rfl⟩ := new0_get x i f hf
    rw [List.getElem?_map] at ha
    obtain ⟨r, hr, rfl⟩ := Option.map_eq_some_iff.1 ha
    exact ⟨rfl, rfl, (h.regs i r hr).ext hx.1⟩
  · refine ⟨gd, cd, rfl, ⟨id, hcode⟩, fun i hi => ?_⟩
    obtain ⟨u, e1, hi2⟩ := h.code i hi
    have hc : wr.cell? ⟨gd, i, none⟩ = some u := by
      have := World.ownsRow.cellAt h.down i (by omega)
      rw [this]; exact e1
    exact ⟨u, hc, hi2.ext hx.1⟩
end Go.Proofs.Ytmkfpkficmmlgaa
