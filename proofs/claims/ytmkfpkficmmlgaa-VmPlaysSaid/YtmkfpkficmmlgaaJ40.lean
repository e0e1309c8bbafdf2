/- The law's copied: what its loop holds; an image of its owner's. -/
import Derived.Test.YtmkfpkficmmlgaaJ39
namespace Go.Proofs.Ytmkfpkficmmlgaa
open Go.RowKit
set_option linter.unusedVariables false
set_option linter.unusedSimpArgs false
set_option linter.unnecessarySimpa false

def thrCells (cs : List Cod) (us : List Value) : List Value := (cs.zip us).flatMap fun p => [.int .i64 p.1.regs, p.2]
/-- an owned row of instructions -/
def OIns (w : World) (T : Tags) (id j : Nat) (u : Value) (l : List Ins) : Prop :=
  ∃ ad cap, u = .slice ad l.length cap ∧ (l.length ≠ 0 → ∃ g, ad = some ⟨g, 0, none⟩ ∧ T g = some (id, .regs j) ∧ RowAt w g (insCells l))
theorem OIns.keeps {S : Nat → Prop} {w w' : World} {T : Tags} {id j : Nat} {u : Value} {l : List Ins} (h : OIns w T id j u l) (hk : Keeps S w w') (hS : ∀ k, T k = some (id, .regs j) → ¬ S k) : OIns w' T id j u l := by
  obtain ⟨ad, cap, e, h1⟩ := h
  refine ⟨ad, cap, e, fun hn => ?_⟩
  obtain ⟨g, e1, e2, e3⟩ := h1 hn
  exact ⟨g, e1, e2, e3.keeps hk (hS g e2)⟩
theorem OIns.ext {w : World} {T T' : Tags} {id j : Nat} {u : Value} {l : List Ins} (h : OIns w T id j u l) (hT : Ext T T') : OIns w T' id j u l := by
  obtain ⟨ad, cap, e, h1⟩ := h
  refine ⟨ad, cap, e, fun hn => ?_⟩
  obtain ⟨g, e1, e2, e3⟩ := h1 hn
  exact ⟨g, e1, hT _ _ e2, e3⟩
structure CpI (w wr : World) (T T' : Tags) (id y : Nat) (x : Img) (c : Value) (k : Nat) (us : List Value) (tv : Value) : Prop where
  ext : ExtI T T' id w
  tok : TOk T' wr
  yfree : T' y = none
  row : RowAt wr y [c, .int .i64 x.mutexes, tv]
  cells : IRow wr T' id .cells c x.cells
  town : wr.ownsRow 0 51 2 tv k (thrCells (x.threads.take k) us)
  ttag : ∀ kb, tv.ownBlock = some kb → T' kb = some (id, .frames)
  tnew : ∀ kb, tv.ownBlock = some kb → w.heap.size ≤ kb
  ulen : us.length = k
  ins : ∀ j u, us[j]? = some u → OIns wr T' id j u (x.cod j).ins
  keep : Keeps (fun q => q = y) w wr
section
variable {w wr : World} {T T' : Tags} {id y : Nat} {x : Img} {c : Value} {k : Nat} {us : List Value} {tv : Value}
theorem CpI.keeps (h : CpI w wr T T' id y x c k us tv) {S : Nat → Prop} {W : World} (hk : Keeps S wr W) (hS : ∀ q, S q → T' q = none ∧ q ≠ y ∧ w.heap.size ≤ q) : CpI w W T T' id y x c k us tv := by
  have hn : ∀ q z, T' q = some z → ¬ S q := fun q z e e' => by rw [(hS q e').1] at e; cases e
  refine ⟨h.ext, h.tok.keeps hk, h.yfree, h.row.keeps hk (fun e => (hS y e).2.1 rfl), h.cells.keeps hk (fun q e => hn q _ e), ownsRow_keeps h.town hk (fun q e => hn q _ (h.ttag q e)), h.ttag, h.tnew, h.ulen, fun j u e => (h.ins j u e).keeps hk (fun q e => hn q _ e), h.keep.trans hk (fun q hq e => ?_)⟩
  have := (hS q e).2.2
  omega
theorem CpI.step (h : CpI w wr T T' id y x c k us tv) (hkx : k < x.threads.length) {S : Nat → Prop} {W w2 : World} {u : Value} {ad : Option Addr} {cap : Nat} (hk : Keeps S wr W) (hS : ∀ q, S q → T' q = none ∧ q ≠ y ∧ w.heap.size ≤ q)
    (hu : FRow W wr.heap.size u (x.cod k).ins.length (insCells (x.cod k).ins)) (hub : ∀ kb, u.ownBlock = some kb → wr.heap.size ≤ kb ∧ kb < W.heap.size)
    (hout : AppOut W 0 51 2 tv (k + 1) (thrCells (x.threads.take k) us ++ [.int .i64 (x.cod k).regs, u]) ad cap w2) :
    ∃ T2, CpI w (w2.setCell ⟨y, 2, none⟩ (.slice ad (k + 1) cap)) T T2 id y x c (k + 1) (us ++ [u]) (.slice ad (k + 1) cap) := by
  have hW := h.keeps hk hS
  have hyl : y < wr.heap.size := h.row.lt (by simp)
  have hws : w.heap.size ≤ wr.heap.size := h.keep.size
  have hnt : NewTag T' id (.regs k) u wr.heap.size := fun kb e => .inr ⟨h.tok.free (hub kb e).1, (hub kb e).1⟩
  have hx1 := tagV_ext (w := wr) hnt
  obtain ⟨T1, hT1⟩ : ∃ T1, T1 = tagV T' id (.regs k) u := ⟨_, rfl⟩
  rw [← hT1] at hx1
  have hut : ∀ kb, u.ownBlock = some kb → T1 kb = some (id, .regs k) := fun kb e => by rw [hT1]; exact tagV_own e
  have hok1 : TOk T1 W := by rw [hT1]; exact tagV_ok hW.tok (fun kb e => (hub kb e).2)
  have hy1 : T1 y = none := by
    rw [hT1]
    unfold tagV
    rw [if_neg (fun e => by have := (hub y e).1; omega)]
    exact h.yfree
  have hnt2 : NewTag T1 id .frames (.slice ad (k + 1) cap) W.heap.size := fun kb e => by
    rcases hout.2.2 kb e with h1 | h1
    · exact .inl (hx1.1 _ _ (h.ttag kb h1))
    · rw [h1]; exact .inr ⟨hok1.free (Nat.le_refl _), Nat.le_refl _⟩
  have hx2 := tagV_ext (w := W) hnt2
  obtain ⟨T2, hT2⟩ : ∃ T2, T2 = tagV T1 id .frames (.slice ad (k + 1) cap) := ⟨_, rfl⟩
  rw [← hT2] at hx2
  have hft : ∀ kb, (Value.slice ad (k + 1) cap).ownBlock = some kb → T2 kb = some (id, .frames) := fun kb e => by rw [hT2]; exact tagV_own e
  have hy2 : T2 y = none := by
    rw [hT2]
    unfold tagV
    rw [if_neg]
    · exact hy1
    · intro e
      rcases hout.2.2 y e with h3 | h3
      · have := h.ttag y h3; rw [h.yfree] at this; cases this
      · have := hk.size; omega
  have k2 : Keeps (fun q => tv.ownBlock = some q) W w2 := hout.keeps (Keeps.refl _ _) (fun q e _ => e)
  have k3 : Keeps (fun q => tv.ownBlock = some q ∨ q = y) W (w2.setCell ⟨y, 2, none⟩ (.slice ad (k + 1) cap)) := (k2.mono (fun _ _ e => .inl e)).setCell (p := ⟨y, 2, none⟩) (fun _ => .inr rfl) _
  have hok2 : TOk T2 w2 := by rw [hT2]; exact tagV_ok (hok1.keeps k2) (fun kb e => ownsRow_lt hout.1 e)
  have hx := hx1.1.trans hx2.1
  have hS1 : ∀ q z, T1 q = some z → z.2 ≠ .frames → ¬ (tv.ownBlock = some q ∨ q = y) := fun q z e hz e' => by
    rcases e' with e' | e'
    · rw [hx1.1 _ _ (h.ttag q e')] at e; cases e; exact hz rfl
    · rw [e', hy1] at e; cases e
  refine ⟨T2, h.ext.trans ((hx1.later hws).trans (hx2.later hW.keep.size)), hok2.keeps (Keeps.setCell (S := fun q => q = y) (p := ⟨y, 2, none⟩) (Keeps.refl _ _) (fun _ => rfl) _), hy2, ?_, ?_, ?_, hft, ?_, by simp [h.ulen], ?_, ?_⟩
  · exact (hW.row.keeps k2 (fun e => by have := h.ttag y e; rw [h.yfree] at this; cases this)).set 2 (by simp) _
  · exact ((hW.cells.ext hx1.1).keeps k3 (fun q e => hS1 q _ e (by simp))).ext hx2.1
  · have e : thrCells (x.threads.take (k + 1)) (us ++ [u]) = thrCells (x.threads.take k) us ++ [.int .i64 (x.cod k).regs, u] := by
      have e1 : x.threads.take (k + 1) = x.threads.take k ++ [x.cod k] := by
        rw [List.take_add_one]
        simp [Img.cod, List.getD, hkx]
      unfold thrCells
      rw [e1, List.zip_append (by simp [h.ulen]; omega)]
      simp
    rw [e]
    refine ownsRow_keeps hout.1 (Keeps.setCell (S := fun q => q = y) (p := ⟨y, 2, none⟩) (Keeps.refl _ _) (fun _ => rfl) _) (fun q e e' => ?_)
    have e2 : q = y := e'
    have := hft q e
    rw [e2, hy2] at this
    cases this
  · intro kb e
    rcases hout.2.2 kb e with h3 | h3
    · exact h.tnew kb h3
    · rw [h3]; exact hW.keep.size
  · intro j u' e
    by_cases ej : j < k
    · rw [List.getElem?_append_left (by rw [h.ulen]; exact ej)] at e
      exact (((hW.ins j u' e).ext hx1.1).keeps k3 (fun q e => hS1 q _ e (by simp))).ext hx2.1
    · rw [List.getElem?_append_right (by rw [h.ulen]; omega)] at e
      have hj : j = k := by
        have := (List.getElem?_eq_some_iff.1 e).1
        simp [h.ulen] at this
        omega
      subst hj
      rw [h.ulen, Nat.sub_self] at e
      simp at e
      subst e
      obtain ⟨uad, uc, rfl, _, _, h2⟩ := (show FRow _ _ _ _ _ from hu)
      refine ⟨uad, uc, rfl, fun hn => ?_⟩
      obtain ⟨g, rfl, hg1, hg2⟩ := h2 hn
      exact ⟨g, rfl, hx2.1 _ _ (hut g rfl), hg2.keeps k3 (hS1 g _ (hut g rfl) (by simp))⟩
  · refine hW.keep.trans k3 (fun q hq e => ?_)
    rcases e with e | e
    · have := h.tnew q e; omega
    · exact e
end
/-- an image in memory of its owner's, who may write over it -/
structure OwnImg (w : World) (T : Tags) (id : Nat) (c tv : Value) (x : Img) : Prop where
  tok : TOk T w
  cells : IRow w T id .cells c x.cells
  thr : ∃ us : List Value, us.length = x.threads.length ∧ FRow w 0 tv x.threads.length (thrCells x.threads us) ∧ (∀ kb, tv.ownBlock = some kb → T kb = some (id, .frames)) ∧ ∀ j u, us[j]? = some u → OIns w T id j u (x.cod j).ins
theorem thr_len (cs : List Cod) (us : List Value) (h : us.length = cs.length) : (thrCells cs us).length = cs.length * 2 := by
  unfold thrCells
  rw [length_cells _ 2 (fun _ => rfl)]
  simp [h]
theorem thr_get (cs : List Cod) (us : List Value) (i : Nat) (c : Cod) (u : Value) (hc : cs[i]? = some c) (hu : us[i]? = some u) : (thrCells cs us)[i * 2]? = some (.int .i64 c.regs) ∧ (thrCells cs us)[i * 2 + 1]? = some u := by
  unfold thrCells
  have hz : (cs.zip us)[i]? = some (c, u) := by rw [List.getElem?_zip_eq_some]; exact ⟨hc, hu⟩
  have h0 := get_cells (fun p : Cod × Value => [Value.int .i64 p.1.regs, p.2]) 2 (fun _ => rfl) (cs.zip us) i 0 (by decide)
  have h1 := get_cells (fun p : Cod × Value => [Value.int .i64 p.1.regs, p.2]) 2 (fun _ => rfl) (cs.zip us) i 1 (by decide)
  rw [hz] at h0 h1
  exact ⟨h0, h1⟩
theorem OwnImg.read {w : World} {T : Tags} {id : Nat} {c tv : Value} {x : Img} (h : OwnImg w T id c tv x) : ImgR w c tv x := by
  refine ⟨h.cells.src, ?_⟩
  obtain ⟨us, hl, hf, _, hi⟩ := h.thr
  obtain ⟨ad, cap, e, _, _, h1⟩ := hf
  refine ⟨ad, cap, e, fun i hi' => ?_⟩
  obtain ⟨g, e1, _, hr⟩ := h1 (by omega)
  have hu : us[i]? = some us[i] := List.getElem?_eq_getElem (by omega)
  have hc : x.threads[i]? = some x.threads[i] := List.getElem?_eq_getElem hi'
  obtain ⟨c0, c1⟩ := thr_get x.threads us i _ _ hc hu
  have eg : x.threads.getD i ⟨0, []⟩ = x.threads[i] := by simp [List.getD, hi']
  refine ⟨g, 0, us[i], e1, ?_, ?_, ?_⟩
  · rw [Nat.zero_add, eg]; exact hr.cell c0
  · rw [Nat.zero_add]; exact hr.cell c1
  · obtain ⟨ad', cap', e', h2⟩ := hi i _ hu
    refine ⟨ad', cap', e', fun hn => ?_⟩
    obtain ⟨g', e2, _, hr'⟩ := h2 hn
    exact ⟨g', 0, e2, hr'.rng⟩
theorem CpI.done {w wr : World} {T T' : Tags} {id y : Nat} {x : Img} {c : Value} {us : List Value} {tv : Value} (h : CpI w wr T T' id y x c x.threads.length us tv) : OwnImg wr T' id c tv x := by
  refine ⟨h.tok, h.cells, us, h.ulen, ?_, h.ttag, h.ins⟩
  have := h.town
  rw [List.take_length] at this
  exact FRow.of this (fun _ _ => Nat.zero_le _)
theorem OwnImg.keeps0 {w w' : World} {T : Tags} {id : Nat} {c tv : Value} {x : Img} (h : OwnImg w T id c tv x) (hk : Keeps NoBlk w w') : OwnImg w' T id c tv x := by
  obtain ⟨us, hl, hf, ht, hi⟩ := h.thr
  exact ⟨h.tok.keeps hk, h.cells.keeps hk (fun _ _ h => h), us, hl, hf.keeps0 hk, ht, fun j u e => (hi j u e).keeps hk (fun _ _ h => h)⟩
theorem OwnImg.ext {w : World} {T T' : Tags} {id : Nat} {c tv : Value} {x : Img} (h : OwnImg w T id c tv x) (hT : Ext T T') (hok : TOk T' w) : OwnImg w T' id c tv x := by
  obtain ⟨us, hl, hf, ht, hi⟩ := h.thr
  exact ⟨hok, h.cells.ext hT, us, hl, hf, fun kb e => hT _ _ (ht kb e), fun j u e => (hi j u e).ext hT⟩
end Go.Proofs.Ytmkfpkficmmlgaa
