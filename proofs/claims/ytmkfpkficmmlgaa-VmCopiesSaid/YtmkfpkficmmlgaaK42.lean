/- VmPlays: the statement. -/
import Derived.Test.YtmkfpkficmmlgaaK41
import Derived.Test.YtmkfpkficmmlgaaK40
namespace Go.Proofs.Ytmkfpkficmmlgaa
open Go.ChangeShapes Go.WideShapes Go.ChangeAt Go.RowKit
set_option linter.unusedVariables false
set_option linter.unusedSimpArgs false
set_option linter.unnecessarySimpa false

theorem keeps_below {w w' : World} (h : Keeps NoBlk w w') : Below w.heap.size w w' := h.below (fun k _ hk => hk.elim) (Nat.le_refl _)

namespace lawVmPlays
set_option maxRecDepth 100000 in
theorem lifted (os : Os) (started : os.Started) (H : Type) (enc : TypeId × Value → H) :
    ReturnsInHanded {} Try.checked os 3 .any (Rows.vmPlaysSpec.pre6 enc Try.prog Try.f3 Rows.vmPlaysRow.domain false) (Rows.vmPlaysSpec.post enc Try.prog Try.f3 false true false false) := by
  refine returnsInHanded_of_change_sized (C := Try.checked) own started (by kernel_rfl) Try.func3
    (by
      obtain ⟨w, tape, i, h1, h2, h3, h4, h5⟩ := ChangeSpec.witness6 (enc := enc) (C := Try.checked) (s := Rows.vmPlaysSpec) (fn := Try.f3) (conds := Rows.vmPlaysRow.domain) (os := os) (f := 3) false ⟨#[], #[.agg #[.slice none 0 0, .int .i64 0, .slice none 0 0], .slice none 0 0], []⟩ 8 (by kernel_rfl) (by kernel_rfl) (by kernel_rfl) (by kernel_rfl)
      exact ⟨w, tape, i, h1, h2, h3, h4, h5⟩) ?_
  intro W base args ds gs before hval0 hW hcnd hsz _
  have hval : ∀ (j : Nat) t v, Try.f3.params[j]? = some t → args[j]? = some v → Value.okWide Try.prog W .any base t v := hval0
  have hW' := hW
  have hltW := hW.lt
  obtain ⟨p, q, hA0, hV, rfl, hfz, hnd⟩ := hW
  have hA : DataW.TrodAll enc Try.prog W 0 (fun _ => true) true Try.f3.params.toList args.toList ds p := hA0
  rw [Try.params3] at hA hval
  obtain ⟨v0, vs0, d0, ds0, p0, q0, hargs, rfl, rfl, h0, r0⟩ := trodAll_cons hA
  obtain ⟨v1, vs1, d1, ds1, p1, q1, rfl, rfl, rfl, h1, r1⟩ := trodAll_cons r0
  obtain ⟨rfl, rfl, rfl⟩ := trodAll_nil r1
  obtain rfl : args = #[v0, v1] := by cases args; simp_all
  obtain ⟨rfl, rfl⟩ := trodVars_none hV
  have h0k := h0
  have h1k := h1
  have hlt0 : ∀ x ∈ p0, x.block < W.heap.size := fun x hx => hltW x (by simp [hx])
  have hlt1 : ∀ x ∈ p1, x.block < W.heap.size := fun x hx => hltW x (by simp [hx])
  have hz : ∀ (j : Nat) (t : TypeId) (d : DataW H), (Try.f3.params.toList ++ Rows.vmPlaysSpec.plain.varTypes Try.prog)[j]? = some t → ([d0, d1] ++ [])[j]? = some d → ∀ n ∈ d.weights Try.prog t, n ≤ reachBytes := fun j t d ht hd n hn => by
    have := List.all_eq_true.1 hsz n (DataW.weights_mem_each ht hd n hn)
    simpa using this
  obtain ⟨c0, rfl, _⟩ := okWide_struct Try.underlying25 (hval 0 25 v0 rfl rfl)
  obtain ⟨ad, len, cap, rfl⟩ := okWide_slice Try.underlying22 (hval 1 22 v1 rfl rfl)
  obtain ⟨f0, hf0⟩ := h0
  obtain ⟨f1, hf1⟩ := h1
  obtain ⟨cv, tv, x, hcs, hx, hsx⟩ := open_image (d := d0) (ps := p0) hf0 (hz 0 _ _ (by rw [Try.params3]; rfl) rfl)
  obtain ⟨rs, hr, _⟩ := open_row (d := d1) (ps := p1) hf1 (hz 1 _ _ (by rw [Try.params3]; rfl) rfl)
  have hc0 : c0 = #[cv, .int .i64 x.mutexes, tv] := by
    have h : c0.toList = [cv, .int .i64 x.mutexes, tv] := hcs
    cases c0; simpa using h
  subst hc0
  clear hA0 hval0
  simp only [List.append_nil] at hW'
  refine (vmplays_any W cv tv _ x rs hx hsx hr).mono fun e W' ⟨he, hk⟩ => ?_
  subst he
  have hb := keeps_below hk
  refine ⟨_, rfl, _, _, _, [], p0 ++ p1, [], hW', trodAll_cons_mk (shut_bool Try.underlying4 _) trodAll_mk0, ?_, rfl, hb.frame _, fun h => by cases h⟩
  have := trodAll_cons_mk (Below.trod laidOut (by kernel_rfl) (of_decide_eq_true (by kernel_rfl)) h0k hb hlt0) (trodAll_cons_mk (Below.trod laidOut (by kernel_rfl) (of_decide_eq_true (by kernel_rfl)) h1k hb hlt1) trodAll_mk0)
  rw [List.append_nil] at this
  rw [Try.params3]
  exact this

theorem said : Rows.VmPlaysSaid :=
  OpenClaim.holds_of_wide 3 Try.f3 rfl rfl rfl rfl rfl rfl rfl ⟨rfl, rfl, rfl, rfl, rfl⟩ rfl rfl rfl rfl rfl (by kernel_rfl) Try.func3 (by kernel_rfl)
    (of_decide_eq_true (by kernel_rfl)) (by unfold Func.isWrapper; first | (rw [if_pos (by decide +kernel)]; kernel_rfl) | (rw [if_neg (by decide +kernel)]; exact ⟨rfl, rfl⟩))
    (fun os started H enc _ => lifted os started H enc)
end lawVmPlays
end Go.Proofs.Ytmkfpkficmmlgaa

/- A machine that is copied: what both copies' loops hold. -/
namespace Go.Proofs.Ytmkfpkficmmlgaa
open Go.RowKit
set_option linter.unusedVariables false
set_option linter.unusedSimpArgs false
set_option linter.unnecessarySimpa false

structure CyI (w wr : World) (T T' : Tags) (id b : Nat) (e : TypeId) (pre : List Value) (k : Nat) (hs : List HFr) (fr : List Fr) (c o : Value) (cs os : List Int) (fv : Value) : Prop where
  ext : ExtI T T' id w
  tok : TOk T' wr
  tb : T' b = some (id, .mach)
  bnew : w.heap.size ≤ b
  row : RowAt wr b (pre ++ [fv])
  cells : IRow wr T' id .cells c cs
  owners : IRow wr T' id .owners o os
  fown : wr.ownsRow 0 e 3 fv k (frCells hs)
  ftag : ∀ kb, fv.ownBlock = some kb → T' kb = some (id, .frames)
  fnew : ∀ kb, fv.ownBlock = some kb → w.heap.size ≤ kb
  each : ∀ j a f, hs[j]? = some a → fr[j]? = some f → a.st = f.st ∧ a.at_ = f.at_ ∧ IRow wr T' id (.regs j) a.rv f.regs
  keep : Keeps NoBlk w wr

section
variable {w wr : World} {T T' : Tags} {id b : Nat} {e : TypeId} {pre : List Value} {k : Nat} {hs : List HFr} {fr : List Fr} {c o : Value} {cs os : List Int} {fv : Value}
theorem CyI.keeps0 (h : CyI w wr T T' id b e pre k hs fr c o cs os fv) {W : World} (hk : Keeps NoBlk wr W) : CyI w W T T' id b e pre k hs fr c o cs os fv :=
  ⟨h.ext, h.tok.keeps hk, h.tb, h.bnew, h.row.keeps hk (fun h => h), h.cells.keeps hk (fun _ _ h => h), h.owners.keeps hk (fun _ _ h => h), ownsRow_keeps h.fown hk (fun _ _ h => h), h.ftag, h.fnew,
   fun j a f ha hf => ⟨(h.each j a f ha hf).1, (h.each j a f ha hf).2.1, (h.each j a f ha hf).2.2.keeps hk (fun _ _ h => h)⟩, h.keep.trans0 hk⟩
theorem CyI.len (h : CyI w wr T T' id b e pre k hs fr c o cs os fv) : hs.length = k := by
  have := h.fown.1
  unfold frCells at this
  rw [length_cells _ 3 hfr_len] at this
  omega

/-- a frame is appended -/
theorem CyI.frStep (h : CyI w wr T T' id b e pre k hs fr c o cs os fv) {W w2 : World} {f : Fr} {rv : Value} {ei : TypeId} {ad : Option Addr} {cap : Nat} (hk : Keeps NoBlk wr W) (hf : fr[k]? = some f)
    (hr : W.ownsRow 0 ei 1 rv f.regs.length (ints f.regs)) (hg : ∀ kb, rv.ownBlock = some kb → wr.heap.size ≤ kb)
    (hout : AppOut W 0 e 3 fv (k + 1) (frCells hs ++ (HFr.mk f.st rv f.at_).cells) ad cap w2) :
    ∃ T2, CyI w (w2.setCell ⟨b, pre.length, none⟩ (.slice ad (k + 1) cap)) T T2 id b e pre (k + 1) (hs ++ [⟨f.st, rv, f.at_⟩]) fr c o cs os (.slice ad (k + 1) cap) := by
  have hW := h.keeps0 hk
  have hrs := h.len
  have hnt : NewTag T' id (.regs k) rv wr.heap.size := fun kb e' => .inr ⟨h.tok.free (hg kb e'), hg kb e'⟩
  have hx1 := tagV_ext (w := wr) hnt
  obtain ⟨T1, hT1⟩ : ∃ T1, T1 = tagV T' id (.regs k) rv := ⟨_, rfl⟩
  rw [← hT1] at hx1
  have hgt : ∀ kb, rv.ownBlock = some kb → T1 kb = some (id, .regs k) := fun kb e' => by rw [hT1]; exact tagV_own e'
  have hok1 : TOk T1 W := by rw [hT1]; exact tagV_ok hW.tok (fun kb e' => ownsRow_lt hr e')
  have hnt2 : NewTag T1 id .frames (.slice ad (k + 1) cap) W.heap.size := fun kb e' => by
    rcases hout.2.2 kb e' with h1 | h1
    · exact .inl (hx1.1 _ _ (h.ftag kb h1))
    · rw [h1]; exact .inr ⟨hok1.free (Nat.le_refl _), Nat.le_refl _⟩
  have hx2 := tagV_ext (w := W) hnt2
  obtain ⟨T2, hT2⟩ : ∃ T2, T2 = tagV T1 id .frames (.slice ad (k + 1) cap) := ⟨_, rfl⟩
  rw [← hT2] at hx2
  have hft : ∀ kb, (Value.slice ad (k + 1) cap).ownBlock = some kb → T2 kb = some (id, .frames) := fun kb e' => by rw [hT2]; exact tagV_own e'
  have k2 : Keeps (fun q => fv.ownBlock = some q) W w2 := hout.keeps (Keeps.refl _ _) (fun q e' _ => e')
  have k3 : Keeps (fun q => fv.ownBlock = some q ∨ q = b) W (w2.setCell ⟨b, pre.length, none⟩ (.slice ad (k + 1) cap)) := (k2.mono (fun _ _ e' => .inl e')).setCell (p := ⟨b, pre.length, none⟩) (fun _ => .inr rfl) _
  have hok2 : TOk T2 w2 := by rw [hT2]; exact tagV_ok (hok1.keeps k2) (fun kb e' => ownsRow_lt hout.1 e')
  have hx := hx1.1.trans hx2.1
  have hb2 : T2 b = some (id, .mach) := hx _ _ h.tb
  have hS : ∀ q y, T' q = some y → y.2 ≠ .mach → y.2 ≠ .frames → ¬ (fv.ownBlock = some q ∨ q = b) := fun q y e1 hy hy2 e' => by
    rcases e' with e' | e'
    · rw [h.ftag q e'] at e1; cases e1; exact hy2 rfl
    · rw [e', h.tb] at e1; cases e1; exact hy rfl
  have hbf : ∀ kb, fv.ownBlock = some kb → kb ≠ b := fun kb e1 e' => by rw [e'] at e1; have h1 := h.ftag b e1; rw [h.tb] at h1; cases h1
  have hgS : ∀ kb, rv.ownBlock = some kb → ¬ (fv.ownBlock = some kb ∨ kb = b) := by
    intro kb ekb
    have hfree : T' kb = none := h.tok.free (hg kb ekb)
    rintro (e' | e')
    · have := h.ftag kb e'; rw [hfree] at this; cases this
    · have h1 := h.tb; rw [← e', hfree] at h1; cases h1
  have hnbf : ∀ kb, (Value.slice ad (k + 1) cap).ownBlock = some kb → kb ≠ b := fun kb e1 e' => by rw [e'] at e1; have h1 := hft b e1; rw [hb2] at h1; cases h1
  refine ⟨T2, h.ext.trans ((hx1.later h.keep.size).trans (hx2.later hW.keep.size)), ?_, hb2, h.bnew, ?_, ?_, ?_, ?_, hft, ?_, ?_, ?_⟩
  · exact hok2.keeps (Keeps.setCell (S := fun q => q = b) (p := ⟨b, pre.length, none⟩) (Keeps.refl _ _) (fun _ => rfl) _)
  · have h1 := (hW.row.keeps k2 (fun e' => hbf b e' rfl)).set pre.length (by simp) (.slice ad (k + 1) cap)
    rw [List.set_append_right _ _ (Nat.le_refl _), Nat.sub_self] at h1
    exact h1
  · exact (hW.cells.keeps k3 (fun q e1 => hS q _ e1 (by simp) (by simp))).ext hx
  · exact (hW.owners.keeps k3 (fun q e1 => hS q _ e1 (by simp) (by simp))).ext hx
  · have e1 : frCells (hs ++ [⟨f.st, rv, f.at_⟩]) = frCells hs ++ (HFr.mk f.st rv f.at_).cells := by simp [frCells]
    rw [e1]
    exact ownsRow_keeps hout.1 (Keeps.setCell (S := fun q => q = b) (p := ⟨b, pre.length, none⟩) (Keeps.refl _ _) (fun _ => rfl) _) (fun q e1 e' => hnbf q e1 e')
  · intro kb e1
    rcases hout.2.2 kb e1 with h3 | h3
    · exact h.fnew kb h3
    · rw [h3]; exact hW.keep.size
  · intro j a f' ha hf'
    by_cases ej : j < k
    · rw [List.getElem?_append_left (by omega)] at ha
      obtain ⟨q1, q2, q3⟩ := hW.each j a f' ha hf'
      exact ⟨q1, q2, (q3.keeps k3 (fun q e1 => hS q _ e1 (by simp) (by simp))).ext hx⟩
    · rw [List.getElem?_append_right (by omega)] at ha
      have hj : j = k := by
        have := (List.getElem?_eq_some_iff.1 ha).1
        simp at this
        omega
      subst hj
      rw [hf] at hf'
      cases hf'
      rw [hrs, Nat.sub_self] at ha
      simp at ha
      subst ha
      refine ⟨rfl, rfl, ?_⟩
      have h1 : IRow W T1 id (.regs j) rv f.regs := IRow.of (FRow.own hr hg) (fun kb e1 => hgt kb e1)
      obtain ⟨ad1, cap1, rfl, h2⟩ := h1
      refine ⟨ad1, cap1, rfl, fun hn => ?_⟩
      obtain ⟨g, rfl, h3, h4⟩ := h2 hn
      exact ⟨g, rfl, hx2.1 _ _ h3, h4.keeps k3 (hgS g rfl)⟩
  · refine hW.keep.trans k3 (fun q hq e1 => ?_)
    rcases e1 with e1 | e1
    · have := h.fnew q e1; omega
    · have := h.bnew; omega
end

/-- the invariant at its start -/
theorem CyI.start {w w1 : World} {T : Tags} {id b : Nat} {e ec eo : TypeId} {pre : List Value} {fr : List Fr} {c o : Value} {cs os : List Int} (hok : TOk T w) (hk : Keeps NoBlk w w1) (hb : w.heap.size ≤ b) (hr : RowAt w1 b (pre ++ [nilV]))
    (hc : w1.ownsRow 0 ec 1 c cs.length (ints cs)) (hcB : ∀ kb, c.ownBlock = some kb → w.heap.size ≤ kb ∧ kb ≠ b) (ho : w1.ownsRow 0 eo 1 o os.length (ints os)) (hoB : ∀ kb, o.ownBlock = some kb → w.heap.size ≤ kb ∧ kb ≠ b)
    (hap : ∀ kb, c.ownBlock = some kb → o.ownBlock ≠ some kb) : ∃ T', CyI w w1 T T' id b e pre 0 [] fr c o cs os nilV := by
  have hb1 : b < w1.heap.size := hr.lt (by simp)
  have n1 : NewTag T id .mach (.slice (some ⟨b, 0, none⟩) 1 1) w.heap.size := fun kb e1 => by
    simp [Value.ownBlock] at e1
    subst e1
    exact .inr ⟨hok.free hb, hb⟩
  have x1 := tagV_ext (w := w) n1
  obtain ⟨T1, e1⟩ : ∃ T1, T1 = tagV T id .mach (.slice (some ⟨b, 0, none⟩) 1 1) := ⟨_, rfl⟩
  rw [← e1] at x1
  have tb1 : T1 b = some (id, .mach) := by rw [e1]; exact tagV_own rfl
  have u1 : ∀ kb, kb ≠ b → w.heap.size ≤ kb → T1 kb = none := fun kb hne hk' => by
    rw [e1]
    unfold tagV
    rw [if_neg (fun e2 => by simp [Value.ownBlock] at e2; exact hne e2.symm)]
    exact hok.free hk'
  have n2 : NewTag T1 id .cells c w.heap.size := fun kb e2 => .inr ⟨u1 kb (hcB kb e2).2 (hcB kb e2).1, (hcB kb e2).1⟩
  have x2 := tagV_ext (w := w) n2
  obtain ⟨T2, e2⟩ : ∃ T2, T2 = tagV T1 id .cells c := ⟨_, rfl⟩
  rw [← e2] at x2
  have n3 : NewTag T2 id .owners o w.heap.size := fun kb e3 => by
    refine .inr ⟨?_, (hoB kb e3).1⟩
    rw [e2]
    unfold tagV
    rw [if_neg (fun e' => hap kb e' e3)]
    exact u1 kb (hoB kb e3).2 (hoB kb e3).1
  have x3 := tagV_ext (w := w) n3
  obtain ⟨T3, e3⟩ : ∃ T3, T3 = tagV T2 id .owners o := ⟨_, rfl⟩
  rw [← e3] at x3
  have ok3 : TOk T3 w1 := by
    rw [e3]
    refine tagV_ok ?_ (fun kb e4 => ownsRow_lt ho e4)
    rw [e2]
    refine tagV_ok ?_ (fun kb e4 => ownsRow_lt hc e4)
    rw [e1]
    exact tagV_ok (hok.keeps hk) (fun kb e4 => by simp [Value.ownBlock] at e4; omega)
  refine ⟨T3, x1.trans (x2.trans x3), ok3, (x2.1.trans x3.1) _ _ tb1, hb, hr, ?_, ?_, World.ownsRow_nil _ _ _ _, fun kb e4 => by simp [nilV, Value.ownBlock] at e4, fun kb e4 => by simp [nilV, Value.ownBlock] at e4, fun j a f ha hf => by simp at ha, hk⟩
  · exact IRow.of (FRow.own hc (fun kb e4 => (hcB kb e4).1)) (fun kb e4 => x3.1 _ _ (by rw [e2]; exact tagV_own e4))
  · exact IRow.of (FRow.own ho (fun kb e4 => (hoB kb e4).1)) (fun kb e4 => by rw [e3]; exact tagV_own e4)

/-- the copy of vm's machine -/
theorem CyI.vm {w wr : World} {T T' : Tags} {id b k : Nat} {e : TypeId} {x : Img} {m : Mach} {c o dv : Value} {hs : List HFr} {fv : Value} (h : CyI w wr T T' id b e [c, o, dv] k hs m.fr c o m.cells m.owners fv) (hk : k = m.fr.length) (hn : k ≠ 0) (hcode : CodeAt w T dv x.threads) :
    ∃ gf cf, VmAt wr T' id b gf cf x m := by
  have hrs := h.len
  obtain ⟨gf, cf, rfl, _, _⟩ := h.fown.form (by omega)
  subst hk
  refine ⟨gf, cf, h.tb, h.tok, c, o, dv, h.row, ⟨h.cells, h.owners, hs, ?_⟩, (hcode.keeps h.keep (fun _ _ h => h)).ext h.ext.1⟩
  exact ⟨h.ftag gf rfl, RowAt.ofOwns h.fown, hrs, h.each⟩
/-- the copy of the document's machine -/
theorem CyI.rm {w wr : World} {T T' : Tags} {id b k : Nat} {e : TypeId} {x : Img} {m : Mach} {c o xt : Value} {xc : Sl} {hs : List HFr} {fv : Value} (h : CyI w wr T T' id b e [xc.v, .int .i64 x.mutexes, xt, c, o] k hs m.shade.fr c o m.cells m.owners fv) (hk : k = m.fr.length) (hn : k ≠ 0) (hthr : ThrAt w T xt x.threads) :
    ∃ gf cf, RmAt wr T' id b gf cf x m := by
  have hrs := h.len
  obtain ⟨gf, cf, rfl, _, _⟩ := h.fown.form (by omega)
  subst hk
  refine ⟨gf, cf, h.tb, h.tok, xc, xt, c, o, h.row, ⟨h.cells, h.owners, hs, ?_⟩, (hthr.keeps h.keep (fun _ _ h => h)).ext h.ext.1⟩
  exact ⟨h.ftag gf rfl, RowAt.ofOwns h.fown, by rw [hrs]; simp [Mach.shade], h.each⟩
end Go.Proofs.Ytmkfpkficmmlgaa
