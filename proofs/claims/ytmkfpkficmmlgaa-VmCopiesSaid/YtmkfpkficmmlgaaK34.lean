/- The document's New, what its loops hold. -/
import Derived.Test.YtmkfpkficmmlgaaK33
namespace Go.Proofs.Ytmkfpkficmmlgaa
open Go.RowKit
set_option linter.unusedVariables false
set_option linter.unusedSimpArgs false
set_option linter.unnecessarySimpa false

def idle0 : HFr := ⟨1, nilV, 0⟩
structure RnI (w wr : World) (T T' : Tags) (id b : Nat) (x : Img) (xv tv c : Value) (ko kf : Nat) (o fv : Value) : Prop where
  ext : ExtI T T' id w
  tok : TOk T' wr
  tb : T' b = some (id, .mach)
  bnew : w.heap.size ≤ b
  row : RowAt wr b [xv, .int .i64 x.mutexes, tv, c, o, fv]
  cells : IRow wr T' id .cells c x.cells
  oown : wr.ownsRow 0 3 1 o ko (ints (List.replicate ko (-1)))
  otag : ∀ kb, o.ownBlock = some kb → T' kb = some (id, .owners)
  onew : ∀ kb, o.ownBlock = some kb → w.heap.size ≤ kb
  fown : wr.ownsRow 0 61 3 fv kf (frCells (List.replicate kf idle0))
  ftag : ∀ kb, fv.ownBlock = some kb → T' kb = some (id, .frames)
  fnew : ∀ kb, fv.ownBlock = some kb → w.heap.size ≤ kb
  keep : Keeps NoBlk w wr

section
variable {w wr : World} {T T' : Tags} {id b : Nat} {x : Img} {xv tv c : Value} {ko kf : Nat} {o fv : Value}
theorem RnI.keeps0 (h : RnI w wr T T' id b x xv tv c ko kf o fv) {W : World} (hk : Keeps NoBlk wr W) : RnI w W T T' id b x xv tv c ko kf o fv :=
  ⟨h.ext, h.tok.keeps hk, h.tb, h.bnew, h.row.keeps hk (fun h => h), h.cells.keeps hk (fun _ _ h => h), ownsRow_keeps h.oown hk (fun _ _ h => h), h.otag, h.onew, ownsRow_keeps h.fown hk (fun _ _ h => h), h.ftag, h.fnew, h.keep.trans0 hk⟩
theorem RnI.start {W w2 : World} {ad : Option Addr} {cap : Nat} (hok : TOk T w) (hk : Keeps NoBlk w W) (hb : w.heap.size ≤ b) (hr : RowAt W b [xv, .int .i64 x.mutexes, tv, nilV, nilV, nilV])
    (hout : AppOut W 0 3 1 nilV x.cells.length (ints x.cells) ad cap w2) : ∃ T', RnI w (w2.setCell ⟨b, 3, none⟩ (.slice ad x.cells.length cap)) T T' id b x xv tv (.slice ad x.cells.length cap) 0 0 nilV nilV := by
  have hbl : b < W.heap.size := hr.lt (by simp)
  have hcb : ∀ kb, (Value.slice ad x.cells.length cap).ownBlock = some kb → kb = W.heap.size := fun kb e => by
    rcases hout.2.2 kb e with h1 | h1
    · simp [nilV, Value.ownBlock] at h1
    · exact h1
  have n1 : NewTag T id .mach (.slice (some ⟨b, 0, none⟩) 1 1) w.heap.size := fun kb e => by
    simp [Value.ownBlock] at e
    subst e
    exact .inr ⟨hok.free hb, hb⟩
  have x1 := tagV_ext (w := w) n1
  have tb1 : tagV T id .mach (.slice (some ⟨b, 0, none⟩) 1 1) b = some (id, .mach) := tagV_own rfl
  have ok1 : TOk (tagV T id .mach (.slice (some ⟨b, 0, none⟩) 1 1)) W := tagV_ok (hok.keeps hk) (fun kb e => by simp [Value.ownBlock] at e; omega)
  generalize tagV T id .mach (.slice (some ⟨b, 0, none⟩) 1 1) = T1 at x1 tb1 ok1
  have n2 : NewTag T1 id .cells (.slice ad x.cells.length cap) W.heap.size := fun kb e => .inr ⟨ok1.free (by rw [hcb kb e]; exact Nat.le_refl _), by rw [hcb kb e]; exact Nat.le_refl _⟩
  have x2 := tagV_ext (w := W) n2
  obtain ⟨T2, e2⟩ : ∃ T2, T2 = tagV T1 id .cells (.slice ad x.cells.length cap) := ⟨_, rfl⟩
  have ok2 : TOk T2 w2 := by
    rw [e2]
    exact tagV_ok (ok1.keeps (hout.keeps (Keeps.refl _ _) (fun q e _ => e) : Keeps (fun q => nilV.ownBlock = some q) W w2)) (fun kb e => ownsRow_lt hout.1 e)
  rw [← e2] at x2
  have k2 : Keeps NoBlk W w2 := hout.keeps (Keeps.refl _ _) (fun q e _ => by simp [nilV, Value.ownBlock] at e)
  have k3 : Keeps (fun q => q = b) W (w2.setCell ⟨b, 3, none⟩ (.slice ad x.cells.length cap)) := Keeps.setCell (S := fun q => q = b) (k2.mono (fun _ _ e => e.elim)) (p := ⟨b, 3, none⟩) (fun _ => rfl) _
  refine ⟨T2, x1.trans (x2.later hk.size), ok2.keeps (Keeps.setCell (S := fun q => q = b) (p := ⟨b, 3, none⟩) (Keeps.refl _ _) (fun _ => rfl) _), x2.1 _ _ tb1, hb, (hr.keeps k2 (fun h => h)).set 3 (by simp) _, ?_, World.ownsRow_nil _ _ _ _, fun kb e => by simp [nilV, Value.ownBlock] at e, fun kb e => by simp [nilV, Value.ownBlock] at e, World.ownsRow_nil _ _ _ _, fun kb e => by simp [nilV, Value.ownBlock] at e, fun kb e => by simp [nilV, Value.ownBlock] at e, hk.trans k3 (fun q hq e => by omega)⟩
  refine (IRow.of (FRow.of (B := 0) hout.1 (fun _ _ => Nat.zero_le _)) (fun kb e => by rw [e2]; exact tagV_own e)).keeps (Keeps.setCell (S := fun q => q = b) (p := ⟨b, 3, none⟩) (Keeps.refl _ _) (fun _ => rfl) _) (fun k e e' => ?_)
  have e'' : k = b := e'
  rw [e'', x2.1 _ _ tb1] at e
  cases e

theorem RnI.ownStep (h : RnI w wr T T' id b x xv tv c ko kf o fv) {W w2 : World} {ad : Option Addr} {cap : Nat} (hk : Keeps NoBlk wr W)
    (hout : AppOut W 0 3 1 o (ko + 1) (ints (List.replicate ko (-1)) ++ [.int .i64 (-1)]) ad cap w2) :
    ∃ T2, RnI w (w2.setCell ⟨b, 4, none⟩ (.slice ad (ko + 1) cap)) T T2 id b x xv tv c (ko + 1) kf (.slice ad (ko + 1) cap) fv := by
  have hW := h.keeps0 hk
  have hnt2 : NewTag T' id .owners (.slice ad (ko + 1) cap) W.heap.size := fun kb e => by
    rcases hout.2.2 kb e with h1 | h1
    · exact .inl (h.otag kb h1)
    · rw [h1]; exact .inr ⟨hW.tok.free (Nat.le_refl _), Nat.le_refl _⟩
  have hx2 := tagV_ext (w := W) hnt2
  have hft : ∀ kb, (Value.slice ad (ko + 1) cap).ownBlock = some kb → tagV T' id .owners (.slice ad (ko + 1) cap) kb = some (id, .owners) := fun kb e => tagV_own e
  have k2 : Keeps (fun q => o.ownBlock = some q) W w2 := hout.keeps (Keeps.refl _ _) (fun q e _ => e)
  have k3 : Keeps (fun q => o.ownBlock = some q ∨ q = b) W (w2.setCell ⟨b, 4, none⟩ (.slice ad (ko + 1) cap)) := (k2.mono (fun _ _ e => .inl e)).setCell (p := ⟨b, 4, none⟩) (fun _ => .inr rfl) _
  have hok2 : TOk (tagV T' id .owners (.slice ad (ko + 1) cap)) w2 := tagV_ok (hW.tok.keeps k2) (fun kb e => ownsRow_lt hout.1 e)
  generalize tagV T' id .owners (.slice ad (ko + 1) cap) = T2 at hx2 hft hok2
  have hx := hx2.1
  have hb2 : T2 b = some (id, .mach) := hx _ _ h.tb
  have hS : ∀ k y, T' k = some y → y.2 ≠ .mach → y.2 ≠ .owners → ¬ (o.ownBlock = some k ∨ k = b) := fun k y e hy hy2 e' => by
    rcases e' with e' | e'
    · rw [h.otag k e'] at e; cases e; exact hy2 rfl
    · rw [e', h.tb] at e; cases e; exact hy rfl
  have hnbf : ∀ kb, (Value.slice ad (ko + 1) cap).ownBlock = some kb → kb ≠ b := fun kb e e' => by rw [e'] at e; have h1 := hft b e; rw [hb2] at h1; cases h1
  refine ⟨T2, h.ext.trans (hx2.later hW.keep.size), hok2.keeps (Keeps.setCell (S := fun q => q = b) (p := ⟨b, 4, none⟩) (Keeps.refl _ _) (fun _ => rfl) _), hb2, h.bnew, (hW.row.keeps k2 (fun e => by have h1 := h.otag b e; rw [h.tb] at h1; cases h1)).set 4 (by simp) _, (hW.cells.keeps k3 (fun k e => hS k _ e (by simp) (by simp))).ext hx, ?_, hft, fun kb e => ?_, ownsRow_keeps hW.fown k3 (fun q e => hS q _ (h.ftag q e) (by simp) (by simp)), fun kb e => hx _ _ (h.ftag kb e), h.fnew, hW.keep.trans k3 (fun q hq e => ?_)⟩
  · have e : ints (List.replicate (ko + 1) (-1)) = ints (List.replicate ko (-1)) ++ [.int .i64 (-1)] := by simp [ints, List.replicate_succ']
    rw [e]
    exact ownsRow_keeps hout.1 (Keeps.setCell (S := fun q => q = b) (p := ⟨b, 4, none⟩) (Keeps.refl _ _) (fun _ => rfl) _) (fun q e e' => hnbf q e e')
  · rcases hout.2.2 kb e with h3 | h3
    · exact h.onew kb h3
    · rw [h3]; exact hW.keep.size
  · rcases e with e | e
    · have := h.onew q e; omega
    · have := h.bnew; omega

theorem RnI.frStep (h : RnI w wr T T' id b x xv tv c ko kf o fv) {W w2 : World} {ad : Option Addr} {cap : Nat} (hk : Keeps NoBlk wr W)
    (hout : AppOut W 0 61 3 fv (kf + 1) (frCells (List.replicate kf idle0) ++ idle0.cells) ad cap w2) :
    ∃ T2, RnI w (w2.setCell ⟨b, 5, none⟩ (.slice ad (kf + 1) cap)) T T2 id b x xv tv c ko (kf + 1) o (.slice ad (kf + 1) cap) := by
  have hW := h.keeps0 hk
  have hnt2 : NewTag T' id .frames (.slice ad (kf + 1) cap) W.heap.size := fun kb e => by
    rcases hout.2.2 kb e with h1 | h1
    · exact .inl (h.ftag kb h1)
    · rw [h1]; exact .inr ⟨hW.tok.free (Nat.le_refl _), Nat.le_refl _⟩
  have hx2 := tagV_ext (w := W) hnt2
  have hft : ∀ kb, (Value.slice ad (kf + 1) cap).ownBlock = some kb → tagV T' id .frames (.slice ad (kf + 1) cap) kb = some (id, .frames) := fun kb e => tagV_own e
  have k2 : Keeps (fun q => fv.ownBlock = some q) W w2 := hout.keeps (Keeps.refl _ _) (fun q e _ => e)
  have k3 : Keeps (fun q => fv.ownBlock = some q ∨ q = b) W (w2.setCell ⟨b, 5, none⟩ (.slice ad (kf + 1) cap)) := (k2.mono (fun _ _ e => .inl e)).setCell (p := ⟨b, 5, none⟩) (fun _ => .inr rfl) _
  have hok2 : TOk (tagV T' id .frames (.slice ad (kf + 1) cap)) w2 := tagV_ok (hW.tok.keeps k2) (fun kb e => ownsRow_lt hout.1 e)
  generalize tagV T' id .frames (.slice ad (kf + 1) cap) = T2 at hx2 hft hok2
  have hx := hx2.1
  have hb2 : T2 b = some (id, .mach) := hx _ _ h.tb
  have hS : ∀ k y, T' k = some y → y.2 ≠ .mach → y.2 ≠ .frames → ¬ (fv.ownBlock = some k ∨ k = b) := fun k y e hy hy2 e' => by
    rcases e' with e' | e'
    · rw [h.ftag k e'] at e; cases e; exact hy2 rfl
    · rw [e', h.tb] at e; cases e; exact hy rfl
  have hnbf : ∀ kb, (Value.slice ad (kf + 1) cap).ownBlock = some kb → kb ≠ b := fun kb e e' => by rw [e'] at e; have h1 := hft b e; rw [hb2] at h1; cases h1
  refine ⟨T2, h.ext.trans (hx2.later hW.keep.size), hok2.keeps (Keeps.setCell (S := fun q => q = b) (p := ⟨b, 5, none⟩) (Keeps.refl _ _) (fun _ => rfl) _), hb2, h.bnew, (hW.row.keeps k2 (fun e => by have h1 := h.ftag b e; rw [h.tb] at h1; cases h1)).set 5 (by simp) _, (hW.cells.keeps k3 (fun k e => hS k _ e (by simp) (by simp))).ext hx, ownsRow_keeps hW.oown k3 (fun q e => hS q _ (h.otag q e) (by simp) (by simp)), fun kb e => hx _ _ (h.otag kb e), h.onew, ?_, hft, fun kb e => ?_, hW.keep.trans k3 (fun q hq e => ?_)⟩
  · have e : frCells (List.replicate (kf + 1) idle0) = frCells (List.replicate kf idle0) ++ idle0.cells := by simp [frCells, List.replicate_succ']
    rw [e]
    exact ownsRow_keeps hout.1 (Keeps.setCell (S := fun q => q = b) (p := ⟨b, 5, none⟩) (Keeps.refl _ _) (fun _ => rfl) _) (fun q e e' => hnbf q e e')
  · rcases hout.2.2 kb e with h3 | h3
    · exact h.fnew kb h3
    · rw [h3]; exact hW.keep.size
  · rcases e with e | e
    · have := h.fnew q e; omega
    · have := h.bnew; omega

theorem RnI.done {xs : Sl} (h : RnI w wr T T' id b x xs.v tv c x.mutexes.toNat x.threads.length o fv) (hn : 1 ≤ x.threads.length) (ht : ThrAt w T tv x.threads) : ∃ gf cf, RmAt wr T' id b gf cf x (new0 x) := by
  obtain ⟨gf, cf, rfl, _, _⟩ := h.fown.form (by omega)
  refine ⟨gf, cf, h.tb, h.tok, xs, tv, c, o, ?_, ⟨h.cells, ?_, List.replicate x.threads.length idle0, ?_⟩, (ht.keeps h.keep (fun _ _ h => h)).ext h.ext.1⟩
  · have e : (new0 x).fr.length = x.threads.length := by simp [new0]
    rw [e]
    exact h.row
  · have e : (new0 x).shade.owners = List.replicate x.mutexes.toNat (-1) := rfl
    rw [e]
    have h1 := FRow.of (B := 0) h.oown (fun _ _ => Nat.zero_le _)
    exact IRow.of (B := 0) (by rw [List.length_replicate]; exact h1) h.otag
  · refine ⟨h.ftag gf rfl, RowAt.ofOwns h.fown, by simp [new0, Mach.shade], fun i a f ha hf => ?_⟩
    have hi : i < x.threads.length := by have := (List.getElem?_eq_some_iff.1 ha).1; simpa using this
    have ea : a = idle0 := by rw [List.getElem?_replicate, if_pos hi] at ha; cases ha; rfl
    subst ea
    have hs := shade_get (m := new0 x) (i := i) (f := ⟨1, List.replicate (x.cod i).regs.toNat 0, 0⟩) (by simp [new0, hi, Img.cod, List.getD])
    rw [hs] at hf
    cases hf
    exact ⟨rfl, rfl, IRow.nil _ _ _ _⟩
end
end Go.Proofs.Ytmkfpkficmmlgaa
