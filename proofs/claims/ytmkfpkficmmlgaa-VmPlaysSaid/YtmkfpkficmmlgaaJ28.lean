/- asm: Right: the law's side, and how an image is read. -/
import Derived.Test.YtmkfpkficmmlgaaJ27
namespace Go.Proofs.Ytmkfpkficmmlgaa
open Go.RowKit
set_option linter.unusedVariables false
set_option linter.unusedSimpArgs false
set_option linter.unnecessarySimpa false

/-- threads of an image that can be read -/
def ThrR (w : World) (v : Value) (cs : List Cod) : Prop :=
  ∃ ad cap, v = .slice ad cs.length cap ∧ ∀ i, i < cs.length → ∃ g o u, ad = some ⟨g, o, none⟩ ∧ w.cell? ⟨g, o + i * 2, none⟩ = some (.int .i64 (cs.getD i ⟨0, []⟩).regs) ∧ w.cell? ⟨g, o + i * 2 + 1, none⟩ = some u ∧ SrcAt w u (cs.getD i ⟨0, []⟩).ins.length (insCells (cs.getD i ⟨0, []⟩).ins)
theorem ThrR.keeps0 {w w' : World} {v : Value} {l : List Cod} (h : ThrR w v l) (hk : Keeps NoBlk w w') : ThrR w' v l := by
  obtain ⟨ad, cap, e, h1⟩ := h
  refine ⟨ad, cap, e, fun i hi => ?_⟩
  obtain ⟨g, o, u, e1, c0, c1, h3⟩ := h1 i hi
  exact ⟨g, o, u, e1, hk.cell (p := ⟨g, _, none⟩) (fun h => h) c0, hk.cell (p := ⟨g, _, none⟩) (fun h => h) c1, h3.keeps0 hk⟩
theorem ThrAt.read {w : World} {T : Tags} {v : Value} {l : List Cod} (h : ThrAt w T v l) : ThrR w v l := by
  obtain ⟨ad, cap, e, h1⟩ := h
  refine ⟨ad, cap, e, fun i hi => ?_⟩
  obtain ⟨g, o, u, e1, _, c0, c1, h3⟩ := h1 i hi
  exact ⟨g, o, u, e1, c0, c1, h3.src⟩
/-- an image that can be read -/
structure ImgR (w : World) (cv tv : Value) (x : Img) : Prop where
  cells : SrcAt w cv x.cells.length (ints x.cells)
  thr : ThrR w tv x.threads
def imgV (cv tv : Value) (x : Img) : Value := .agg #[cv, .int .i64 x.mutexes, tv]
theorem ImgR.keeps0 {w w' : World} {cv tv : Value} {x : Img} (h : ImgR w cv tv x) (hk : Keeps NoBlk w w') : ImgR w' cv tv x := ⟨h.cells.keeps0 hk, h.thr.keeps0 hk⟩

theorem right_true {x : Img} (h1 : 1 ≤ x.threads.length) (h2 : x.threads.length ≤ 8) (h3 : x.cells.length ≤ 8) (h4 : 0 ≤ x.mutexes) (h5 : x.mutexes ≤ 8) (h6 : ∀ j, j < x.cells.length → numN' (x.cells.getD j 0) = true) (h7 : ∀ i, i < x.threads.length → codN x (x.cod i) = true) : rightN x = true := by
  have a : x.cells.all numN' = true := by
    rw [List.all_eq_true]
    intro c hc
    obtain ⟨j, hj, e⟩ := List.mem_iff_getElem.1 hc
    have := h6 j hj
    rw [← e]
    simpa [List.getD, hj] using this
  have b : x.threads.all (codN x) = true := by
    rw [List.all_eq_true]
    intro c hc
    obtain ⟨j, hj, e⟩ := List.mem_iff_getElem.1 hc
    have := h7 j hj
    rw [← e]
    simpa [Img.cod, List.getD, hj] using this
  simp [rightN, h1, h2, h3, h4, h5, a, b]
theorem right_false {x : Img} (h : ¬ (1 ≤ x.threads.length ∧ x.threads.length ≤ 8 ∧ x.cells.length ≤ 8 ∧ 0 ≤ x.mutexes ∧ x.mutexes ≤ 8)) : rightN x = false := by
  cases e : rightN x with
  | false => rfl
  | true => have hp := right_parts e; exact absurd ⟨hp.1.1, hp.1.2, hp.2.1, hp.2.2.1⟩ h
theorem right_cell {x : Img} {j : Nat} (hj : j < x.cells.length) (h : numN' (x.cells.getD j 0) = false) : rightN x = false := by
  cases e : rightN x with
  | false => rfl
  | true =>
    have hp := (right_parts e).2.2.2.1 (x.cells[j]) (List.getElem_mem hj)
    simp [List.getD, hj] at h
    rw [hp] at h; cases h
theorem right_thr {x : Img} {i : Nat} (hi : i < x.threads.length) (h : codN x (x.cod i) = false) : rightN x = false := by
  cases e : rightN x with
  | false => rfl
  | true => rw [right_cod e hi] at h; cases h
theorem cod_true {x : Img} {c : Cod} (h1 : 0 ≤ c.regs) (h2 : c.regs ≤ 64) (h3 : 1 ≤ c.ins.length) (h4 : c.ins.length ≤ 4000) (h5 : lastOp c = 29 ∨ lastOp c = 18) (h6 : ∀ j, j < c.ins.length → insN x c (c.at j) = true) : codN x c = true := by
  have a : c.ins.all (insN x c) = true := by
    rw [List.all_eq_true]
    intro n hn
    obtain ⟨j, hj, e⟩ := List.mem_iff_getElem.1 hn
    have := h6 j hj
    rw [← e]
    simpa [Cod.at, List.getD, hj] using this
  simp [codN, h1, h2, h3, h4, h5, a]
theorem cod_false {x : Img} {c : Cod} (h : ¬ (0 ≤ c.regs ∧ c.regs ≤ 64 ∧ 1 ≤ c.ins.length ∧ c.ins.length ≤ 4000 ∧ (lastOp c = 29 ∨ lastOp c = 18))) : codN x c = false := by
  cases e : codN x c with
  | false => rfl
  | true => have hp := codN_parts e; exact absurd ⟨hp.1.1, hp.1.2, hp.2.1.1, hp.2.1.2, hp.2.2.1⟩ h
theorem cod_ins {x : Img} {c : Cod} {j : Nat} (hj : j < c.ins.length) (h : insN x c (c.at j) = false) : codN x c = false := by
  cases e : codN x c with
  | false => rfl
  | true => rw [(codN_parts e).2.2.2 _ (c.at_mem j hj)] at h; cases h
/-- the instructions, one by one -/
theorem SrcAt.inss {w : World} {v : Value} {l : List Ins} (h : SrcAt w v l.length (insCells l)) : ∃ ad cap, v = .slice ad l.length cap ∧ ∀ k, k < l.length → ∃ g o, ad = some ⟨g, o, none⟩ ∧ w.cell? ⟨g, o + k * 4, none⟩ = some (.int .i64 (l.getD k Ins.zero).op) ∧ w.cell? ⟨g, o + k * 4 + 1, none⟩ = some (.int .i64 (l.getD k Ins.zero).a) ∧ w.cell? ⟨g, o + k * 4 + 2, none⟩ = some (.int .i64 (l.getD k Ins.zero).b) ∧ w.cell? ⟨g, o + k * 4 + 3, none⟩ = some (.int .i64 (l.getD k Ins.zero).c) := by
  obtain ⟨ad, cap, e, h1⟩ := h
  refine ⟨ad, cap, e, fun k hk => ?_⟩
  obtain ⟨g, o, e1, h2⟩ := h1 (by omega)
  have key : ∀ r, r < 4 → w.cell? ⟨g, o + k * 4 + r, none⟩ = (insC (l.getD k Ins.zero))[r]? := fun r hr => by
    have e1 : (insCells l)[k * 4 + r]? = (insC (l.getD k Ins.zero))[r]? := by
      unfold insCells
      rw [get_cells insC 4 (fun _ => rfl) l k r hr, List.getElem?_eq_getElem hk]
      simp [List.getD, hk]
    have e2 : (insC (l.getD k Ins.zero))[r]? = some ((insC (l.getD k Ins.zero))[r]'(by show r < 4; exact hr)) := List.getElem?_eq_getElem _
    rw [e2] at e1 ⊢
    rw [Nat.add_assoc]
    exact h2 _ _ e1
  exact ⟨g, o, e1, key 0 (by decide), key 1 (by decide), key 2 (by decide), key 3 (by decide)⟩
end Go.Proofs.Ytmkfpkficmmlgaa
