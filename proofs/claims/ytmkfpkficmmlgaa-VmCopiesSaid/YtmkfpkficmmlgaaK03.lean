/- How a machine of layer 11 lies in memory. -/
import Derived.Test.YtmkfpkficmmlgaaK02
namespace Go.Proofs.Ytmkfpkficmmlgaa
open Go.RowKit
set_option linter.unusedVariables false
set_option linter.unusedSimpArgs false
set_option linter.unnecessarySimpa false

/-- what a block of a machine is -/
inductive Tg where
  | mach | cells | owners | frames | code
  | regs (i : Nat)
deriving DecidableEq
/-- which block is which machine's, and what of it -/
abbrev Tags := Nat → Option (Nat × Tg)
def Own (T : Tags) (id : Nat) (k : Nat) : Prop := ∃ t, T k = some (id, t) ∧ t ≠ .code
/-- a block of code, which nobody writes -/
def Cd (T : Tags) (k : Nat) : Prop := ∃ id, T k = some (id, .code)
def TOk (T : Tags) (w : World) : Prop := ∀ k x, T k = some x → k < w.heap.size
def ints (xs : List Int) : List Value := xs.map (Value.int .i64)
theorem ints_len (xs : List Int) : (ints xs).length = xs.length := by simp [ints]
theorem ints_get (xs : List Int) (k : Nat) (hk : k < xs.length) : (ints xs)[k]? = some (.int .i64 (xs.getD k 0)) := by simp [ints, List.getD, hk]
theorem ints_set (xs : List Int) (k : Nat) (u : Int) : (ints xs).set k (.int .i64 u) = ints (xs.set k u) := by simp [ints, List.map_set]

/-- an owned slice of ints -/
def IRow (w : World) (T : Tags) (id : Nat) (t : Tg) (v : Value) (xs : List Int) : Prop :=
  ∃ ad cap, v = .slice ad xs.length cap ∧ (xs ≠ [] → ∃ g, ad = some ⟨g, 0, none⟩ ∧ T g = some (id, t) ∧ RowAt w g (ints xs))
theorem IRow.keeps {S : Nat → Prop} {w w' : World} {T : Tags} {id : Nat} {t : Tg} {v : Value} {xs : List Int} (h : IRow w T id t v xs) (hk : Keeps S w w') (hS : ∀ k, T k = some (id, t) → ¬ S k) : IRow w' T id t v xs := by
  obtain ⟨ad, cap, e, h1⟩ := h
  refine ⟨ad, cap, e, fun hn => ?_⟩
  obtain ⟨g, e1, e2, e3⟩ := h1 hn
  exact ⟨g, e1, e2, e3.keeps hk (hS g e2)⟩
theorem IRow.other {w : World} {T : Tags} {id : Nat} {t : Tg} {v : Value} {xs : List Int} (h : IRow w T id t v xs) {p : Addr} (hp : T p.block ≠ some (id, t)) (u : Value) : IRow (w.setCell p u) T id t v xs := by
  obtain ⟨ad, cap, e, h1⟩ := h
  refine ⟨ad, cap, e, fun hn => ?_⟩
  obtain ⟨g, e1, e2, e3⟩ := h1 hn
  exact ⟨g, e1, e2, e3.other (fun e => hp (by rw [e]; exact e2)) u⟩
/-- where its cells lie -/
theorem IRow.at {w : World} {T : Tags} {id : Nat} {t : Tg} {v : Value} {xs : List Int} (h : IRow w T id t v xs) {k : Nat} (hk : k < xs.length) :
    ∃ g cap, v = .slice (some ⟨g, 0, none⟩) xs.length cap ∧ T g = some (id, t) ∧ RowAt w g (ints xs) := by
  obtain ⟨ad, cap, e, h1⟩ := h
  obtain ⟨g, e1, e2, e3⟩ := h1 (fun e => by rw [e] at hk; simp at hk)
  subst e1
  exact ⟨g, cap, e, e2, e3⟩
theorem IRow.set {w : World} {T : Tags} {id : Nat} {t : Tg} {g cap : Nat} {xs : List Int} (hT : T g = some (id, t)) (h : RowAt w g (ints xs)) (k : Nat) (hk : k < xs.length) (u : Int) :
    IRow (w.setCell ⟨g, k, none⟩ (.int .i64 u)) T id t (.slice (some ⟨g, 0, none⟩) xs.length cap) (xs.set k u) := by
  have := h.set k (by rw [ints_len]; exact hk) (.int .i64 u)
  rw [ints_set] at this
  exact ⟨_, cap, by rw [List.length_set], fun _ => ⟨g, rfl, hT, this⟩⟩

/-- a frame's cells -/
structure HFr where
  st : Int
  rv : Value
  at_ : Int
def HFr.cells (h : HFr) : List Value := [.int .i64 h.st, h.rv, .int .i64 h.at_]
theorem hfr_len (h : HFr) : h.cells.length = 3 := rfl
def frCells (H : List HFr) : List Value := H.flatMap HFr.cells

/-- the frames of a machine -/
structure FrG (w : World) (T : Tags) (id g : Nat) (H : List HFr) (fr : List Fr) : Prop where
  tag : T g = some (id, .frames)
  row : RowAt w g (frCells H)
  len : H.length = fr.length
  each : ∀ i h f, H[i]? = some h → fr[i]? = some f → h.st = f.st ∧ h.at_ = f.at_ ∧ IRow w T id (.regs i) h.rv f.regs
namespace FrG
variable {w : World} {T : Tags} {id g : Nat} {H : List HFr} {fr : List Fr}
theorem keeps {S : Nat → Prop} {w' : World} (h : FrG w T id g H fr) (hk : Keeps S w w') (hS : ∀ k, Own T id k → ¬ S k) : FrG w' T id g H fr :=
  ⟨h.tag, h.row.keeps hk (hS g ⟨_, h.tag, by simp⟩), h.len, fun i a f h1 h2 => ⟨(h.each i a f h1 h2).1, (h.each i a f h1 h2).2.1, (h.each i a f h1 h2).2.2.keeps hk (fun k e => hS k ⟨_, e, by simp⟩)⟩⟩
theorem alloc (h : FrG w T id g H fr) (o : Obj) : FrG (w.alloc o) T id g H fr := h.keeps (S := NoBlk) ((Keeps.refl _ _).alloc o) (fun _ _ h => h)
theorem drewN (h : FrG w T id g H fr) (n : Nat) : FrG (w.drewN n) T id g H fr := h.keeps (S := NoBlk) ((Keeps.refl _ _).drewN n) (fun _ _ h => h)
theorem get (h : FrG w T id g H fr) {i : Nat} {f : Fr} (hf : fr[i]? = some f) : ∃ rv, H[i]? = some ⟨f.st, rv, f.at_⟩ ∧ IRow w T id (.regs i) rv f.regs := by
  have hi : i < fr.length := (List.getElem?_eq_some_iff.1 hf).1
  have hi' : i < H.length := by rw [h.len]; exact hi
  have hH : H[i]? = some H[i] := List.getElem?_eq_getElem hi'
  obtain ⟨e1, e2, e3⟩ := h.each i _ f hH hf
  refine ⟨H[i].rv, ?_, e3⟩
  rw [hH, ← e1, ← e2]
theorem cell (h : FrG w T id g H fr) {i : Nat} {a : HFr} (ha : H[i]? = some a) (j : Nat) (hj : j < 3) : w.cell? ⟨g, i * 3 + j, none⟩ = a.cells[j]? := by
  have : (frCells H)[i * 3 + j]? = a.cells[j]? := by
    show (H.flatMap HFr.cells)[i * 3 + j]? = _
    rw [get_cells _ 3 hfr_len H i j hj, ha]; rfl
  have hs : a.cells[j]? = some (a.cells[j]'(by rw [hfr_len]; exact hj)) := List.getElem?_eq_getElem _
  rw [hs] at this ⊢
  exact h.row.cell this
theorem free (h : FrG w T id g H fr) {i : Nat} (hi : i < fr.length) (j : Nat) (hj : j < 3) : w.frozen? ⟨g, i * 3 + j, none⟩ = false :=
  h.row.free (by unfold frCells; rw [length_cells _ 3 hfr_len, h.len]; omega)
theorem three (h : FrG w T id g H fr) {i : Nat} {f : Fr} {rv : Value} (ha : H[i]? = some ⟨f.st, rv, f.at_⟩) :
    w.cell? ⟨g, i * 3, none⟩ = some (.int .i64 f.st) ∧ w.cell? ⟨g, i * 3 + 1, none⟩ = some rv ∧ w.cell? ⟨g, i * 3 + 2, none⟩ = some (.int .i64 f.at_) :=
  ⟨h.cell ha 0 (by decide), h.cell ha 1 (by decide), h.cell ha 2 (by decide)⟩
/-- a cell of a frame is written -/
theorem setF (h : FrG w T id g H fr) {i j : Nat} {a a' : HFr} {f f' : Fr} (ha : H[i]? = some a) (hf : fr[i]? = some f) (hj : j < 3) (u : Value) (hc : a'.cells = a.cells.set j u)
    (h1 : a'.st = f'.st) (h2 : a'.at_ = f'.at_) (h3 : a'.rv = a.rv) (h4 : f'.regs = f.regs) : FrG (w.setCell ⟨g, i * 3 + j, none⟩ u) T id g (H.set i a') (fr.set i f') := by
  refine ⟨h.tag, ?_, by simp [h.len], fun k b b2 hb hb2 => ?_⟩
  · have := h.row.set (i * 3 + j) (by unfold frCells; rw [length_cells _ 3 hfr_len]; have := (List.getElem?_eq_some_iff.1 ha).1; omega) u
    have e : (frCells H).set (i * 3 + j) u = frCells (H.set i a') := set_cells _ 3 hfr_len H i j hj u a a' ha hc
    rw [e] at this
    exact this
  · by_cases e : i = k
    · subst e
      rw [List.getElem?_set_self (List.getElem?_eq_some_iff.1 ha).1] at hb
      rw [List.getElem?_set_self (List.getElem?_eq_some_iff.1 hf).1] at hb2
      cases hb; cases hb2
      have h5 := (h.each i a f ha hf).2.2
      rw [h3, h4]
      exact ⟨h1, h2, h5.other (by rw [h.tag]; simp) u⟩
    · rw [List.getElem?_set_ne e] at hb hb2
      obtain ⟨e1, e2, e3⟩ := h.each k b b2 hb hb2
      exact ⟨e1, e2, e3.other (by rw [h.tag]; simp) u⟩
theorem setAt (h : FrG w T id g H fr) {i : Nat} {f : Fr} {rv : Value} (ha : H[i]? = some ⟨f.st, rv, f.at_⟩) (hf : fr[i]? = some f) (k : Nat) :
    FrG (w.setCell ⟨g, i * 3 + 2, none⟩ (.int .i64 k)) T id g (H.set i ⟨f.st, rv, k⟩) (fr.set i { f with at_ := k }) := h.setF ha hf (by decide) _ rfl rfl rfl rfl rfl
theorem setSt (h : FrG w T id g H fr) {i : Nat} {f : Fr} {rv : Value} (ha : H[i]? = some ⟨f.st, rv, f.at_⟩) (hf : fr[i]? = some f) (s : Int) :
    FrG (w.setCell ⟨g, i * 3, none⟩ (.int .i64 s)) T id g (H.set i ⟨s, rv, f.at_⟩) (fr.set i { f with st := s }) := h.setF (j := 0) ha hf (by decide) _ rfl rfl rfl rfl rfl
/-- a register is written -/
theorem setReg (h : FrG w T id g H fr) {i : Nat} {f : Fr} {gr cap : Nat} (ha : H[i]? = some ⟨f.st, .slice (some ⟨gr, 0, none⟩) f.regs.length cap, f.at_⟩) (hf : fr[i]? = some f) (hT : T gr = some (id, .regs i)) (k : Nat) (hk : k < f.regs.length) (u : Int) :
    FrG (w.setCell ⟨gr, k, none⟩ (.int .i64 u)) T id g H (fr.set i { f with regs := f.regs.set k u }) := by
  refine ⟨h.tag, h.row.other (fun e => by rw [show gr = g from e] at hT; rw [h.tag] at hT; simp at hT) _, by simp [h.len], fun m b b2 hb hb2 => ?_⟩
  by_cases e : i = m
  · subst e
    rw [List.getElem?_set_self (List.getElem?_eq_some_iff.1 hf).1] at hb2
    rw [ha] at hb
    cases hb; cases hb2
    have h5 := (h.each i _ f ha hf).2.2
    obtain ⟨g', cap', e1, e2, e3⟩ := h5.at hk
    simp at e1
    obtain ⟨rfl, rfl⟩ := e1
    exact ⟨rfl, rfl, IRow.set e2 e3 k hk u⟩
  · rw [List.getElem?_set_ne e] at hb2
    obtain ⟨e1, e2, e3⟩ := h.each m b b2 hb hb2
    exact ⟨e1, e2, e3.other (by rw [hT]; simpa using e) _⟩
end FrG

/-- a code in memory, read alone: no machine owns its blocks -/
def InsAt (w : World) (T : Tags) (v : Value) (l : List Ins) : Prop :=
  ∃ ad cap, v = .slice ad l.length cap ∧ ∀ k, k < l.length → ∃ g o, ad = some ⟨g, o, none⟩ ∧ Cd T g ∧ w.cell? ⟨g, o + k * 4, none⟩ = some (.int .i64 (l.getD k Ins.zero).op) ∧ w.cell? ⟨g, o + k * 4 + 1, none⟩ = some (.int .i64 (l.getD k Ins.zero).a) ∧ w.cell? ⟨g, o + k * 4 + 2, none⟩ = some (.int .i64 (l.getD k Ins.zero).b) ∧ w.cell? ⟨g, o + k * 4 + 3, none⟩ = some (.int .i64 (l.getD k Ins.zero).c)
theorem InsAt.keeps {S : Nat → Prop} {w w' : World} {T : Tags} {v : Value} {l : List Ins} (h : InsAt w T v l) (hk : Keeps S w w') (hS : ∀ k, Cd T k → ¬ S k) : InsAt w' T v l := by
  obtain ⟨ad, cap, e, h1⟩ := h
  refine ⟨ad, cap, e, fun k hk' => ?_⟩
  obtain ⟨g, o, e1, e2, c0, c1, c2, c3⟩ := h1 k hk'
  have hg := hS g e2
  exact ⟨g, o, e1, e2, hk.cell (p := ⟨g, _, none⟩) hg c0, hk.cell (p := ⟨g, _, none⟩) hg c1, hk.cell (p := ⟨g, _, none⟩) hg c2, hk.cell (p := ⟨g, _, none⟩) hg c3⟩
/-- the machine's rows of code -/
def CodeAt (w : World) (T : Tags) (v : Value) (cs : List Cod) : Prop :=
  ∃ g cap, v = .slice (some ⟨g, 0, none⟩) cs.length cap ∧ Cd T g ∧ ∀ i, i < cs.length → ∃ u, w.cell? ⟨g, i, none⟩ = some u ∧ InsAt w T u (cs.getD i ⟨0, []⟩).ins
theorem CodeAt.keeps {S : Nat → Prop} {w w' : World} {T : Tags} {v : Value} {l : List Cod} (h : CodeAt w T v l) (hk : Keeps S w w') (hS : ∀ k, Cd T k → ¬ S k) : CodeAt w' T v l := by
  obtain ⟨g, cap, e, e2, h1⟩ := h
  refine ⟨g, cap, e, e2, fun i hi => ?_⟩
  obtain ⟨u, c, h3⟩ := h1 i hi
  exact ⟨u, hk.cell (p := ⟨g, i, none⟩) (hS g e2) c, h3.keeps hk hS⟩

/-- cells, owners, frames of a machine -/
structure CoreAt (w : World) (T : Tags) (id : Nat) (cv ov : Value) (gf : Nat) (m : Mach) : Prop where
  cells : IRow w T id .cells cv m.cells
  owners : IRow w T id .owners ov m.owners
  frames : ∃ H, FrG w T id gf H m.fr
/-- a machine of package vm -/
structure VmAt (w : World) (T : Tags) (id b gf cf : Nat) (x : Img) (m : Mach) : Prop where
  tag : T b = some (id, .mach)
  ok : TOk T w
  ex : ∃ cv ov dv, RowAt w b [cv, ov, dv, .slice (some ⟨gf, 0, none⟩) m.fr.length cf] ∧ CoreAt w T id cv ov gf m ∧ CodeAt w T dv x.threads
theorem CoreAt.keeps {S : Nat → Prop} {w w' : World} {T : Tags} {id gf : Nat} {cv ov : Value} {m : Mach} (h : CoreAt w T id cv ov gf m) (hk : Keeps S w w') (hS : ∀ k, Own T id k → ¬ S k) : CoreAt w' T id cv ov gf m := by
  obtain ⟨H, hF⟩ := h.frames
  exact ⟨h.cells.keeps hk (fun k e => hS k ⟨_, e, by simp⟩), h.owners.keeps hk (fun k e => hS k ⟨_, e, by simp⟩), H, hF.keeps hk hS⟩
theorem VmAt.keeps {S : Nat → Prop} {w w' : World} {T : Tags} {id b gf cf : Nat} {x : Img} {m : Mach} (h : VmAt w T id b gf cf x m) (hk : Keeps S w w') (hS : ∀ k, Cd T k ∨ Own T id k → ¬ S k) : VmAt w' T id b gf cf x m := by
  obtain ⟨cv, ov, dv, h1, h2, h3⟩ := h.ex
  exact ⟨h.tag, fun k y e => Nat.lt_of_lt_of_le (h.ok k y e) hk.size, cv, ov, dv, h1.keeps hk (hS b (.inr ⟨_, h.tag, by simp⟩)), h2.keeps hk (fun k e => hS k (.inr e)), h3.keeps hk (fun k e => hS k (.inl e))⟩
end Go.Proofs.Ytmkfpkficmmlgaa
