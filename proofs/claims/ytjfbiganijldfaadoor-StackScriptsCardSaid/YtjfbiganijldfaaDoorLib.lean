/- Small laws of my own: a world that keeps all blocks but some; rows of structs. -/
import Derived.Test.YtjfbiganijldfaaDoorRows
import Derived.WalkKit
import Derived.WalkSpells
import Derived.WalkLawsBesides
import Derived.Lib.Hide
import Derived.Deep.QuietTactic
import Derived.BigQuiet
import Derived.Deep.RegionWith
import Derived.Deep.RegionHeld3
import Derived.Deep.AppendLies
import Derived.Deep.RegionLaw
import Derived.Deep.Cut
namespace Go.Proofs.YtjfbiganijldfaaDoor
open Go.RowKit
set_option linter.unusedVariables false
set_option linter.unusedSimpArgs false
set_option linter.unnecessarySimpa false

/-- Of the blocks that were there only those of S may have changed. -/
structure Keeps (S : Nat → Prop) (w w' : World) : Prop where
  os : w'.os = w.os
  tape : w'.tape = w.tape
  output : w'.output = w.output
  size : w.heap.size ≤ w'.heap.size
  block : ∀ k, k < w.heap.size → ¬ S k → w'.heap[k]? = w.heap[k]?

namespace Keeps
variable {S S' : Nat → Prop} {w w' w'' : World}
theorem refl (S : Nat → Prop) (w : World) : Keeps S w w := ⟨rfl, rfl, rfl, Nat.le_refl _, fun _ _ _ => rfl⟩
theorem trans (h : Keeps S w w') (k : Keeps S' w' w'') (hs : ∀ k, k < w.heap.size → S' k → S k) : Keeps S w w'' :=
  ⟨k.os.trans h.os, k.tape.trans h.tape, k.output.trans h.output, Nat.le_trans h.size k.size,
   fun i hi hn => (k.block i (Nat.lt_of_lt_of_le hi h.size) (fun h' => hn (hs i hi h'))).trans (h.block i hi hn)⟩
theorem mono (h : Keeps S' w w') (hs : ∀ k, k < w.heap.size → S' k → S k) : Keeps S w w' :=
  ⟨h.os, h.tape, h.output, h.size, fun i hi hn => h.block i hi (fun h' => hn (hs i hi h'))⟩
theorem drewN (h : Keeps S w w') (n : Nat) : Keeps S w (w'.drewN n) := ⟨h.os, h.tape, h.output, h.size, h.block⟩
theorem drew (h : Keeps S w w') : Keeps S w w'.drew := ⟨h.os, h.tape, h.output, h.size, h.block⟩
theorem alloc (h : Keeps S w w') (o : Obj) : Keeps S w (w'.alloc o) :=
  h.trans (S' := fun _ => False) ⟨rfl, rfl, rfl, by simp, fun k hk _ => Below.heap_alloc _ _ _ hk⟩ (fun _ _ h => h.elim)
theorem setCell (h : Keeps S w w') {p : Addr} (hp : p.block < w.heap.size → S p.block) (u : Value) : Keeps S w (w'.setCell p u) :=
  h.trans (S' := fun k => k = p.block) ⟨rfl, rfl, rfl, by simp [World.setCell], fun k _ hn => Below.heap_setCell _ _ _ _ hn⟩ (fun k hk e => by subst e; exact hp hk)
theorem grown (h : Keeps S w w') {row : Option Nat} (hg : w'.grownBy w'' row) (hr : ∀ k, row = some k → k < w.heap.size → S k) : Keeps S w w'' :=
  h.trans (S' := fun k => row = some k) ⟨hg.os, hg.tape, hg.output, hg.size, fun k hk hn => hg.block k hk (fun e => hn e.symm)⟩ (fun k hk e => hr k e hk)
theorem cell (h : Keeps S w w') {p : Addr} {v : Value} (hp : ¬ S p.block) (hc : w.cell? p = some v) : w'.cell? p = some v :=
  (World.cell?_of_block (h.block p.block (World.block_lt_of_cell? w p hc) hp)).trans hc
theorem heap (h : Keeps S w w') {k : Nat} {o : Obj} (hp : ¬ S k) (hc : w.heap[k]? = some o) : w'.heap[k]? = some o :=
  (h.block k (lt_of_block hc) hp).trans hc
theorem below (h : Keeps S w w') {B : Nat} (hs : ∀ k, k < w.heap.size → S k → B ≤ k) (hB : B ≤ w.heap.size) : Below B w w' :=
  ⟨h.os, h.tape, h.output, h.size, fun k hk => h.block k (by omega) (fun h' => by have := hs k (by omega) h'; omega)⟩
theorem ofBelow (h : Below w.heap.size w w') (S : Nat → Prop) : Keeps S w w' := ⟨h.os, h.tape, h.output, h.size, fun k hk _ => h.block k hk⟩
end Keeps

theorem heap_alloc2 (W : World) (o1 o2 : Obj) : ((W.alloc o1).alloc o2).heap[W.heap.size + 1]? = some o2 := by
  have h := heap_alloc_new (W.alloc o1) o2
  have e : (W.alloc o1).heap.size = W.heap.size + 1 := by simp
  rw [e] at h
  exact h

theorem bcell {W w1 : World} (hb : Below W.heap.size W w1) : (∀ b o, b < W.heap.size → w1.cell? ⟨b, o, none⟩ = W.cell? ⟨b, o, none⟩) ∧ (∀ b o, b < W.heap.size → w1.frozen? ⟨b, o, none⟩ = W.frozen? ⟨b, o, none⟩) :=
  ⟨fun b o h => hb.cell (p := ⟨b, o, none⟩) h, fun b o h => hb.frozen (p := ⟨b, o, none⟩) h⟩

/-- no block at all -/
def NoBlk : Nat → Prop := fun _ => False

/-- An owned row, its block not among those that may have changed. -/
theorem ownsRow_keeps {S : Nat → Prop} {w w' : World} {base e size n : Nat} {v : Value} {xs : List Value} (h : w.ownsRow base e size v n xs) (hk : Keeps S w w') (hn : ∀ k, v.ownBlock = some k → ¬ S k) : w'.ownsRow base e size v n xs := by
  obtain ⟨h1, h2⟩ := h
  refine ⟨h1, ?_⟩
  rcases h2 with h2 | ⟨g, cap, cur, hv, hg, hh, r⟩
  · exact Or.inl h2
  · exact Or.inr ⟨g, cap, cur, hv, hg, hk.heap (hn g (by rw [hv]; rfl)) hh, r⟩

theorem ownsRow_drewN {w : World} {base e size n : Nat} {v : Value} {xs : List Value} (h : w.ownsRow base e size v n xs) (k : Nat) : (w.drewN k).ownsRow base e size v n xs := h

/-- what a row's elements lie as: k cells each -/
theorem length_cells {α : Type} (f : α → List Value) (k : Nat) (hf : ∀ x, (f x).length = k) (L : List α) : (L.flatMap f).length = L.length * k := by
  induction L with
  | nil => simp
  | cons x L ih => simp only [List.flatMap_cons, List.length_append, hf, ih, List.length_cons]; rw [Nat.add_mul]; omega

theorem get_cells {α : Type} (f : α → List Value) (k : Nat) (hf : ∀ x, (f x).length = k) (L : List α) (i j : Nat) (hj : j < k) : (L.flatMap f)[i * k + j]? = (L[i]?).bind fun x => (f x)[j]? := by
  induction L generalizing i with
  | nil => simp
  | cons x L ih =>
    rw [List.flatMap_cons]
    cases i with
    | zero => rw [Nat.zero_mul, Nat.zero_add, List.getElem?_append_left (by rw [hf]; exact hj)]; simp
    | succ i =>
      have e : (i + 1) * k + j = (f x).length + (i * k + j) := by rw [hf, Nat.add_mul]; omega
      rw [e, List.getElem?_append_right (by omega), Nat.add_sub_cancel_left, ih]
      simp

theorem set_cells {α : Type} (f : α → List Value) (k : Nat) (hf : ∀ x, (f x).length = k) (L : List α) (i j : Nat) (hj : j < k) (u : Value) (x y : α) (hx : L[i]? = some x) (hy : f y = (f x).set j u) :
    (L.flatMap f).set (i * k + j) u = (L.set i y).flatMap f := by
  induction L generalizing i with
  | nil => simp at hx
  | cons z L ih =>
    rw [List.flatMap_cons]
    cases i with
    | zero =>
      simp only [List.getElem?_cons_zero, Option.some.injEq] at hx
      subst hx
      rw [Nat.zero_mul, Nat.zero_add, List.set_append_left _ _ (by rw [hf]; exact hj), List.set_cons_zero, List.flatMap_cons, hy]
    | succ i =>
      have e : (i + 1) * k + j = (f z).length + (i * k + j) := by rw [hf, Nat.add_mul]; omega
      rw [e, List.set_append_right _ _ (by omega), Nat.add_sub_cancel_left, List.set_cons_succ, List.flatMap_cons, ih i (by simpa using hx)]

/-- A slice of ints reads as this list. -/
def IntsAt (w : World) (v : Value) (xs : List Int) : Prop :=
  ∃ ad cap, v = .slice ad xs.length cap ∧ (ad = none → xs = []) ∧ ∀ g o s, ad = some ⟨g, o, s⟩ → s = none ∧ ∀ i, i < xs.length → w.cell? ⟨g, o + i, none⟩ = some (.int .i64 (xs.getD i 0))

theorem IntsAt.keeps {S : Nat → Prop} {w w' : World} {v : Value} {xs : List Int} (h : IntsAt w v xs) (hk : Keeps S w w') (hn : ∀ k, v.ownBlock = some k → ¬ S k) : IntsAt w' v xs := by
  obtain ⟨ad, cap, rfl, h1, h2⟩ := h
  refine ⟨ad, cap, rfl, h1, fun g o s e => ⟨(h2 g o s e).1, fun i hi => ?_⟩⟩
  exact hk.cell (hn g (by rw [e]; rfl)) ((h2 g o s e).2 i hi)

theorem IntsAt.len {w : World} {v : Value} {xs : List Int} (h : IntsAt w v xs) : ∃ ad cap, v = .slice ad xs.length cap := by
  obtain ⟨ad, cap, e, _⟩ := h
  exact ⟨ad, cap, e⟩

theorem getD_ints (xs : List Int) (i : Nat) (hi : i < xs.length) : (xs.map (Value.int .i64))[i]? = some (.int .i64 (xs.getD i 0)) := by
  rw [List.getElem?_map, List.getElem?_eq_getElem hi]; simp [List.getD, hi]

/-- an owned row of ints reads so -/
theorem IntsAt.ofRow {w : World} {e : TypeId} {base : Nat} {v : Value} {xs : List Int} (h : w.ownsRow base e 1 v xs.length (xs.map (Value.int .i64))) : IntsAt w v xs := by
  rcases h.2 with ⟨hv, hn⟩ | ⟨g, cap, cur, hv, hg, hh, r⟩
  · exact ⟨none, 0, by rw [hv, hn], fun _ => List.eq_nil_of_length_eq_zero hn, fun g o s e => by cases e⟩
  · refine ⟨_, cap, hv, fun e => by (cases e), fun g' o s e => ?_⟩
    cases e
    refine ⟨rfl, fun i hi => ?_⟩
    rw [Nat.zero_add]
    subst hv
    rw [h.cellAt i (by omega)]
    exact getD_ints xs i hi

theorem take_cells {α : Type} (f : α → List Value) (k : Nat) (hf : ∀ x, (f x).length = k) (L : List α) (n : Nat) : (L.flatMap f).take (n * k) = (L.take n).flatMap f := by
  induction L generalizing n with
  | nil => simp
  | cons z L ih =>
    cases n with
    | zero => simp
    | succ n =>
      rw [List.flatMap_cons, List.take_succ_cons, List.flatMap_cons, List.take_append, hf, List.take_of_length_le (by rw [hf, Nat.add_mul]; omega)]
      congr 1
      rw [show (n + 1) * k - k = n * k by rw [Nat.add_mul]; omega]
      exact ih n
end Go.Proofs.YtjfbiganijldfaaDoor
