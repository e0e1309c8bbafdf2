/- Layers 3, 6: how statements lie in memory, shown. -/
import Derived.Test.YtbkkpcignmcjnaaGreatDoorP06
namespace Go.Proofs.YtbkkpcignmcjnaaGreatDoor
open Go.RowKit
set_option linter.unusedVariables false
set_option linter.unusedSimpArgs false
set_option linter.unnecessarySimpa false

namespace Ac
def kind : Ac → Int | .mk k _ _ _ _ _ _ => k
def reg : Ac → Int | .mk _ r _ _ _ _ _ => r
def obj : Ac → Int | .mk _ _ o _ _ _ _ => o
def ex : Ac → Ex | .mk _ _ _ x _ _ _ => x
def count : Ac → Int | .mk _ _ _ _ c _ _ => c
def thn : Ac → List Ac | .mk _ _ _ _ _ t _ => t
def els : Ac → List Ac | .mk _ _ _ _ _ _ e => e
end Ac
namespace St
def kind : St → Int | .mk k _ _ _ _ _ _ => k
def reg : St → ByteArray | .mk _ r _ _ _ _ _ => r
def name : St → ByteArray | .mk _ _ o _ _ _ _ => o
def ex : St → Ex | .mk _ _ _ x _ _ _ => x
def count : St → Int | .mk _ _ _ _ c _ _ => c
def thn : St → List St | .mk _ _ _ _ _ t _ => t
def els : St → List St | .mk _ _ _ _ _ _ e => e
end St

theorem Ac.ind {P : Ac → Prop} (h : ∀ k r o x c t e, (∀ y, y ∈ t → P y) → (∀ y, y ∈ e → P y) → P (.mk k r o x c t e)) : (x : Ac) → P x
  | .mk k r o x c t e => h k r o x c t e (fun y hy => Ac.ind h y) (fun y hy => Ac.ind h y)
termination_by x => SizeOf.sizeOf x
decreasing_by
  all_goals (
    have := List.sizeOf_lt_of_mem hy
    simp only [Ac.mk.sizeOf_spec]
    omega)
mutual
/-- how much there is of it -/
def Ac.sz : Ac → Nat
  | .mk _ _ _ x _ t e => 1 + x.cnt + Ac.szL t + Ac.szL e
def Ac.szL : List Ac → Nat
  | [] => 0
  | x :: r => Ac.sz x + Ac.szL r
end
theorem Ac.sz_eq (x : Ac) : x.sz = 1 + x.ex.cnt + Ac.szL x.thn + Ac.szL x.els := by cases x; simp only [Ac.sz, Ac.ex, Ac.thn, Ac.els]
theorem Ac.len_le (l : List Ac) : l.length ≤ Ac.szL l := by
  induction l with
  | nil => simp
  | cons x r ih => have := Ac.sz_eq x; simp only [List.length_cons, Ac.szL]; omega
theorem Ac.sz_mem {l : List Ac} {y : Ac} (h : y ∈ l) : y.sz ≤ Ac.szL l := by
  induction l with
  | nil => cases h
  | cons x r ih =>
    simp only [Ac.szL]
    rcases List.mem_cons.1 h with e | e
    · subst e; omega
    · have := ih e; omega
/-- a slice of them -/
def AcsAt (w : World) (F : Nat → Prop) (l : List Ac) (ad : Option Addr) : Prop := ∃ css, Elems w F 10 l.length ad css ∧ ∀ i y, l[i]? = some y → AcAt w F y (css i)
theorem AcsAt.keeps {S F : Nat → Prop} {w w' : World} {l : List Ac} {ad : Option Addr} (h : AcsAt w F l ad) (hk : Keeps S w w') (hS : ∀ k, F k → ¬ S k) : AcsAt w' F l ad := by
  obtain ⟨css, h0, h1⟩ := h
  exact ⟨css, h0.keeps hk hS, fun i y e => (h1 i y e).keeps hk hS⟩
theorem AcAt.cells {w : World} {F : Nat → Prop} {x : Ac} {cs : List Value} (h : AcAt w F x cs) : ∃ xa xc ta tc ea ec, cs = [.int .i64 x.kind, .int .i64 x.reg, .int .i64 x.obj, .int .i64 x.ex.kind, .int .i64 x.ex.num, .string x.ex.nm, .slice xa x.ex.args.length xc, .int .i64 x.count, .slice ta x.thn.length tc, .slice ea x.els.length ec] ∧
    ExsAt w F x.ex.args xa ∧ AcsAt w F x.thn ta ∧ AcsAt w F x.els ea := by
  cases h with
  | mk k r o ex c t e xs ta ea tc ec tss ess hx t0 t1 e0 e1 =>
    obtain ⟨xa, xc, rfl, hxs⟩ := hx.exs
    exact ⟨xa, xc, ta, tc, ea, ec, rfl, hxs, ⟨tss, t0, t1⟩, ess, e0, e1⟩
theorem AcAt.ofCells {w : World} {F : Nat → Prop} (x : Ac) {xa ta ea : Option Addr} {xc tc ec : Nat} (hx : ExsAt w F x.ex.args xa) (ht : AcsAt w F x.thn ta) (he : AcsAt w F x.els ea) :
    AcAt w F x [.int .i64 x.kind, .int .i64 x.reg, .int .i64 x.obj, .int .i64 x.ex.kind, .int .i64 x.ex.num, .string x.ex.nm, .slice xa x.ex.args.length xc, .int .i64 x.count, .slice ta x.thn.length tc, .slice ea x.els.length ec] := by
  obtain ⟨tss, t0, t1⟩ := ht
  obtain ⟨ess, e0, e1⟩ := he
  cases x with
  | mk k r o ex c t e => exact .mk k r o ex c t e _ ta ea tc ec tss ess (ExAt.ofExs hx) t0 t1 e0 e1
theorem AcsAt.at {w : World} {F : Nat → Prop} {l : List Ac} {ad : Option Addr} (h : AcsAt w F l ad) {i : Nat} (hi : i < l.length) :
    ∃ g o xa xc ta tc ea ec, ad = some ⟨g, o, none⟩ ∧ F g ∧ w.cell? ⟨g, o + i * 10, none⟩ = some (.int .i64 l[i].kind) ∧ w.cell? ⟨g, o + i * 10 + 1, none⟩ = some (.int .i64 l[i].reg) ∧ w.cell? ⟨g, o + i * 10 + 2, none⟩ = some (.int .i64 l[i].obj) ∧
      w.cell? ⟨g, o + i * 10 + 3, none⟩ = some (.int .i64 l[i].ex.kind) ∧ w.cell? ⟨g, o + i * 10 + 4, none⟩ = some (.int .i64 l[i].ex.num) ∧ w.cell? ⟨g, o + i * 10 + 5, none⟩ = some (.string l[i].ex.nm) ∧
      w.cell? ⟨g, o + i * 10 + 6, none⟩ = some (.slice xa l[i].ex.args.length xc) ∧ w.cell? ⟨g, o + i * 10 + 7, none⟩ = some (.int .i64 l[i].count) ∧ w.cell? ⟨g, o + i * 10 + 8, none⟩ = some (.slice ta l[i].thn.length tc) ∧
      w.cell? ⟨g, o + i * 10 + 9, none⟩ = some (.slice ea l[i].els.length ec) ∧ ExsAt w F l[i].ex.args xa ∧ AcsAt w F l[i].thn ta ∧ AcsAt w F l[i].els ea := by
  obtain ⟨css, h0, h1⟩ := h
  obtain ⟨xa, xc, ta, tc, ea, ec, e, h2, h3, h4⟩ := (h1 i l[i] (List.getElem?_eq_getElem hi)).cells
  obtain ⟨g, o, e1, hg, hl, hs⟩ := h0 i hi
  rw [e] at hs
  exact ⟨g, o, xa, xc, ta, tc, ea, ec, e1, hg, hs 0 _ rfl, hs 1 _ rfl, hs 2 _ rfl, hs 3 _ rfl, hs 4 _ rfl, hs 5 _ rfl, hs 6 _ rfl, hs 7 _ rfl, hs 8 _ rfl, hs 9 _ rfl, h2, h3, h4⟩
/-- one that is handed on -/
def acV (x : Ac) (xa : Option Addr) (xc : Nat) (ta : Option Addr) (tc : Nat) (ea : Option Addr) (ec : Nat) : Value :=
  .agg #[.int .i64 x.kind, .int .i64 x.reg, .int .i64 x.obj, .int .i64 x.ex.kind, .int .i64 x.ex.num, .string x.ex.nm, .slice xa x.ex.args.length xc, .int .i64 x.count, .slice ta x.thn.length tc, .slice ea x.els.length ec]

theorem St.ind {P : St → Prop} (h : ∀ k r o x c t e, (∀ y, y ∈ t → P y) → (∀ y, y ∈ e → P y) → P (.mk k r o x c t e)) : (x : St) → P x
  | .mk k r o x c t e => h k r o x c t e (fun y hy => St.ind h y) (fun y hy => St.ind h y)
termination_by x => SizeOf.sizeOf x
decreasing_by
  all_goals (
    have := List.sizeOf_lt_of_mem hy
    simp only [St.mk.sizeOf_spec]
    omega)
mutual
/-- how much there is of it -/
def St.sz : St → Nat
  | .mk _ _ _ x _ t e => 1 + x.cnt + St.szL t + St.szL e
def St.szL : List St → Nat
  | [] => 0
  | x :: r => St.sz x + St.szL r
end
theorem St.sz_eq (x : St) : x.sz = 1 + x.ex.cnt + St.szL x.thn + St.szL x.els := by cases x; simp only [St.sz, St.ex, St.thn, St.els]
theorem St.len_le (l : List St) : l.length ≤ St.szL l := by
  induction l with
  | nil => simp
  | cons x r ih => have := St.sz_eq x; simp only [List.length_cons, St.szL]; omega
theorem St.sz_mem {l : List St} {y : St} (h : y ∈ l) : y.sz ≤ St.szL l := by
  induction l with
  | nil => cases h
  | cons x r ih =>
    simp only [St.szL]
    rcases List.mem_cons.1 h with e | e
    · subst e; omega
    · have := ih e; omega
/-- a slice of them -/
def StsAt (w : World) (F : Nat → Prop) (l : List St) (ad : Option Addr) : Prop := ∃ css, Elems w F 10 l.length ad css ∧ ∀ i y, l[i]? = some y → StAt w F y (css i)
theorem StsAt.keeps {S F : Nat → Prop} {w w' : World} {l : List St} {ad : Option Addr} (h : StsAt w F l ad) (hk : Keeps S w w') (hS : ∀ k, F k → ¬ S k) : StsAt w' F l ad := by
  obtain ⟨css, h0, h1⟩ := h
  exact ⟨css, h0.keeps hk hS, fun i y e => (h1 i y e).keeps hk hS⟩
theorem StAt.cells {w : World} {F : Nat → Prop} {x : St} {cs : List Value} (h : StAt w F x cs) : ∃ xa xc ta tc ea ec, cs = [.int .i64 x.kind, .string x.reg, .string x.name, .int .i64 x.ex.kind, .int .i64 x.ex.num, .string x.ex.nm, .slice xa x.ex.args.length xc, .int .i64 x.count, .slice ta x.thn.length tc, .slice ea x.els.length ec] ∧
    ExsAt w F x.ex.args xa ∧ StsAt w F x.thn ta ∧ StsAt w F x.els ea := by
  cases h with
  | mk k r o ex c t e xs ta ea tc ec tss ess hx t0 t1 e0 e1 =>
    obtain ⟨xa, xc, rfl, hxs⟩ := hx.exs
    exact ⟨xa, xc, ta, tc, ea, ec, rfl, hxs, ⟨tss, t0, t1⟩, ess, e0, e1⟩
theorem StAt.ofCells {w : World} {F : Nat → Prop} (x : St) {xa ta ea : Option Addr} {xc tc ec : Nat} (hx : ExsAt w F x.ex.args xa) (ht : StsAt w F x.thn ta) (he : StsAt w F x.els ea) :
    StAt w F x [.int .i64 x.kind, .string x.reg, .string x.name, .int .i64 x.ex.kind, .int .i64 x.ex.num, .string x.ex.nm, .slice xa x.ex.args.length xc, .int .i64 x.count, .slice ta x.thn.length tc, .slice ea x.els.length ec] := by
  obtain ⟨tss, t0, t1⟩ := ht
  obtain ⟨ess, e0, e1⟩ := he
  cases x with
  | mk k r o ex c t e => exact .mk k r o ex c t e _ ta ea tc ec tss ess (ExAt.ofExs hx) t0 t1 e0 e1
theorem StsAt.at {w : World} {F : Nat → Prop} {l : List St} {ad : Option Addr} (h : StsAt w F l ad) {i : Nat} (hi : i < l.length) :
    ∃ g o xa xc ta tc ea ec, ad = some ⟨g, o, none⟩ ∧ F g ∧ w.cell? ⟨g, o + i * 10, none⟩ = some (.int .i64 l[i].kind) ∧ w.cell? ⟨g, o + i * 10 + 1, none⟩ = some (.string l[i].reg) ∧ w.cell? ⟨g, o + i * 10 + 2, none⟩ = some (.string l[i].name) ∧
      w.cell? ⟨g, o + i * 10 + 3, none⟩ = some (.int .i64 l[i].ex.kind) ∧ w.cell? ⟨g, o + i * 10 + 4, none⟩ = some (.int .i64 l[i].ex.num) ∧ w.cell? ⟨g, o + i * 10 + 5, none⟩ = some (.string l[i].ex.nm) ∧
      w.cell? ⟨g, o + i * 10 + 6, none⟩ = some (.slice xa l[i].ex.args.length xc) ∧ w.cell? ⟨g, o + i * 10 + 7, none⟩ = some (.int .i64 l[i].count) ∧ w.cell? ⟨g, o + i * 10 + 8, none⟩ = some (.slice ta l[i].thn.length tc) ∧
      w.cell? ⟨g, o + i * 10 + 9, none⟩ = some (.slice ea l[i].els.length ec) ∧ ExsAt w F l[i].ex.args xa ∧ StsAt w F l[i].thn ta ∧ StsAt w F l[i].els ea := by
  obtain ⟨css, h0, h1⟩ := h
  obtain ⟨xa, xc, ta, tc, ea, ec, e, h2, h3, h4⟩ := (h1 i l[i] (List.getElem?_eq_getElem hi)).cells
  obtain ⟨g, o, e1, hg, hl, hs⟩ := h0 i hi
  rw [e] at hs
  exact ⟨g, o, xa, xc, ta, tc, ea, ec, e1, hg, hs 0 _ rfl, hs 1 _ rfl, hs 2 _ rfl, hs 3 _ rfl, hs 4 _ rfl, hs 5 _ rfl, hs 6 _ rfl, hs 7 _ rfl, hs 8 _ rfl, hs 9 _ rfl, h2, h3, h4⟩
/-- one that is handed on -/
def stV (x : St) (xa : Option Addr) (xc : Nat) (ta : Option Addr) (tc : Nat) (ea : Option Addr) (ec : Nat) : Value :=
  .agg #[.int .i64 x.kind, .string x.reg, .string x.name, .int .i64 x.ex.kind, .int .i64 x.ex.num, .string x.ex.nm, .slice xa x.ex.args.length xc, .int .i64 x.count, .slice ta x.thn.length tc, .slice ea x.els.length ec]
end Go.Proofs.YtbkkpcignmcjnaaGreatDoor

/- Trees that are appended, one after another, to a row of one's own. -/
namespace Go.Proofs.YtbkkpcignmcjnaaGreatDoor
open Go.RowKit
set_option linter.unusedVariables false
set_option linter.unusedSimpArgs false
set_option linter.unnecessarySimpa false

theorem ownsRow_lt {w : World} {base e size n : Nat} {v : Value} {xs : List Value} (h : w.ownsRow base e size v n xs) {kb : Nat} (hv : v.ownBlock = some kb) : kb < w.heap.size := by
  rcases h.2 with ⟨rfl, _⟩ | ⟨g, cap, cur, rfl, _, hg, _⟩
  · simp [Value.ownBlock] at hv
  · simp [Value.ownBlock] at hv
    subst hv
    exact lt_of_block hg
/-- how a tree lies: what it asks of the world -/
abbrev Lies (α : Type) := World → (Nat → Prop) → α → List Value → Prop
structure LiesOk {α : Type} (R : Lies α) (sz : Nat) : Prop where
  keeps : ∀ {S F : Nat → Prop} {w w' : World} {x : α} {cs : List Value}, R w F x cs → Keeps S w w' → (∀ k, F k → ¬ S k) → R w' F x cs
  mono : ∀ {F F' : Nat → Prop} {w : World} {x : α} {cs : List Value}, R w F x cs → (∀ k, F k → F' k) → R w F' x cs
  len : ∀ {F : Nat → Prop} {w : World} {x : α} {cs : List Value}, R w F x cs → cs.length = sz
/-- what is new since a world of so many blocks, and what was of G -/
def NewIn (G : Nat → Prop) (B : Nat) (w : World) (v : Value) (k : Nat) : Prop := G k ∨ (B ≤ k ∧ k < w.heap.size ∧ v.ownBlock ≠ some k)
/-- a row that grows, and what lies in it -/
def Acc {α : Type} (R : Lies α) (G : Nat → Prop) (B sz : Nat) (ty : TypeId) (w : World) (v : Value) (xs : List α) (css : List (List Value)) : Prop :=
  css.length = xs.length ∧ w.ownsRow 0 ty sz v xs.length css.flatten ∧ (∀ kb, v.ownBlock = some kb → B ≤ kb) ∧ (∃ ad cap, v = .slice ad xs.length cap) ∧ ∀ (i : Nat) (x : α) (cs : List Value), xs[i]? = some x → css[i]? = some cs → R w (NewIn G B w v) x cs
section
variable {α : Type} {R : Lies α} {G : Nat → Prop} {B sz : Nat} {ty : TypeId} {w w' : World} {v : Value} {xs : List α} {css : List (List Value)}
theorem Acc.nil (w : World) : Acc R G B sz ty w (.slice none 0 0) [] [] :=
  ⟨rfl, World.ownsRow_nil _ _ _ _, fun kb e => by simp [Value.ownBlock] at e, ⟨none, 0, rfl⟩, fun i x cs e => by simp at e⟩
theorem Acc.keeps (L : LiesOk R sz) (h : Acc R G B sz ty w v xs css) {S : Nat → Prop} (hk : Keeps S w w') (hS : ∀ k, S k → k < B ∧ ¬ G k) : Acc R G B sz ty w' v xs css := by
  obtain ⟨h1, h2, h3, h4, h5⟩ := h
  refine ⟨h1, ownsRow_keeps h2 hk (fun k e hs => ?_), h3, h4, fun i x cs e1 e2 => ?_⟩
  · have := h3 k e; have := (hS k hs).1; omega
  · refine L.mono (L.keeps (h5 i x cs e1 e2) hk (fun k hf hs => ?_)) (fun k hf => ?_)
    · rcases hf with hf | ⟨hf, _, _⟩
      · exact (hS k hs).2 hf
      · have := (hS k hs).1; omega
    · rcases hf with hf | ⟨hf, h6, h7⟩
      · exact .inl hf
      · exact .inr ⟨hf, Nat.lt_of_lt_of_le h6 hk.size, h7⟩
theorem Acc.keeps0 (L : LiesOk R sz) (h : Acc R G B sz ty w v xs css) (hk : Keeps NoBlk w w') : Acc R G B sz ty w' v xs css := h.keeps L hk (fun k h => h.elim)
/-- one more -/
theorem Acc.push (L : LiesOk R sz) (h : Acc R G B sz ty w v xs css) (hG : ∀ k, G k → k < B) (hB : B ≤ w.heap.size) {x : α} {cs : List Value} {ad : Option Addr} {cap : Nat} (hx : R w (NewIn G B w v) x cs) (hsz : 0 < sz)
    (ha : AppOut w 0 ty sz v (xs.length + 1) (css.flatten ++ cs) ad cap w') : Acc R G B sz ty w' (.slice ad (xs.length + 1) cap) (xs ++ [x]) (css ++ [cs]) := by
  obtain ⟨h1, h2, h3, h4, h5⟩ := h
  obtain ⟨a1, a2, a3⟩ := ha
  have hk : Keeps (fun q => v.ownBlock = some q) w w' := AppOut.keeps ⟨a1, a2, a3⟩ (Keeps.refl _ _) (fun q e _ => e)
  have hnew : ∀ kb, (Value.slice ad (xs.length + 1) cap).ownBlock = some kb → v.ownBlock = some kb ∨ kb = w.heap.size := a3
  have key : ∀ y ds, R w (NewIn G B w v) y ds → R w' (NewIn G B w' (.slice ad (xs.length + 1) cap)) y ds := fun y ds hy => by
    refine L.mono (L.keeps hy hk (fun k hf hs => ?_)) (fun k hf => ?_)
    · rcases hf with hf | ⟨_, _, h7⟩
      · have := h3 k hs; have := hG k hf; omega
      · exact h7 hs
    · rcases hf with hf | ⟨hf, h6, h7⟩
      · exact .inl hf
      · refine .inr ⟨hf, Nat.lt_of_lt_of_le h6 hk.size, fun e => ?_⟩
        rcases hnew k e with h8 | h8
        · exact h7 h8
        · omega
  refine ⟨by simp [h1], ?_, fun kb e => ?_, ⟨ad, cap, by simp⟩, fun i y ds e1 e2 => ?_⟩
  · have e : (css ++ [cs]).flatten = css.flatten ++ cs := by simp
    rw [e, List.length_append, List.length_singleton]
    exact a1
  · rcases hnew kb e with h8 | h8
    · exact h3 kb h8
    · omega
  · rcases Nat.lt_or_ge i xs.length with hi | hi
    · rw [List.getElem?_append_left hi] at e1
      rw [List.getElem?_append_left (by omega)] at e2
      exact key y ds (h5 i y ds e1 e2)
    · have hi2 : i = xs.length := by
        have := (List.getElem?_eq_some_iff.1 e1).1
        simp at this
        omega
      subst hi2
      have e1' : x = y := by rw [List.getElem?_append_right (Nat.le_refl _), Nat.sub_self] at e1; simpa using e1
      have e2' : cs = ds := by rw [List.getElem?_append_right (by omega)] at e2; simpa [h1] using e2
      subst e1' e2'
      exact key x cs hx
/-- at the end: the elements, each where it lies -/
theorem Acc.elems (L : LiesOk R sz) (h : Acc R G B sz ty w v xs css) {ad : Option Addr} {n cap : Nat} (hv : v = .slice ad n cap) :
    Elems w (fun k => G k ∨ (B ≤ k ∧ k < w.heap.size)) sz xs.length ad (fun i => css.getD i []) ∧ ∀ (i : Nat) (x : α), xs[i]? = some x → R w (fun k => G k ∨ (B ≤ k ∧ k < w.heap.size)) x (css.getD i []) := by
  obtain ⟨h1, h2, h3, h4, h5⟩ := h
  have hc : ∀ i, i < xs.length → css[i]? = some (css.getD i []) := fun i hi => by
    rw [List.getElem?_eq_getElem (by omega)]
    simp [List.getD, show i < css.length by omega]
  have hR : ∀ (i : Nat) (x : α), xs[i]? = some x → R w (NewIn G B w v) x (css.getD i []) := fun i x e => h5 i x _ e (hc i (List.getElem?_eq_some_iff.1 e).1)
  refine ⟨fun i hi => ?_, fun i x e => L.mono (hR i x e) (fun k hf => ?_)⟩
  · rcases h2.2 with ⟨_, hn⟩ | ⟨g, cap', cur, hv', hr⟩
    · omega
    · have hv2 : v = .slice (some ⟨g, 0, none⟩) xs.length cap' := hv'
      rw [hv] at hv2
      obtain ⟨rfl, _, _⟩ : ad = some ⟨g, 0, none⟩ ∧ n = xs.length ∧ cap = cap' := by simpa using hv2
      have hlen : (css.getD i []).length = sz := L.len (hR i xs[i] (List.getElem?_eq_getElem hi))
      have hall : ∀ ds, ds ∈ css → ds.length = sz := fun ds hds => by
        obtain ⟨j, hj, e⟩ := List.mem_iff_getElem.1 hds
        have hj2 : j < xs.length := by omega
        have := L.len (h5 j xs[j] ds (List.getElem?_eq_getElem hj2) (by rw [List.getElem?_eq_getElem hj, e]))
        exact this
      have hg : g < w.heap.size := ownsRow_lt h2 (by rw [hv']; rfl)
      refine ⟨g, 0, rfl, .inr ⟨h3 g (by rw [hv']; rfl), hg⟩, hlen, fun j u hj => ?_⟩
      rw [hv'] at h2
      have hr := RowAt.ofOwns h2
      have hj2 : j < sz := by rw [← hlen]; exact (List.getElem?_eq_some_iff.1 hj).1
      rw [Nat.zero_add]
      refine hr.cell ?_
      have hfm : css.flatten = css.flatMap id := by simp [List.flatMap_id]
      have key : ∀ (l : List (List Value)) (i j : Nat), (∀ ds, ds ∈ l → ds.length = sz) → j < sz → l.flatten[i * sz + j]? = (l[i]?).bind fun ds => ds[j]? := by
        intro l
        induction l with
        | nil => intro i j _ _; simp
        | cons x r ih =>
          intro i j hl hj
          rw [List.flatten_cons]
          have hx := hl x (List.mem_cons_self ..)
          cases i with
          | zero => rw [Nat.zero_mul, Nat.zero_add, List.getElem?_append_left (by omega)]; simp
          | succ i =>
            have e : (i + 1) * sz + j = x.length + (i * sz + j) := by rw [hx, Nat.add_mul]; omega
            rw [e, List.getElem?_append_right (by omega), Nat.add_sub_cancel_left, ih i j (fun ds h => hl ds (List.mem_cons_of_mem _ h)) hj]
            simp
      rw [key css i j hall hj2, hc i hi]
      exact hj
  · rcases hf with hf | ⟨hf, h6, _⟩
    · exact .inl hf
    · exact .inr ⟨hf, h6⟩
end
theorem exOk : LiesOk ExAt 4 := ⟨fun h => h.keeps, fun h => h.mono, fun h => h.len⟩
theorem stOk : LiesOk StAt 10 := ⟨fun h => h.keeps, fun h => h.mono, fun h => h.len⟩
/-- what the operations of a region leave: these values, or what Sp says -/
def TabV (L : List (Option Value)) (Sp : Nat → Value → World → Prop) (j : Nat) (v : Value) (W : World) : Prop :=
  match L[j]? with
  | some (some u) => v = u
  | _ => Sp j v W
theorem TabV.st {L : List (Option Value)} {Sp : Nat → Value → World → Prop} (hs : ∀ j v W W', Sp j v W → Keeps NoBlk W W' → Sp j v W') (j : Nat) (v : Value) (W W' : World) (h : TabV L Sp j v W) (hk : Keeps NoBlk W W') : TabV L Sp j v W' := by
  unfold TabV at *
  split at h
  · exact h
  · exact hs _ _ _ _ h hk
theorem take_at {α : Type} {l : List α} {i : Nat} (h : i < l.length) : l.take (i + 1) = l.take i ++ [l[i]] := by rw [List.take_add_one, List.getElem?_eq_getElem h]; rfl
end Go.Proofs.YtbkkpcignmcjnaaGreatDoor
