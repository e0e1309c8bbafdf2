/- Layer 7: a statement more, a thread more: rows joined, and what is counted. -/
import Derived.Test.YtbkkpcignmcjnaaGreatDoorP48
import Derived.Test.YtbkkpcignmcjnaaGreatDoorP50
import Derived.Test.YtbkkpcignmcjnaaGreatDoorP49
import Derived.Great.BuildSlice
import Derived.Great.Walk
import Derived.Deep.WholeRow
namespace Go.Proofs.YtbkkpcignmcjnaaGreatDoor
open Go.RowKit
set_option linter.unusedVariables false
set_option linter.unusedSimpArgs false
set_option linter.unnecessarySimpa false

theorem AcAt.mono {F F' : Nat → Prop} {w : World} {x : Ac} {cs : List Value} (h : AcAt w F x cs) (hF : ∀ k, F k → F' k) : AcAt w F' x cs := by
  induction h with
  | mk k reg obj ex count t e xs ta ea tc ec tss ess hx t0 _ e0 _ ih1 ih2 => exact .mk k reg obj ex count t e xs ta ea tc ec tss ess (hx.mono hF) (t0.mono hF) ih1 (e0.mono hF) ih2
theorem AcsAt.mono {F F' : Nat → Prop} {w : World} {l : List Ac} {ad : Option Addr} (h : AcsAt w F l ad) (hF : ∀ k, F k → F' k) : AcsAt w F' l ad := by
  obtain ⟨css, h0, h1⟩ := h
  exact ⟨css, h0.mono hF, fun i y e => (h1 i y e).mono hF⟩
theorem acOk : LiesOk AcAt 10 := ⟨fun h => h.keeps, fun h => h.mono, fun h => h.len⟩
theorem NumsAt.mono {F F' : Nat → Prop} {w : World} {cs : List Int} {ad : Option Addr} (h : NumsAt w F cs ad) (hF : ∀ k, F k → F' k) : NumsAt w F' cs ad := by
  intro i hi
  obtain ⟨g, o, e, hg, c0⟩ := h i hi
  exact ⟨g, o, e, hF g hg, c0⟩
theorem flat_at {α : Type} {sz : Nat} : ∀ (l : List (List α)) (i j : Nat), (∀ ds, ds ∈ l → ds.length = sz) → j < sz → l.flatten[i * sz + j]? = (l[i]?).bind fun ds => ds[j]? := by
  intro l
  induction l with
  | nil => intro i j _ _; simp
  | cons x r ih =>
    intro i j hl hj
    rw [List.flatten_cons]
    have hx := hl x (List.mem_cons_self ..)
    cases i with
    | zero => rw [Nat.zero_mul, Nat.zero_add, List.getElem?_append_left (by omega)]; simp
    | succ i =>
      have e : (i + 1) * sz + j = x.length + (i * sz + j) := by rw [hx, Nat.add_mul]; omega
      rw [e, List.getElem?_append_right (by omega), Nat.add_sub_cancel_left, ih i j (fun ds h => hl ds (List.mem_cons_of_mem _ h)) hj]
      simp
theorem flat_len {α : Type} {sz : Nat} : ∀ (l : List (List α)), (∀ ds, ds ∈ l → ds.length = sz) → l.flatten.length = l.length * sz
  | [], _ => by simp
  | x :: r, h => by
    rw [List.flatten_cons, List.length_append, h x List.mem_cons_self, flat_len r (fun ds hd => h ds (List.mem_cons_of_mem _ hd)), List.length_cons, Nat.add_mul]; omega
/-- many more -/
theorem Acc.pushL {α : Type} {R : Lies α} {G : Nat → Prop} {B sz : Nat} {ty : TypeId} {w w' : World} {v : Value} {xs ys : List α} {css dss : List (List Value)} (L : LiesOk R sz) (h : Acc R G B sz ty w v xs css) (hG : ∀ k, G k → k < B) (hB : B ≤ w.heap.size) {ad : Option Addr} {cap : Nat} (hl : dss.length = ys.length)
    (hy : ∀ (i : Nat) (y : α) (ds : List Value), ys[i]? = some y → dss[i]? = some ds → R w (NewIn G B w v) y ds) (hsz : 0 < sz)
    (ha : AppOut w 0 ty sz v (xs.length + ys.length) (css.flatten ++ dss.flatten) ad cap w') : Acc R G B sz ty w' (.slice ad (xs.length + ys.length) cap) (xs ++ ys) (css ++ dss) := by
  obtain ⟨h1, h2, h3, h4, h5⟩ := h
  obtain ⟨a1, a2, a3⟩ := ha
  have hk : Keeps (fun q => v.ownBlock = some q) w w' := AppOut.keeps ⟨a1, a2, a3⟩ (Keeps.refl _ _) (fun q e _ => e)
  have hnew : ∀ kb, (Value.slice ad (xs.length + ys.length) cap).ownBlock = some kb → v.ownBlock = some kb ∨ kb = w.heap.size := a3
  have key : ∀ y ds, R w (NewIn G B w v) y ds → R w' (NewIn G B w' (.slice ad (xs.length + ys.length) cap)) y ds := fun y ds hy => by
    refine L.mono (L.keeps hy hk (fun k hf hs => ?_)) (fun k hf => ?_)
    · rcases hf with hf | ⟨_, _, h7⟩
      · have := h3 k hs; have := hG k hf; omega
      · exact h7 hs
    · rcases hf with hf | ⟨hf, h6, h7⟩
      · exact .inl hf
      · refine .inr ⟨hf, Nat.lt_of_lt_of_le h6 hk.size, fun e => ?_⟩
        rcases hnew k e with h8 | h8
        · exact h7 h8
        · omega
  refine ⟨by simp [h1, hl], ?_, fun kb e => ?_, ⟨ad, cap, by simp⟩, fun i y ds e1 e2 => ?_⟩
  · have e : (css ++ dss).flatten = css.flatten ++ dss.flatten := by simp
    rw [e, List.length_append]
    exact a1
  · rcases hnew kb e with h8 | h8
    · exact h3 kb h8
    · omega
  · rcases Nat.lt_or_ge i xs.length with hi | hi
    · rw [List.getElem?_append_left hi] at e1
      rw [List.getElem?_append_left (by omega)] at e2
      exact key y ds (h5 i y ds e1 e2)
    · rw [List.getElem?_append_right hi] at e1
      rw [List.getElem?_append_right (by omega), h1] at e2
      exact key y ds (hy _ y ds e1 e2)
/-- a part of a slice of statements, as append reads it -/
theorem AcsAt.part {w : World} {F : Nat → Prop} {l : List Ac} {ad : Option Addr} (h : AcsAt w F l ad) (i m c : Nat) (him : i + m ≤ l.length) {sa : Option Addr} (hsa : ∀ g o, m ≠ 0 → ad = some ⟨g, o, none⟩ → sa = some ⟨g, o + i * 10, none⟩) :
    ∃ dss : List (List Value), dss.length = m ∧ dss.flatten.length = m * 10 ∧ SrcAt w (.slice sa m c) m dss.flatten ∧ (∀ u ∈ dss.flatten, u.oneCell' = true) ∧ ∀ (q : Nat) (y : Ac) (ds : List Value), (l.drop i |>.take m)[q]? = some y → dss[q]? = some ds → AcAt w F y ds := by
  obtain ⟨css, h0, h1⟩ := h
  have hget : ∀ q, q < m → (((List.range m).map fun q => css (i + q)) : List (List Value))[q]? = some (css (i + q)) := fun q hq => by simp [hq]
  have hat : ∀ q, q < m → AcAt w F l[i + q]! (css (i + q)) := fun q hq => by
    have hlt : i + q < l.length := by omega
    have := h1 (i + q) l[i + q] (List.getElem?_eq_getElem hlt)
    rwa [getElem!_pos l (i + q) hlt]
  have hlen : ∀ ds, ds ∈ (List.range m).map (fun q => css (i + q)) → ds.length = 10 := fun ds hds => by
    obtain ⟨q, hq, rfl⟩ := List.mem_map.1 hds
    exact (hat q (List.mem_range.1 hq)).len
  refine ⟨(List.range m).map fun q => css (i + q), by simp, by rw [flat_len _ hlen]; simp, ⟨sa, c, rfl, fun hm => ?_⟩, fun u hu => ?_, fun q y ds e1 e2 => ?_⟩
  · obtain ⟨g, o, e, hg, _, _⟩ := h0 i (by omega)
    refine ⟨g, o + i * 10, hsa g o hm e, fun j u hj => ?_⟩
    have hj2 : j / 10 * 10 + j % 10 = j := by omega
    rw [← hj2, flat_at _ _ _ hlen (Nat.mod_lt _ (by decide))] at hj
    by_cases hq : j / 10 < m
    · rw [hget _ hq] at hj
      obtain ⟨g', o', e', _, _, hc⟩ := h0 (i + j / 10) (by omega)
      rw [e] at e'
      cases e'
      have := hc (j % 10) u (by simpa using hj)
      rw [show o + i * 10 + j = o + ((i + j / 10) * 10 + j % 10) by omega]
      exact this
    · rw [List.getElem?_eq_none (by simp; omega)] at hj
      cases hj
  · obtain ⟨ds, hds, hu2⟩ := List.mem_flatten.1 hu
    obtain ⟨q, hq, rfl⟩ := List.mem_map.1 hds
    obtain ⟨xa, xc, ta, tc, ea, ec, e, _⟩ := (hat q (List.mem_range.1 hq)).cells
    rw [e] at hu2
    simp only [List.mem_cons, List.not_mem_nil, or_false] at hu2
    rcases hu2 with rfl | rfl | rfl | rfl | rfl | rfl | rfl | rfl | rfl | rfl <;> rfl
  · have hq : q < m := by
      have := (List.getElem?_eq_some_iff.1 e2).1
      simpa using this
    rw [hget q hq] at e2
    cases e2
    rw [List.getElem?_take, if_pos hq, List.getElem?_drop] at e1
    exact h1 (i + q) y e1
/-! ### Threads -/
def thC (p : Int × Value) : List Value := [.int .i64 p.1, p.2]
/-- the threads' cells say so -/
def ThAt (w : World) (F : Nat → Prop) (bs : List Bd) (L : List (Int × Value)) : Prop :=
  L.length = bs.length ∧ ∀ (i : Nat) (b : Bd), bs[i]? = some b → ∃ ba bc, L[i]? = some (b.regs, .slice ba b.acts.length bc) ∧ AcsAt w F b.acts ba
theorem ThAt.keeps {S F : Nat → Prop} {w w' : World} {bs : List Bd} {L : List (Int × Value)} (h : ThAt w F bs L) (hk : Keeps S w w') (hS : ∀ k, F k → ¬ S k) : ThAt w' F bs L :=
  ⟨h.1, fun i b e => by obtain ⟨ba, bc, e1, h1⟩ := h.2 i b e; exact ⟨ba, bc, e1, h1.keeps hk hS⟩⟩
theorem ThAt.mono {F F' : Nat → Prop} {w : World} {bs : List Bd} {L : List (Int × Value)} (h : ThAt w F bs L) (hF : ∀ k, F k → F' k) : ThAt w F' bs L :=
  ⟨h.1, fun i b e => by obtain ⟨ba, bc, e1, h1⟩ := h.2 i b e; exact ⟨ba, bc, e1, h1.mono hF⟩⟩
theorem ThAt.set {w : World} {F : Nat → Prop} {bs : List Bd} {L : List (Int × Value)} (h : ThAt w F bs L) (t : Nat) {r : Int} {a : List Ac} {sa : Option Addr} {sc : Nat} (ha : AcsAt w F a sa) : ThAt w F (bs.set t ⟨r, a⟩) (L.set t (r, .slice sa a.length sc)) := by
  refine ⟨by simp [h.1], fun i b e => ?_⟩
  rw [List.getElem?_set] at e
  split at e
  · rename_i he
    subst he
    split at e
    · rename_i hlt
      cases e
      exact ⟨sa, sc, by rw [List.getElem?_set_self (by rw [h.1]; exact hlt)], ha⟩
    · cases e
  · rename_i he
    obtain ⟨ba, bc, e1, h1⟩ := h.2 i b e
    exact ⟨ba, bc, by rw [List.getElem?_set_ne he]; exact e1, h1⟩
theorem ThAt.push {w : World} {F : Nat → Prop} {bs : List Bd} {L : List (Int × Value)} (h : ThAt w F bs L) : ThAt w F (bs ++ [⟨0, []⟩]) (L ++ [(0, .slice none 0 0)]) := by
  refine ⟨by simp [h.1], fun i b e => ?_⟩
  rcases Nat.lt_or_ge i bs.length with hi | hi
  · rw [List.getElem?_append_left hi] at e
    obtain ⟨ba, bc, e1, h1⟩ := h.2 i b e
    exact ⟨ba, bc, by rw [List.getElem?_append_left (by rw [h.1]; exact hi)]; exact e1, h1⟩
  · rw [List.getElem?_append_right hi] at e
    have hi2 : i - bs.length = 0 := by
      have := (List.getElem?_eq_some_iff.1 e).1
      simpa using this
    rw [hi2] at e
    simp only [List.getElem?_cons_zero, Option.some.injEq] at e
    subst e
    refine ⟨none, 0, ?_, AcsAt.empty _ _ _⟩
    rw [List.getElem?_append_right (by rw [h.1]; exact hi), h.1, hi2]
    rfl
theorem thC_len (p : Int × Value) : (thC p).length = 2 := rfl
theorem ThAt.bds {w : World} {F : Nat → Prop} {bs : List Bd} {L : List (Int × Value)} {g : Nat} (h : ThAt w F bs L) (hr : RowAt w g (L.flatMap thC)) (hg : F g) : BdsAt w F bs (some ⟨g, 0, none⟩) := by
  intro i hi
  obtain ⟨ba, bc, e1, h1⟩ := h.2 i bs[i] (List.getElem?_eq_getElem hi)
  refine ⟨g, 0, ba, bc, rfl, hg, ?_, ?_, h1⟩
  · rw [Nat.zero_add]
    refine hr.cell ?_
    have := get_cells thC 2 thC_len L i 0 (by decide)
    rw [Nat.add_zero, e1] at this
    exact this
  · rw [Nat.zero_add]
    refine hr.cell ?_
    have := get_cells thC 2 thC_len L i 1 (by decide)
    rw [e1] at this
    exact this
/-- the threads that came in -/
theorem BdsCap.th {w : World} {F : Nat → Prop} {bs : List Bd} {ad : Option Addr} (h : BdsCap w F bs ad) (c : Nat) :
    ∃ L, ThAt w F bs L ∧ SrcAt w (.slice ad bs.length c) bs.length (L.flatMap thC) ∧ (∀ u ∈ L.flatMap thC, u.oneCell' = true) ∧
      ∀ t, t < bs.length → ∃ g o ba bc, ad = some ⟨g, o, none⟩ ∧ F g ∧ L[t]? = some (bs[t]!.regs, .slice ba bs[t]!.acts.length bc) ∧ w.cell? ⟨g, o + t * 2 + 1, none⟩ = some (.slice ba bs[t]!.acts.length bc) ∧ AcsAt w F bs[t]!.acts ba ∧ bs[t]!.acts.length ≤ bc := by
  have key : ∀ i, i < bs.length → ∃ p : Int × Value, ∃ g o ba bc, p = (bs[i]!.regs, .slice ba bs[i]!.acts.length bc) ∧ ad = some ⟨g, o, none⟩ ∧ F g ∧ w.cell? ⟨g, o + i * 2, none⟩ = some (.int .i64 bs[i]!.regs) ∧ w.cell? ⟨g, o + i * 2 + 1, none⟩ = some (.slice ba bs[i]!.acts.length bc) ∧ AcsAt w F bs[i]!.acts ba ∧ bs[i]!.acts.length ≤ bc := fun i hi => by
    obtain ⟨g, o, ba, bc, h1, h2, h3, h4, h5, h6⟩ := h i hi
    rw [getElem!_pos bs i hi]
    exact ⟨_, g, o, ba, bc, rfl, h1, h2, h3, h4, h5, h6⟩
  obtain ⟨P, hP⟩ := Deep.choose_lt (α := Int × Value) key
  have hget : ∀ i, i < bs.length → ((List.range bs.length).map P)[i]? = some (P i) := fun i hi => by simp [hi]
  refine ⟨(List.range bs.length).map P, ⟨by simp, fun i b e => ?_⟩, ⟨ad, c, rfl, fun hn => ?_⟩, fun u hu => ?_, fun t ht => ?_⟩
  · have hi : i < bs.length := (List.getElem?_eq_some_iff.1 e).1
    obtain ⟨g, o, ba, bc, h0, h1, h2, h3, h4, h5, h6⟩ := hP i hi
    have eb : bs[i]! = b := by rw [getElem!_pos bs i hi]; exact (List.getElem?_eq_some_iff.1 e).2
    rw [eb] at h0 h5
    exact ⟨ba, bc, by rw [hget i hi, h0], h5⟩
  · obtain ⟨g, o, ba, bc, _, h1, _⟩ := hP 0 (by omega)
    refine ⟨g, o, h1, fun j u hj => ?_⟩
    have hj2 : j / 2 * 2 + j % 2 = j := by omega
    rw [← hj2, get_cells thC 2 thC_len _ _ _ (Nat.mod_lt _ (by decide))] at hj
    by_cases hq : j / 2 < bs.length
    · rw [hget _ hq] at hj
      obtain ⟨g', o', ba, bc, h0, h1', h2, h3, h4, h5, h6⟩ := hP (j / 2) hq
      rw [h1] at h1'
      cases h1'
      rw [h0] at hj
      have hm : j % 2 = 0 ∨ j % 2 = 1 := by omega
      rcases hm with hm | hm
      · rw [hm] at hj
        have : u = .int .i64 bs[j / 2]!.regs := by simpa [thC] using hj.symm
        rw [this, show o + j = o + j / 2 * 2 by omega]
        exact h3
      · rw [hm] at hj
        have : u = .slice ba bs[j / 2]!.acts.length bc := by simpa [thC] using hj.symm
        rw [this, show o + j = o + j / 2 * 2 + 1 by omega]
        exact h4
    · rw [List.getElem?_eq_none (by simp; omega)] at hj
      cases hj
  · obtain ⟨p, hp, hu2⟩ := List.mem_flatMap.1 hu
    obtain ⟨i, hi, rfl⟩ := List.mem_map.1 hp
    obtain ⟨g, o, ba, bc, h0, _⟩ := hP i (List.mem_range.1 hi)
    rw [h0] at hu2
    simp only [thC, List.mem_cons, List.not_mem_nil, or_false] at hu2
    rcases hu2 with rfl | rfl <;> rfl
  · obtain ⟨g, o, ba, bc, h0, h1, h2, h3, h4, h5, h6⟩ := hP t ht
    exact ⟨g, o, ba, bc, h1, h2, by rw [hget t ht, h0], h4, h5, h6⟩
/-! ### What is counted -/
theorem Ac.stpL_append : (a b : List Ac) → Ac.stpL (a ++ b) = Ac.stpL a + Ac.stpL b
  | [], b => by simp [Ac.stpL]
  | x :: r, b => by have := Ac.stpL_append r b; simp only [List.cons_append, Ac.stpL, this]; omega
theorem Ac.wrkL_append : (a b : List Ac) → Ac.wrkL (a ++ b) = Ac.wrkL a + Ac.wrkL b
  | [], b => by simp [Ac.wrkL]
  | x :: r, b => by have := Ac.wrkL_append r b; simp only [List.cons_append, Ac.wrkL, this]; omega
theorem Ac.szL_append : (a b : List Ac) → Ac.szL (a ++ b) = Ac.szL a + Ac.szL b
  | [], b => by simp [Ac.szL]
  | x :: r, b => by have := Ac.szL_append r b; simp only [List.cons_append, Ac.szL, this]; omega
theorem Ac.kindsL_append : (a b : List Ac) → Ac.kindsL a → Ac.kindsL b → Ac.kindsL (a ++ b)
  | [], b, _, h => h
  | x :: r, b, h, h2 => by
    simp only [Ac.kindsL] at h
    simp only [List.cons_append, Ac.kindsL]
    exact ⟨h.1, Ac.kindsL_append r b h.2 h2⟩
theorem Ac.kindsL_split : (a b : List Ac) → Ac.kindsL (a ++ b) → Ac.kindsL a ∧ Ac.kindsL b
  | [], b, h => ⟨trivial, h⟩
  | x :: r, b, h => by
    simp only [List.cons_append, Ac.kindsL] at h
    obtain ⟨h1, h2⟩ := Ac.kindsL_split r b h.2
    exact ⟨by simp only [Ac.kindsL]; exact ⟨h.1, h1⟩, h2⟩
/-- one statement more at place k -/
def insAc (k : Nat) (o : Ac) (l : List Ac) : List Ac := (l.take k ++ [o]) ++ l.drop k
theorem insAc_stp (k : Nat) (o : Ac) (l : List Ac) : Ac.stpL l ≤ Ac.stpL (insAc k o l) := by
  have h := Ac.stpL_append (l.take k) (l.drop k)
  rw [List.take_append_drop] at h
  unfold insAc
  rw [Ac.stpL_append, Ac.stpL_append]; omega
theorem insAc_wrk (k : Nat) (o : Ac) (l : List Ac) : Ac.wrkL l ≤ Ac.wrkL (insAc k o l) := by
  have h := Ac.wrkL_append (l.take k) (l.drop k)
  rw [List.take_append_drop] at h
  unfold insAc
  rw [Ac.wrkL_append, Ac.wrkL_append]; omega
theorem insAc_sz (k : Nat) (o : Ac) (l : List Ac) : Ac.szL (insAc k o l) = Ac.szL l + o.sz := by
  have h := Ac.szL_append (l.take k) (l.drop k)
  rw [List.take_append_drop] at h
  unfold insAc
  rw [Ac.szL_append, Ac.szL_append]; simp only [Ac.szL]; omega
theorem insAc_len {k : Nat} {o : Ac} {l : List Ac} : (insAc k o l).length = l.length + 1 := by
  have h := congrArg List.length (List.take_append_drop k l)
  rw [List.length_append] at h
  unfold insAc
  simp only [List.length_append, List.length_singleton]; omega
theorem insAc_kinds {k : Nat} {o : Ac} {l : List Ac} (h : Ac.kindsL l) (ho : o.kinds) : Ac.kindsL (insAc k o l) := by
  rw [← List.take_append_drop k l] at h
  obtain ⟨h1, h2⟩ := Ac.kindsL_split _ _ h
  exact Ac.kindsL_append _ _ (Ac.kindsL_append _ _ h1 (by simp only [Ac.kindsL]; exact ⟨ho, trivial⟩)) h2
theorem unS_set : (bs : List Bd) → (t : Nat) → (ht : t < bs.length) → (b : Bd) → unS (bs.set t b) + Ac.stpL bs[t].acts = unS bs + Ac.stpL b.acts
  | [], t, ht, b => by simp at ht
  | x :: r, 0, ht, b => by simp only [List.set_cons_zero, unS, List.getElem_cons_zero]; omega
  | x :: r, t + 1, ht, b => by
    have := unS_set r t (by simpa using ht) b
    simp only [List.set_cons_succ, unS, List.getElem_cons_succ]; omega
theorem unW_set : (bs : List Bd) → (t : Nat) → (ht : t < bs.length) → (b : Bd) → unW (bs.set t b) + Ac.wrkL bs[t].acts = unW bs + Ac.wrkL b.acts
  | [], t, ht, b => by simp at ht
  | x :: r, 0, ht, b => by simp only [List.set_cons_zero, unW, List.getElem_cons_zero]; omega
  | x :: r, t + 1, ht, b => by
    have := unW_set r t (by simpa using ht) b
    simp only [List.set_cons_succ, unW, List.getElem_cons_succ]; omega
theorem bsSz_set : (bs : List Bd) → (t : Nat) → (ht : t < bs.length) → (b : Bd) → bsSz (bs.set t b) + Ac.szL bs[t].acts = bsSz bs + Ac.szL b.acts
  | [], t, ht, b => by simp at ht
  | x :: r, 0, ht, b => by simp only [List.set_cons_zero, bsSz, List.getElem_cons_zero]; omega
  | x :: r, t + 1, ht, b => by
    have := bsSz_set r t (by simpa using ht) b
    simp only [List.set_cons_succ, bsSz, List.getElem_cons_succ]; omega
theorem bsSz_append : (a b : List Bd) → bsSz (a ++ b) = bsSz a + bsSz b
  | [], b => by simp [bsSz]
  | x :: r, b => by have := bsSz_append r b; simp only [List.cons_append, bsSz, this]; omega
/-- small, with room for a statement and a thread more -/
structure UnOk2 (cs : List Int) (bs : List Bd) : Prop where
  kinds : ∀ b, b ∈ bs → Ac.kindsL b.acts
  sz : bsSz bs < 800000000
  l1 : cs.length < 900000000
  l2 : bs.length < 900000000
theorem UnOk2.ok {cs : List Int} {bs : List Bd} (h : UnOk2 cs bs) : UnOk cs bs := ⟨h.kinds, by have := h.sz; omega, by have := h.l1; omega, by have := h.l2; omega⟩
theorem UnOk2.set {cs : List Int} {bs : List Bd} (h : UnOk2 cs bs) {t : Nat} (ht : t < bs.length) (k : Nat) {o : Ac} (ho : o.kinds) (hz : o.sz = 2) (r : Int) : UnOk cs (bs.set t ⟨r, insAc k o bs[t].acts⟩) := by
  refine ⟨fun b hb => ?_, ?_, by have := h.l1; omega, by have := h.l2; rw [List.length_set]; omega⟩
  · rcases List.mem_or_eq_of_mem_set hb with hb | hb
    · exact h.kinds b hb
    · subst hb
      exact insAc_kinds (h.kinds _ (List.getElem_mem ht)) ho
  · have h1 := bsSz_set bs t ht ⟨r, insAc k o bs[t].acts⟩
    have h2 := insAc_sz k o bs[t].acts
    have h3 := h.sz
    simp only at h1
    omega
theorem UnOk2.push {cs : List Int} {bs : List Bd} (h : UnOk2 cs bs) : UnOk cs (bs ++ [⟨0, []⟩]) := by
  refine ⟨fun b hb => ?_, ?_, by have := h.l1; omega, by have := h.l2; simp; omega⟩
  · rcases List.mem_append.1 hb with hb | hb
    · exact h.kinds b hb
    · have : b = ⟨0, []⟩ := by simpa using hb
      subst this
      trivial
  · rw [bsSz_append]
    have h3 := h.sz
    simp only [bsSz, Ac.szL]
    omega
theorem least_law (a b : ByteArray) (w : World) : Calls Tryz.prog 16 #[.string a, .string b] w fun e w' => e = .returned (.bool (!aboveB b a)) ∧ Keeps NoBlk w w' := by
  have HA : Hid (∀ W, Calls Tryz.prog 15 #[.string b, .string a] W fun e w' => e = .returned (.bool (aboveB b a)) ∧ Keeps NoBlk W w') := fun W => above_law b a W
  generalize aboveB b a = z at HA ⊢
  go_enter Tryz.func16, Tryz.ntmps16
  go_wp2_with (go_at_call 15; refine (HA.out _).mono ?_; rintro e w2 ⟨rfl, g0⟩; have K2 := Lib.hid g0; clear g0)
  go_ret
  exact ⟨rfl, K2.out⟩
end Go.Proofs.YtbkkpcignmcjnaaGreatDoor

/- Layer 7: what the walk of BoundMore leans on. Printed by genmore.py. -/
namespace Go.Proofs.YtbkkpcignmcjnaaGreatDoor
open Go.RowKit
set_option linter.unusedVariables false
set_option linter.unusedSimpArgs false
set_option linter.unnecessarySimpa false

theorem infoAct : (Tryz.prog.info? 39).map (fun i => (i.zero, i.size, i.bytes)) = some (some (.agg #[.int .i64 0, .int .i64 0, .int .i64 0, .int .i64 0, .int .i64 0, .string noNm, .slice none 0 0, .int .i64 0, .slice none 0 0, .slice none 0 0]), 10, 136) := by kernel_rfl
theorem infoBody : (Tryz.prog.info? 34).map (fun i => (i.zero, i.size, i.bytes)) = some (some (.agg #[.int .i64 0, .slice none 0 0]), 2, 32) := by kernel_rfl
theorem actSlice : Tryz.prog.underlying 32 = some (.slice (Tryz.prog.elem 32)) := by simp [Program.elem, Tryz.underlying32]
theorem actSize (w : World) : (Go.sizeOf (Tryz.prog.elem 32)).run Tryz.prog w = .ok 10 w := by
  have he : Tryz.prog.elem 32 = 39 := by simp [Program.elem, Tryz.underlying32]
  obtain ⟨i0, hi0, hz0, hz1, hz2⟩ := info_parts infoAct
  rw [he]
  simp [go_sem, hi0, hz1]
theorem act_pre {ba : Option Addr} {m bc k : Nat} (hk : k ≤ m) (hm : m ≤ bc) : ∃ sa, (∀ W, (Instr.slice 32 (.slice ba m bc) none (some (.int .i64 (k : Int))) none).run Tryz.prog W = .ok (.slice sa k bc) W) ∧ ∀ g o, k ≠ 0 → ba = some ⟨g, o, none⟩ → sa = some ⟨g, o + 0 * 10, none⟩ := by
  refine ⟨if bc = 0 then ba else ba.map (·.add (0 * 10)), fun W => ?_, fun g o h e => ?_⟩
  · rw [run_slice_h W 32 _ _ _ actSlice .i64 _ (by omega) (by omega), actSize]
    simp [Result.andThen, sliced]
  · subst e
    rw [if_neg (by omega)]
    simp [Addr.add]
theorem act_post {ba : Option Addr} {m bc k : Nat} (hk : k ≤ m) (hm : m ≤ bc) : ∃ sa sc, (∀ W, (Instr.slice 32 (.slice ba m bc) (some (.int .i64 (k : Int))) none none).run Tryz.prog W = .ok (.slice sa (m - k) sc) W) ∧ ∀ g o, m - k ≠ 0 → ba = some ⟨g, o, none⟩ → sa = some ⟨g, o + k * 10, none⟩ := by
  refine ⟨if bc = k then ba else ba.map (·.add (k * 10)), bc - k, fun W => ?_, fun g o h e => ?_⟩
  · rw [run_slice_l W 32 _ _ _ actSlice .i64 _ (by omega) (by omega), actSize]
    simp [Result.andThen, sliced]
  · subst e
    rw [if_neg (by omega)]
    by_cases h0 : k = 0
    · subst h0; simp [Addr.add]
    · have h1 : ¬ k * 10 = 0 := by omega
      simp [Addr.add, h1]
/-- the two statements that are put in -/
def oneE : Ac := .mk 9 0 0 (.mk 1 1 noNm []) 0 [] []
def oneO : Ac := .mk 11 0 0 Ex.zero 0 [] []
def oneEC : List Value := [.int .i64 9, .int .i64 0, .int .i64 0, .int .i64 1, .int .i64 1, .string noNm, .slice none 0 0, .int .i64 0, .slice none 0 0, .slice none 0 0]
def oneOC : List Value := [.int .i64 11, .int .i64 0, .int .i64 0, .int .i64 0, .int .i64 0, .string noNm, .slice none 0 0, .int .i64 0, .slice none 0 0, .slice none 0 0]
theorem oneE_at (w : World) (F : Nat → Prop) : AcAt w F oneE oneEC := AcAt.ofCells oneE (xa := none) (ta := none) (ea := none) (xc := 0) (tc := 0) (ec := 0) (ExsAt.empty _ _ _) (AcsAt.empty _ _ _) (AcsAt.empty _ _ _)
theorem oneO_at (w : World) (F : Nat → Prop) : AcAt w F oneO oneOC := AcAt.ofCells oneO (xa := none) (ta := none) (ea := none) (xc := 0) (tc := 0) (ec := 0) (ExsAt.empty _ _ _) (AcsAt.empty _ _ _) (AcsAt.empty _ _ _)
theorem oneE_ok : oneE.kinds ∧ oneE.sz = 2 := ⟨by simp [oneE, Ac.kinds, Ac.kindsL, kOk], by simp [oneE, Ac.sz, Ac.szL, Ex.cnt, Ex.cntL]⟩
theorem oneO_ok : oneO.kinds ∧ oneO.sz = 2 := ⟨by simp [oneO, Ac.kinds, Ac.kindsL, kOk], by simp [oneO, Ex.zero, Ac.sz, Ac.szL, Ex.cnt, Ex.cntL]⟩
theorem right_th {u : Un} (h : rightU u = true) : 1 ≤ u.threads.length ∧ u.threads.length ≤ 8 := by
  unfold rightU at h
  simp only [Bool.and_eq_true, decide_eq_true_eq] at h
  exact ⟨h.1.1.1.1.1.1.1.1, h.1.1.1.1.1.1.1.2⟩
theorem more_more {s c : Nat} (h : s ≤ c) : (!aboveB (tell true s) (tell true c)) = true := by
  rw [above_tell]; simp; omega
theorem more_less {s c : Nat} (h : s < c) : aboveB (tell true c) (tell true s) = true := by
  rw [above_tell]; simp; omega
theorem tmod_nat {n : Int} (h : 0 ≤ n) (m : Nat) : Int.tmod n (m : Int) = ((n.toNat % m : Nat) : Int) := by
  obtain ⟨k, rfl⟩ : ∃ k : Nat, n = k := ⟨n.toNat, by omega⟩
  rw [Int.toNat_natCast]
  exact Int.ofNat_tmod k m
set_option maxRecDepth 8000 in
set_option maxHeartbeats 4000000 in
theorem more_no (w : World) (mu th at_ : Int) (n0 n2 : Nat) (uca uta : Option Addr) (ucc utc : Nat)
    (HS : Hid (∀ W, Keeps NoBlk w W → Calls Tryz.prog 7 #[] W fun e w' => e = .returned (.bool true) ∧ Keeps NoBlk W w'))
    (HR : Hid (∀ W, Keeps NoBlk w W → Calls Tryz.prog 14 #[.agg #[.slice uca n0 ucc, .int .i64 mu, .slice uta n2 utc]] W fun e w' => e = .returned (.bool false) ∧ Keeps NoBlk W w')) :
    Calls Tryz.prog 6 #[.agg #[.slice uca n0 ucc, .int .i64 mu, .slice uta n2 utc], .int .i64 th, .int .i64 at_] w fun e w' => e = .returned (.bool true) ∧ Keeps NoBlk w w' := by
  go_enter Tryz.func6, Tryz.ntmps6
  go_upto_region 1 with fail
  obtain ⟨b1, hb1⟩ : ∃ z, z = w.heap.size := ⟨_, rfl⟩
  have hr1 : RowAt (w.alloc (.cells #[.slice uca n0 ucc, .int .i64 mu, .slice uta n2 utc] 25)) b1 [.slice uca n0 ucc, .int .i64 mu, .slice uta n2 utc] := by rw [hb1]; exact RowAt.ofBlock (heap_alloc_new w _)
  have hk1 : Keeps NoBlk w (w.alloc (.cells #[.slice uca n0 ucc, .int .i64 mu, .slice uta n2 utc] 25)) := (Keeps.refl _ _).alloc _
  have hs1 : (w.alloc (.cells #[.slice uca n0 ucc, .int .i64 mu, .slice uta n2 utc] 25)).heap.size = w.heap.size + 1 := by simp
  rw [← hb1]
  generalize w.alloc (.cells #[.slice uca n0 ucc, .int .i64 mu, .slice uta n2 utc] 25) = w1 at hr1 hk1 hs1 ⊢
  have R1 := Lib.hid hr1
  have K1 := Lib.hid hk1
  have B1 : Hid (b1 = w.heap.size ∧ w1.heap.size = w.heap.size + 1) := ⟨hb1, hs1⟩
  obtain ⟨y0, y1, y2⟩ := hr1.three
  clear hr1 hk1 hb1 hs1
  go_upto_region 2 with (go_at_call 7; refine (HS.out _ K1.out).mono ?_; rintro e w2 ⟨rfl, g0⟩; have K2 : Hid (Keeps NoBlk w w2) := K1.out.trans0 g0; have c := (R1.out.keeps g0 (fun h => h)).three; clear y0 y1 y2; obtain ⟨y0, y1, y2⟩ := c; have R1 := Lib.hid (R1.out.keeps g0 (fun h => h)); clear g0)
  go_wp2_with (go_at_call 14; refine (HR.out _ K2.out).mono ?_; rintro e w3 ⟨rfl, g0⟩; have K3 : Hid (Keeps NoBlk w w3) := K2.out.trans0 g0; have c := (R1.out.keeps g0 (fun h => h)).three; clear y0 y1 y2; obtain ⟨y0, y1, y2⟩ := c; have R1 := Lib.hid (R1.out.keeps g0 (fun h => h)); clear g0)
  all_goals go_ret
  all_goals exact ⟨by simp, K3.out⟩

set_option maxRecDepth 8000 in
set_option maxHeartbeats 4000000 in
theorem more_neg (w : World) (mu th at_ : Int) (n0 n2 : Nat) (uca uta : Option Addr) (ucc utc : Nat) (q1 : th < 0)
    (HS : Hid (∀ W, Keeps NoBlk w W → Calls Tryz.prog 7 #[] W fun e w' => e = .returned (.bool true) ∧ Keeps NoBlk W w'))
    (HR : Hid (∀ W, Keeps NoBlk w W → Calls Tryz.prog 14 #[.agg #[.slice uca n0 ucc, .int .i64 mu, .slice uta n2 utc]] W fun e w' => e = .returned (.bool true) ∧ Keeps NoBlk W w')) :
    Calls Tryz.prog 6 #[.agg #[.slice uca n0 ucc, .int .i64 mu, .slice uta n2 utc], .int .i64 th, .int .i64 at_] w fun e w' => e = .returned (.bool true) ∧ Keeps NoBlk w w' := by
  have z1 : decide (th < 0) = true := decide_eq_true q1
  go_enter Tryz.func6, Tryz.ntmps6
  go_upto_region 1 with fail
  obtain ⟨b1, hb1⟩ : ∃ z, z = w.heap.size := ⟨_, rfl⟩
  have hr1 : RowAt (w.alloc (.cells #[.slice uca n0 ucc, .int .i64 mu, .slice uta n2 utc] 25)) b1 [.slice uca n0 ucc, .int .i64 mu, .slice uta n2 utc] := by rw [hb1]; exact RowAt.ofBlock (heap_alloc_new w _)
  have hk1 : Keeps NoBlk w (w.alloc (.cells #[.slice uca n0 ucc, .int .i64 mu, .slice uta n2 utc] 25)) := (Keeps.refl _ _).alloc _
  have hs1 : (w.alloc (.cells #[.slice uca n0 ucc, .int .i64 mu, .slice uta n2 utc] 25)).heap.size = w.heap.size + 1 := by simp
  rw [← hb1]
  generalize w.alloc (.cells #[.slice uca n0 ucc, .int .i64 mu, .slice uta n2 utc] 25) = w1 at hr1 hk1 hs1 ⊢
  have R1 := Lib.hid hr1
  have K1 := Lib.hid hk1
  have B1 : Hid (b1 = w.heap.size ∧ w1.heap.size = w.heap.size + 1) := ⟨hb1, hs1⟩
  obtain ⟨y0, y1, y2⟩ := hr1.three
  clear hr1 hk1 hb1 hs1
  go_upto_region 2 with (go_at_call 7; refine (HS.out _ K1.out).mono ?_; rintro e w2 ⟨rfl, g0⟩; have K2 : Hid (Keeps NoBlk w w2) := K1.out.trans0 g0; have c := (R1.out.keeps g0 (fun h => h)).three; clear y0 y1 y2; obtain ⟨y0, y1, y2⟩ := c; have R1 := Lib.hid (R1.out.keeps g0 (fun h => h)); clear g0)
  go_wp2_with (go_at_call 14; refine (HR.out _ K2.out).mono ?_; rintro e w3 ⟨rfl, g0⟩; have K3 : Hid (Keeps NoBlk w w3) := K2.out.trans0 g0; have c := (R1.out.keeps g0 (fun h => h)).three; clear y0 y1 y2; obtain ⟨y0, y1, y2⟩ := c; have R1 := Lib.hid (R1.out.keeps g0 (fun h => h)); clear g0)
  all_goals go_ret
  all_goals exact ⟨by simp, K3.out⟩

set_option maxRecDepth 8000 in
set_option maxHeartbeats 4000000 in
theorem more_at (w : World) (mu th at_ : Int) (n0 n2 : Nat) (uca uta : Option Addr) (ucc utc : Nat) (q0 : 0 ≤ th) (q1 : at_ < 0)
    (HS : Hid (∀ W, Keeps NoBlk w W → Calls Tryz.prog 7 #[] W fun e w' => e = .returned (.bool true) ∧ Keeps NoBlk W w'))
    (HR : Hid (∀ W, Keeps NoBlk w W → Calls Tryz.prog 14 #[.agg #[.slice uca n0 ucc, .int .i64 mu, .slice uta n2 utc]] W fun e w' => e = .returned (.bool true) ∧ Keeps NoBlk W w')) :
    Calls Tryz.prog 6 #[.agg #[.slice uca n0 ucc, .int .i64 mu, .slice uta n2 utc], .int .i64 th, .int .i64 at_] w fun e w' => e = .returned (.bool true) ∧ Keeps NoBlk w w' := by
  have z0 : decide (th < 0) = false := decide_eq_false (by omega)
  have z1 : decide (at_ < 0) = true := decide_eq_true q1
  go_enter Tryz.func6, Tryz.ntmps6
  go_upto_region 1 with fail
  obtain ⟨b1, hb1⟩ : ∃ z, z = w.heap.size := ⟨_, rfl⟩
  have hr1 : RowAt (w.alloc (.cells #[.slice uca n0 ucc, .int .i64 mu, .slice uta n2 utc] 25)) b1 [.slice uca n0 ucc, .int .i64 mu, .slice uta n2 utc] := by rw [hb1]; exact RowAt.ofBlock (heap_alloc_new w _)
  have hk1 : Keeps NoBlk w (w.alloc (.cells #[.slice uca n0 ucc, .int .i64 mu, .slice uta n2 utc] 25)) := (Keeps.refl _ _).alloc _
  have hs1 : (w.alloc (.cells #[.slice uca n0 ucc, .int .i64 mu, .slice uta n2 utc] 25)).heap.size = w.heap.size + 1 := by simp
  rw [← hb1]
  generalize w.alloc (.cells #[.slice uca n0 ucc, .int .i64 mu, .slice uta n2 utc] 25) = w1 at hr1 hk1 hs1 ⊢
  have R1 := Lib.hid hr1
  have K1 := Lib.hid hk1
  have B1 : Hid (b1 = w.heap.size ∧ w1.heap.size = w.heap.size + 1) := ⟨hb1, hs1⟩
  obtain ⟨y0, y1, y2⟩ := hr1.three
  clear hr1 hk1 hb1 hs1
  go_upto_region 2 with (go_at_call 7; refine (HS.out _ K1.out).mono ?_; rintro e w2 ⟨rfl, g0⟩; have K2 : Hid (Keeps NoBlk w w2) := K1.out.trans0 g0; have c := (R1.out.keeps g0 (fun h => h)).three; clear y0 y1 y2; obtain ⟨y0, y1, y2⟩ := c; have R1 := Lib.hid (R1.out.keeps g0 (fun h => h)); clear g0)
  go_wp2_with (go_at_call 14; refine (HR.out _ K2.out).mono ?_; rintro e w3 ⟨rfl, g0⟩; have K3 : Hid (Keeps NoBlk w w3) := K2.out.trans0 g0; have c := (R1.out.keeps g0 (fun h => h)).three; clear y0 y1 y2; obtain ⟨y0, y1, y2⟩ := c; have R1 := Lib.hid (R1.out.keeps g0 (fun h => h)); clear g0)
  all_goals go_ret
  all_goals exact ⟨by simp, K3.out⟩

end Go.Proofs.YtbkkpcignmcjnaaGreatDoor

/- Layer 7: the walk of BoundMore, at even places. Printed by genmore.py. -/
namespace Go.Proofs.YtbkkpcignmcjnaaGreatDoor
open Go.RowKit
set_option linter.unusedVariables false
set_option linter.unusedSimpArgs false
set_option linter.unnecessarySimpa false

set_option maxRecDepth 8000 in
set_option maxHeartbeats 8000000 in
theorem more_even (cs : List Int) (mu : Int) (bs : List Bd) (w : World) (F : Nat → Prop) (uca : Option Addr) (gu ou : Nat) (ucc utc : Nat) (th at_ : Int) (t k : Nat) (hN : NumsAt w F cs uca) (hF : ∀ q, F q → q < w.heap.size) (ok : UnOk2 cs bs) (hr : rightU ⟨cs, mu, bs⟩ = true)
    (q1 : 0 ≤ th) (q2 : 0 ≤ at_) (ht : t < bs.length) (hb8 : bs.length ≤ 8) (hrt : Int.tmod th (bs.length : Int) = (t : Int)) (m bc : Nat) (ba : Option Addr) (hm : m = bs[t].acts.length) (hrk : Int.tmod at_ ((m : Int) + 1) = (k : Int)) (hkm : k ≤ m) (hmc : m ≤ bc) (hro : Int.tmod at_ 2 = 0)
    (L : List (Int × Value)) (hT : ThAt w F bs L) (hS : SrcAt w (.slice (some ⟨gu, ou, none⟩) bs.length utc) bs.length (L.flatMap thC)) (hO : ∀ u ∈ L.flatMap thC, u.oneCell' = true) (hgu : F gu) (hLt : L[t]? = some (bs[t].regs, .slice ba m bc)) (hct : w.cell? ⟨gu, ou + t * 2 + 1, none⟩ = some (.slice ba m bc)) (hA : AcsAt w F bs[t].acts ba)
    (hU : UnAt w F cs bs uca (some ⟨gu, ou, none⟩)) (htab : TabP w) :
    Calls Tryz.prog 6 #[.agg #[.slice uca cs.length ucc, .int .i64 mu, .slice (some ⟨gu, ou, none⟩) bs.length utc], .int .i64 th, .int .i64 at_] w fun e w' => e = .returned (.bool true) ∧ Keeps NoBlk w w' := by
  have HS : Hid (∀ W, Keeps NoBlk w W → Calls Tryz.prog 7 #[] W fun e w' => e = .returned (.bool true) ∧ Keeps NoBlk W w') := fun W hk => shown_any W (htab.keeps (below_keeps hk))
  obtain ⟨sS, hsS⟩ : ∃ z, z = unS bs := ⟨_, rfl⟩
  obtain ⟨sW, hsW⟩ : ∃ z, z = unW bs := ⟨_, rfl⟩
  have HR : Hid (∀ W, Keeps NoBlk w W → Calls Tryz.prog 14 #[.agg #[.slice uca cs.length ucc, .int .i64 mu, .slice (some ⟨gu, ou, none⟩) bs.length utc]] W fun e w' => e = .returned (.bool true) ∧ Keeps NoBlk W w') := fun W hk => by
    have := (hU.keeps0 hk).right (mu := mu) (ucc := ucc) (utc := utc) ok.ok
    rw [hr] at this; exact this
  have HT : Hid (∀ W, Keeps NoBlk w W → Calls Tryz.prog 8 #[.agg #[.slice uca cs.length ucc, .int .i64 mu, .slice (some ⟨gu, ou, none⟩) bs.length utc]] W fun e w' => e = .returned (.string (tell true sS)) ∧ Keeps NoBlk W w') := fun W hk => by
    have := (hU.keeps0 hk).steps (mu := mu) (ucc := ucc) (utc := utc) ok.ok (htab.keeps (below_keeps hk))
    rw [hr, ← hsS] at this; exact this
  have HW : Hid (∀ W, Keeps NoBlk w W → Calls Tryz.prog 9 #[.agg #[.slice uca cs.length ucc, .int .i64 mu, .slice (some ⟨gu, ou, none⟩) bs.length utc]] W fun e w' => e = .returned (.string (tell true sW)) ∧ Keeps NoBlk W w') := fun W hk => by
    have := (hU.keeps0 hk).work (mu := mu) (ucc := ucc) (utc := utc) ok.ok (htab.keeps (below_keeps hk))
    rw [hr, ← hsW] at this; exact this
  obtain ⟨sa1, HL1, hs1⟩ := act_pre (ba := ba) hkm hmc
  obtain ⟨sa2, sc2, HL2, hs2⟩ := act_post (ba := ba) hkm hmc
  obtain ⟨n0, hn0⟩ : ∃ z, z = cs.length := ⟨_, rfl⟩
  obtain ⟨n2, hn2⟩ : ∃ z, z = bs.length := ⟨_, rfl⟩
  have hm2 : m < 800000000 := by
    have h1 := Ac.len_le bs[t].acts
    have h2 := bsSz_mem (List.getElem_mem ht)
    have h3 := ok.sz
    omega
  obtain ⟨rg, hrg⟩ : ∃ z, z = bs[t].regs := ⟨_, rfl⟩
  obtain ⟨A, hAA⟩ : ∃ z, z = bs[t].acts := ⟨_, rfl⟩
  rw [← hAA] at hA hm
  rw [← hrg] at hLt
  obtain ⟨bs1, hbs1⟩ : ∃ z, z = bs.set t ⟨rg, insAc k oneE A⟩ := ⟨_, rfl⟩
  obtain ⟨bs2, hbs2⟩ : ∃ z, z = bs ++ [(⟨0, []⟩ : Bd)] := ⟨_, rfl⟩
  have HOK1 : Hid (UnOk cs bs1) := by rw [hbs1, hAA]; exact ok.set ht k oneE_ok.1 oneE_ok.2 rg
  have HOK2 : Hid (UnOk cs bs2) := by rw [hbs2]; exact ok.push
  have HG1 : Hid (sS ≤ unS bs1 ∧ sW ≤ unW bs1) := by
    have h1 := unS_set bs t ht ⟨rg, insAc k oneE A⟩
    have h2 := unW_set bs t ht ⟨rg, insAc k oneE A⟩
    have h3 := insAc_stp k oneE A
    have h4 := insAc_wrk k oneE A
    rw [← hbs1, ← hAA] at h1 h2
    exact ⟨by simp only at h1; omega, by simp only at h2; omega⟩
  have HG2 : Hid (sS < unS bs2 ∧ sW < unW bs2) := by
    rw [hbs2, unS_append, unW_append, hsS, hsW]
    simp only [unS, unW]
    exact ⟨by omega, by omega⟩
  have HB1 := Lib.hid hbs1
  have HB2 := Lib.hid hbs2
  have HL1B : Hid (bs1.length = bs.length) := by show _ = _; rw [hbs1]; simp
  have HL2B : Hid (bs2.length = bs.length + 1) := by show _ = _; rw [hbs2]; simp
  clear hbs1 hbs2 hrg hAA
  have HF := Lib.hid hF
  have HN := Lib.hid hN
  have HTH := Lib.hid hT
  have HSR := Lib.hid hS
  have HON := Lib.hid hO
  have HLT := Lib.hid hLt
  have HAC := Lib.hid hA
  have HTB := Lib.hid htab
  have HM := Lib.hid hm
  have HGU := Lib.hid hgu
  have HS1 := Lib.hid hs1
  have HS2 := Lib.hid hs2
  have HN0 := Lib.hid hn0
  have HN2 := Lib.hid hn2
  have HLL := Lib.hid hT.1
  rw [← hn0] at HR HT HW ⊢
  rw [← hn2] at HR HT HW HSR hrt hb8 ⊢
  have ht2 : t < n2 := by rw [hn2]; exact ht
  clear hF hN hT hS hO hLt hA htab ok hm hgu hs1 hs2 hU hr hsS hsW ht hn0 hn2
  have z0 : decide (th < 0) = false := decide_eq_false (by omega)
  have z1 : decide (at_ < 0) = false := decide_eq_false (by omega)
  have z2 : ¬ (n2 : Int) = 0 := by omega
  have z3 : ((n2 : Int) == 0) = false := beq_false_of_ne z2
  have z4 : ¬ ((m : Int) + 1) = 0 := by omega
  have z5 : (((m : Int) + 1) == 0) = false := beq_false_of_ne z4
  have z6 : IntKind.i64.wrap ((m : Int) + 1) = (m : Int) + 1 := wrap_small _ (by omega) (by omega)
  have i1 : (0 : Int) ≤ t := by omega
  have i2 : (t : Int) < n2 := by omega
  have i3 : (0 : Int) ≤ k := by omega
  have i4 : (k : Int) ≤ m := by omega
  obtain ⟨j0, hj0, hz0, hz1, hz2⟩ := info_parts infoAct
  obtain ⟨e0, he0, hf0, hf1, hf2⟩ := info_parts infoBody
  go_enter Tryz.func6, Tryz.ntmps6
  go_upto_region 1 with fail
  obtain ⟨b1, hb1⟩ : ∃ z, z = w.heap.size := ⟨_, rfl⟩
  have hr1 : RowAt (w.alloc (.cells #[.slice uca n0 ucc, .int .i64 mu, .slice (some ⟨gu, ou, none⟩) n2 utc] 25)) b1 [.slice uca n0 ucc, .int .i64 mu, .slice (some ⟨gu, ou, none⟩) n2 utc] := by rw [hb1]; exact RowAt.ofBlock (heap_alloc_new w _)
  have hk1 : Keeps NoBlk w (w.alloc (.cells #[.slice uca n0 ucc, .int .i64 mu, .slice (some ⟨gu, ou, none⟩) n2 utc] 25)) := (Keeps.refl _ _).alloc _
  have hs1 : (w.alloc (.cells #[.slice uca n0 ucc, .int .i64 mu, .slice (some ⟨gu, ou, none⟩) n2 utc] 25)).heap.size = w.heap.size + 1 := by simp
  rw [← hb1]
  generalize w.alloc (.cells #[.slice uca n0 ucc, .int .i64 mu, .slice (some ⟨gu, ou, none⟩) n2 utc] 25) = w1 at hr1 hk1 hs1 ⊢
  have R1 := Lib.hid hr1
  have K1 := Lib.hid hk1
  have B1 : Hid (b1 = w.heap.size ∧ w1.heap.size = w.heap.size + 1) := ⟨hb1, hs1⟩
  obtain ⟨y0, y1, y2⟩ := hr1.three
  clear hr1 hk1 hb1 hs1
  go_upto_region 2 with (go_at_call 7; refine (HS.out _ K1.out).mono ?_; rintro e w2 ⟨rfl, g0⟩; have K2 : Hid (Keeps NoBlk w w2) := K1.out.trans0 g0; have c := (R1.out.keeps g0 (fun h => h)).three; clear y0 y1 y2; obtain ⟨y0, y1, y2⟩ := c; have R1 := Lib.hid (R1.out.keeps g0 (fun h => h)); clear g0)
  go_upto_region 5 with (go_at_call 14; refine (HR.out _ K2.out).mono ?_; rintro e w3 ⟨rfl, g0⟩; have K3 : Hid (Keeps NoBlk w w3) := K2.out.trans0 g0; have c := (R1.out.keeps g0 (fun h => h)).three; clear y0 y1 y2; obtain ⟨y0, y1, y2⟩ := c; have R1 := Lib.hid (R1.out.keeps g0 (fun h => h)); clear g0)
  go_upto_region 6 with (go_at_call 8; refine (HT.out _ K3.out).mono ?_; rintro e w4 ⟨rfl, g0⟩; have K4 : Hid (Keeps NoBlk w w4) := K3.out.trans0 g0; have c := (R1.out.keeps g0 (fun h => h)).three; clear y0 y1 y2; obtain ⟨y0, y1, y2⟩ := c; have R1 := Lib.hid (R1.out.keeps g0 (fun h => h)); clear g0)
  go_upto_region 7 with (go_at_call 9; refine (HW.out _ K4.out).mono ?_; rintro e w5 ⟨rfl, g0⟩; have K5 : Hid (Keeps NoBlk w w5) := K4.out.trans0 g0; have c := (R1.out.keeps g0 (fun h => h)).three; clear y0 y1 y2; obtain ⟨y0, y1, y2⟩ := c; have R1 := Lib.hid (R1.out.keeps g0 (fun h => h)); clear g0)
  go_upto_region 8 with fail
  obtain ⟨bv, hbv⟩ : ∃ z, z = w5.heap.size := ⟨_, rfl⟩
  have hrv : RowAt (w5.alloc (.cells #[.slice uca n0 ucc, .int .i64 mu, .slice none 0 0] 25)) bv [.slice uca n0 ucc, .int .i64 mu, .slice none 0 0] := by rw [hbv]; exact RowAt.ofBlock (heap_alloc_new w5 _)
  have hkv : Keeps NoBlk w5 (w5.alloc (.cells #[.slice uca n0 ucc, .int .i64 mu, .slice none 0 0] 25)) := (Keeps.refl _ _).alloc _
  have hsv : (w5.alloc (.cells #[.slice uca n0 ucc, .int .i64 mu, .slice none 0 0] 25)).heap.size = w5.heap.size + 1 := by simp
  rw [← hbv]
  generalize w5.alloc (.cells #[.slice uca n0 ucc, .int .i64 mu, .slice none 0 0] 25) = w7 at hrv hkv hsv ⊢
  have BD : Hid (w.heap.size ≤ b1 ∧ b1 < bv ∧ w7.heap.size = bv + 1) := by
    have h1 := R1.out.lt (by simp)
    have h2 := B1.out
    show _ ∧ _ ∧ _
    exact ⟨by omega, by omega, by omega⟩
  have K7 : Hid (Keeps NoBlk w w7) := K5.out.trans0 hkv
  have R1 := Lib.hid (R1.out.keeps hkv (fun h => h))
  have RV := Lib.hid hrv
  clear y0 y1 y2 hkv hsv hbv
  obtain ⟨y0, y1, y2⟩ := R1.out.three
  obtain ⟨v0, v1, v2⟩ := hrv.three
  clear hrv
  go_upto_region 9 with (at_builtin; refine wpList_append_src _ (by rfl) _ _ 23 (by rfl) 0 34 e0 _ 2 32 Tryz.underlying23 he0 hf0 hf1 hf2 rfl (by decide) (.slice none 0 0) 0 [] (by rfl) (World.ownsRow_nil _ _ _ _) (.slice (some ⟨gu, ou, none⟩) n2 utc) n2 (L.flatMap thC) (by rfl) (HSR.out.keeps K7.out (fun _ _ h => h)) (by rw [length_cells thC 2 thC_len, HLL.out, ← HN2.out]) HON.out (by unfold maxLen; omega) (by omega) (Nat.zero_le _) ?_; intro ad cap w8 ha; rw [Nat.zero_add, List.nil_append] at ha; rw [Nat.zero_add]; obtain ⟨g, c8, e8, _, _⟩ := ha.1.form (by omega); cases e8; have HG : Hid (g = bv + 1) := (ha.2.2 g rfl).elim (fun h => by simp [Value.ownBlock] at h) (fun h => h.trans BD.out.2.2); have k8 : Keeps NoBlk w7 w8 := AppOut.keeps ha (Keeps.refl NoBlk w7) (fun q e _ => by simp [Value.ownBlock] at e); have OW := Lib.hid ha.1; have K8 := Lib.hid k8; have r8 := RV.out.keeps k8 (fun h => h); have R8 := Lib.hid r8; have x2 := r8.cell (k := 2) (v := .slice none 0 0) rfl; have f2 := r8.free (k := 2) (by simp); clear ha k8 r8 v0 v1 v2 y0 y1 y2)
  have hr9 : RowAt (w8.setCell ⟨bv, 2, none⟩ (.slice (some ⟨g, 0, none⟩) n2 cap)) bv [.slice uca n0 ucc, .int .i64 mu, .slice (some ⟨g, 0, none⟩) n2 cap] := R8.out.set 2 (by simp) _
  have hk9 : Keeps (fun q => q = bv) w8 (w8.setCell ⟨bv, 2, none⟩ (.slice (some ⟨g, 0, none⟩) n2 cap)) := (Keeps.refl (fun q => q = bv) w8).setCell (p := ⟨bv, 2, none⟩) (fun _ => rfl) _
  generalize w8.setCell ⟨bv, 2, none⟩ (.slice (some ⟨g, 0, none⟩) n2 cap) = w9 at hr9 hk9 ⊢
  have K9 : Hid (Keeps NoBlk w w9) := (K7.out.trans0 K8.out).trans hk9 (fun q hq e => by have e' : q = bv := e; have := BD.out; omega)
  have R1 := Lib.hid ((R1.out.keeps K8.out (fun h => h)).keeps hk9 (fun e => by have e' : b1 = bv := e; have := BD.out; omega))
  have RV := Lib.hid hr9
  have OW := Lib.hid (ownsRow_keeps OW.out hk9 (fun q e hq => by have e' : q = bv := hq; have e2 : g = q := (by simpa [Value.ownBlock] using e); have := HG.out; omega))
  have hTR := RowAt.ofOwns OW.out
  have TR := Lib.hid hTR
  have gt : (L.flatMap thC)[t * 2 + 1]? = some (.slice ba m bc) := by
    have h := get_cells thC 2 thC_len L t 1 (by decide)
    rw [HLT.out] at h; exact h
  have GT := Lib.hid gt
  have c1 : w9.cell? ⟨g, t * 2 + 1, none⟩ = some (.slice ba m bc) := hTR.cell gt
  have cu : w9.cell? ⟨gu, ou + t * 2 + 1, none⟩ = some (.slice ba m bc) := K9.out.cell (p := ⟨gu, ou + t * 2 + 1, none⟩) (fun h => h) hct
  clear x2 f2 R8 gt hTR hk9
  obtain ⟨y0, y1, y2⟩ := R1.out.three
  obtain ⟨v0, v1, v2⟩ := hr9.three
  clear hr9
  go_upto_region 12 with fail
  obtain ⟨bo, hbo⟩ : ∃ z, z = w9.heap.size := ⟨_, rfl⟩
  have hro' : RowAt (w9.alloc (.cells #[.int .i64 9, .int .i64 0, .int .i64 0, .int .i64 1, .int .i64 1, .string { data := #[] }, .slice none 0 0, .int .i64 0, .slice none 0 0, .slice none 0 0] 39)) bo oneEC := by rw [hbo]; exact RowAt.ofBlock (heap_alloc_new w9 _)
  have hko : Keeps NoBlk w9 (w9.alloc (.cells #[.int .i64 9, .int .i64 0, .int .i64 0, .int .i64 1, .int .i64 1, .string { data := #[] }, .slice none 0 0, .int .i64 0, .slice none 0 0, .slice none 0 0] 39)) := (Keeps.refl _ _).alloc _
  have hso : (w9.alloc (.cells #[.int .i64 9, .int .i64 0, .int .i64 0, .int .i64 1, .int .i64 1, .string { data := #[] }, .slice none 0 0, .int .i64 0, .slice none 0 0, .slice none 0 0] 39)).heap.size = w9.heap.size + 1 := by simp
  have hbl : w9.heap[bo]? = none := by rw [hbo]; simp
  rw [← hbo]
  generalize w9.alloc (.cells #[.int .i64 9, .int .i64 0, .int .i64 0, .int .i64 1, .int .i64 1, .string { data := #[] }, .slice none 0 0, .int .i64 0, .slice none 0 0, .slice none 0 0] 39) = w11 at hro' hko hso ⊢
  obtain ⟨BB, hBB⟩ : ∃ z, z = w11.heap.size := ⟨_, rfl⟩
  have BO : Hid (g < bo ∧ BB = bo + 1) := by
    have h1 := TR.out.lt (by intro h; have := congrArg List.length h; rw [length_cells thC 2 thC_len, HLL.out, ← HN2.out] at this; simp at this; omega)
    show _ ∧ _
    exact ⟨by omega, by omega⟩
  have HBB := Lib.hid hBB
  have K11 : Hid (Keeps NoBlk w w11) := K9.out.trans0 hko
  have R1 := Lib.hid (R1.out.keeps hko (fun h => h))
  have RV := Lib.hid (RV.out.keeps hko (fun h => h))
  have OW := Lib.hid (ownsRow_keeps OW.out hko (fun _ _ h => h))
  have RO := Lib.hid hro'
  clear y0 y1 y2 v0 v1 v2 c1 cu hko hso hbo hbl hBB
  obtain ⟨y0, y1, y2⟩ := R1.out.three
  obtain ⟨o0, o1, o2, o3, o4, o5, o6, o7, o8, o9⟩ := RowAt.ten hro'
  clear hro'
  have cu : w11.cell? ⟨gu, ou + t * 2 + 1, none⟩ = some (.slice ba m bc) := K11.out.cell (p := ⟨gu, ou + t * 2 + 1, none⟩) (fun h => h) hct
  obtain ⟨d1, hd1l, hd1f, hd1s, hd1o, hd1a⟩ := HAC.out.part 0 k bc (by have := HM.out; omega) HS1.out
  obtain ⟨d2, hd2l, hd2f, hd2s, hd2o, hd2a⟩ := HAC.out.part k (m - k) sc2 (by have := HM.out; omega) HS2.out
  have D1 := Lib.hid hd1s
  have D2 := Lib.hid hd2s
  have D1A := Lib.hid hd1a
  have D2A := Lib.hid hd2a
  have D1L := Lib.hid hd1l
  have D2L := Lib.hid hd2l
  have D1F := Lib.hid hd1f
  have D2F := Lib.hid hd2f
  have D1O := Lib.hid hd1o
  have D2O := Lib.hid hd2o
  clear hd1l hd1f hd1s hd1o hd1a hd2l hd2f hd2s hd2o hd2a
  go_upto_region 16 with (at_builtin; refine wpList_append_src _ (by rfl) _ _ 32 (by rfl) 0 39 j0 _ 10 136 Tryz.underlying32 hj0 hz0 hz1 hz2 rfl (by decide) (.slice none 0 0) 0 [] (by rfl) (World.ownsRow_nil _ _ _ _) (.slice sa1 k bc) k d1.flatten (by rfl) (D1.out.keeps K11.out (fun _ _ h => h)) D1F.out D1O.out (by unfold maxLen; omega) (by omega) (Nat.zero_le _) ?_; intro a1 p1 w12 ha; rw [Nat.zero_add, List.nil_append] at ha; rw [Nat.zero_add]; have A1 := Lib.hid ha; have k12 : Keeps NoBlk w11 w12 := AppOut.keeps ha (Keeps.refl NoBlk w11) (fun q e _ => by simp [Value.ownBlock] at e); have G12 := Lib.hid k12; have cu' := k12.cell (p := ⟨gu, ou + t * 2 + 1, none⟩) (fun h => h) cu; have r := (R1.out.keeps k12 (fun h => h)).three; clear y0 y1 y2; obtain ⟨y0, y1, y2⟩ := r; have r := RowAt.ten (RO.out.keeps k12 (fun h => h)); clear o0 o1 o2 o3 o4 o5 o6 o7 o8 o9 cu; obtain ⟨o0, o1, o2, o3, o4, o5, o6, o7, o8, o9⟩ := r; clear ha k12)
  have HE1 : Hid ((A.take k).length = k) := by show _ = _; rw [List.length_take]; have := HM.out; omega
  have HGB : Hid (∀ q, F q → q < BB) := fun q hq => by have := HF.out q hq; have h2 := K11.out.size; have := HBB.out; omega
  have P1 : Hid (Acc AcAt F BB 10 39 w12 (.slice a1 k p1) (A.take k) d1) := by
    have h := Acc.pushL acOk (Acc.nil (R := AcAt) (G := F) (B := BB) (sz := 10) (ty := 39) w11) (ys := A.take k) (dss := d1) (ad := a1) (cap := p1) (w' := w12) HGB.out (by rw [HBB.out]; exact Nat.le_refl _) (by rw [D1L.out, HE1.out])
      (fun i y ds e1 e2 => ((D1A.out i y ds (by rw [List.drop_zero]; exact e1) e2).keeps K11.out (fun _ _ h => h)).mono (fun q hq => .inl hq)) (by decide) (by rw [HE1.out, List.length_nil, Nat.zero_add]; exact A1.out)
    rw [List.length_nil, Nat.zero_add, HE1.out, List.nil_append, List.nil_append] at h
    exact h
  clear A1
  go_upto_region 17 with (at_builtin; refine wpList_append_src _ (by rfl) _ _ 32 (by rfl) 0 39 j0 _ 10 136 Tryz.underlying32 hj0 hz0 hz1 hz2 rfl (by decide) (.slice a1 k p1) k d1.flatten (by rfl) (by have h1 := P1.out.2.1; rw [HE1.out] at h1; exact ownsRow_keeps h1 ((Keeps.refl NoBlk w12).alloc _) (fun _ _ h => h)) (.slice (some ⟨w12.heap.size, 0, none⟩) 1 1) 1 oneEC (by rfl) (RowAt.src (RowAt.ofBlock (heap_alloc_new w12 _))) rfl (by intro q hq; simp only [oneEC, List.mem_cons, List.not_mem_nil, or_false] at hq; rcases hq with rfl | rfl | rfl | rfl | rfl | rfl | rfl | rfl | rfl | rfl <;> rfl) (by unfold maxLen; omega) (by omega) (Nat.zero_le _) ?_; intro a2 p2 w13 ha; have A2 := Lib.hid ha; have k13 : Keeps NoBlk w11 w13 := AppOut.keeps ha (G12.out.alloc _) (fun q e hq => by have := P1.out.2.2.1 q e; have := HBB.out; omega); have G13 := Lib.hid k13; have r := (R1.out.keeps k13 (fun h => h)).three; clear y0 y1 y2; obtain ⟨y0, y1, y2⟩ := r; have cu := k13.cell (p := ⟨gu, ou + t * 2 + 1, none⟩) (fun h => h) (K11.out.cell (p := ⟨gu, ou + t * 2 + 1, none⟩) (fun h => h) hct); clear o0 o1 o2 o3 o4 o5 o6 o7 o8 o9 cu' ha k13)
  have P2 : Hid (Acc AcAt F BB 10 39 w13 (.slice a2 (k + 1) p2) (A.take k ++ [oneE]) (d1 ++ [oneEC])) := by
    have h := (P1.out.keeps0 acOk ((Keeps.refl NoBlk w12).alloc (.cells oneEC.toArray 39))).push acOk HGB.out (by rw [HBB.out]; exact (G12.out.alloc _).size) (oneE_at _ _) (by decide) (ad := a2) (cap := p2) (w' := w13) (by rw [HE1.out]; exact A2.out)
    rw [HE1.out] at h
    exact h
  have HE2 : Hid ((A.take k ++ [oneE]).length = k + 1) := by show _ = _; rw [List.length_append, HE1.out]; rfl
  clear A2
  have e9 : k + 1 + (m - k) = m + 1 := by omega
  have hlen9 : k + 1 + (m - k) < 900000000 := by omega
  go_upto_region 18 with (at_builtin; refine wpList_append_src _ (by rfl) _ _ 32 (by rfl) 0 39 j0 _ 10 136 Tryz.underlying32 hj0 hz0 hz1 hz2 rfl (by decide) (.slice a2 (k + 1) p2) (k + 1) (d1 ++ [oneEC]).flatten (by rfl) (by have h1 := P2.out.2.1; rw [HE2.out] at h1; exact h1) (.slice sa2 (m - k) sc2) (m - k) d2.flatten (by rfl) (D2.out.keeps (K11.out.trans0 G13.out) (fun _ _ h => h)) D2F.out D2O.out (by unfold maxLen; omega) (by omega) (Nat.zero_le _) ?_; intro a3 p3 w14 ha; have A3 := Lib.hid ha; have k14 : Keeps NoBlk w11 w14 := AppOut.keeps ha G13.out (fun q e hq => by have := P2.out.2.2.1 q e; have := HBB.out; omega); have G14 := Lib.hid k14; rw [e9]; clear ha k14 y0 y1 y2 cu)
  have HE3 : Hid ((A.drop k).length = m - k) := by show _ = _; rw [List.length_drop]; have := HM.out; omega
  have P3 : Hid (AcsAt w14 (fun q => F q ∨ (BB ≤ q ∧ q < w14.heap.size)) (insAc k oneE A) a3) := by
    have h := Acc.pushL acOk P2.out HGB.out (by rw [HBB.out]; exact G13.out.size) (ys := A.drop k) (dss := d2) (ad := a3) (cap := p3) (w' := w14) (by rw [D2L.out, HE3.out])
      (fun i y ds e1 e2 => ((D2A.out i y ds (by rw [List.take_of_length_le (by rw [HE3.out]; exact Nat.le_refl _)]; exact e1) e2).keeps (K11.out.trans0 G13.out) (fun _ _ h => h)).mono (fun q hq => .inl hq)) (by decide) (by rw [HE2.out, HE3.out]; exact A3.out)
    obtain ⟨h1, h2⟩ := h.elems acOk rfl
    exact ⟨_, h1, h2⟩
  clear A3 hlen9 e9
  have K14 : Hid (Keeps NoBlk w w14) := K11.out.trans0 G14.out
  have R1 := Lib.hid (R1.out.keeps G14.out (fun h => h))
  have RV := Lib.hid (RV.out.keeps G14.out (fun h => h))
  have OW := Lib.hid (ownsRow_keeps OW.out G14.out (fun _ _ h => h))
  have hTR := RowAt.ofOwns OW.out
  have htl : t * 2 + 1 < (L.flatMap thC).length := by rw [length_cells thC 2 thC_len, HLL.out, ← HN2.out]; omega
  have c1 := hTR.cell GT.out
  have f1 := hTR.free htl
  have HTL := Lib.hid htl
  obtain ⟨v0, v1, v2⟩ := RV.out.three
  clear hTR htl
  go_upto_region 19 with fail
  obtain ⟨L1, hL1⟩ : ∃ z, z = L.set t (rg, .slice a3 (m + 1) p3) := ⟨_, rfl⟩
  have hset : (L.flatMap thC).set (t * 2 + 1) (.slice a3 (m + 1) p3) = L1.flatMap thC := by rw [hL1]; exact set_cells thC 2 thC_len L t 1 (by decide) _ _ (rg, .slice a3 (m + 1) p3) HLT.out rfl
  have how := (World.ownsRow.stored OW.out (t * 2 + 1) (.slice a3 (m + 1) p3)).1
  rw [hset] at how
  have hk18 : Keeps (fun q => q = g) w14 (w14.setCell ⟨g, t * 2 + 1, none⟩ (.slice a3 (m + 1) p3)) := (Keeps.refl (fun q => q = g) w14).setCell (p := ⟨g, t * 2 + 1, none⟩) (fun _ => rfl) _
  generalize w14.setCell ⟨g, t * 2 + 1, none⟩ (.slice a3 (m + 1) p3) = w18 at how hk18 ⊢
  have K18 : Hid (Keeps NoBlk w w18) := K14.out.trans hk18 (fun q hq e => by have e' : q = g := e; have := BD.out; have := HG.out; omega)
  have R1 := Lib.hid (R1.out.keeps hk18 (fun e => by have e' : b1 = g := e; have := BD.out; have := HG.out; omega))
  have RV := Lib.hid (RV.out.keeps hk18 (fun e => by have e' : bv = g := e; have := BD.out; have := HG.out; omega))
  have OW := Lib.hid how
  have S18 : Hid (w14.heap.size ≤ w18.heap.size) := hk18.size
  have S11 : Hid (BB ≤ w14.heap.size) := by rw [HBB.out]; exact G14.out.size
  have U18 : Hid (UnAt w18 (fun q => F q ∨ q = g ∨ (BB ≤ q ∧ q < w14.heap.size)) cs bs1 uca (some ⟨g, 0, none⟩)) := by
    refine ⟨(HN.out.keeps K18.out (fun _ _ h => h)).mono (fun q hq => .inl hq), ?_, fun q hq => ?_⟩
    · have h1 : AcsAt w18 (fun q => F q ∨ q = g ∨ (BB ≤ q ∧ q < w14.heap.size)) (insAc k oneE A) a3 := (P3.out.keeps hk18 (fun q hq e => by
        have e' : q = g := e
        have := BO.out; have := BD.out; have := HG.out
        rcases hq with h | ⟨h, _⟩
        · have := HF.out q h; omega
        · omega)).mono (fun q hq => hq.elim .inl (fun h => .inr (.inr h)))
      have hth : ThAt w18 (fun q => F q ∨ q = g ∨ (BB ≤ q ∧ q < w14.heap.size)) bs L := (HTH.out.keeps K18.out (fun _ _ h => h)).mono (fun q hq => .inl hq)
      have h2 := hth.set t (r := rg) (sc := p3) h1
      rw [insAc_len, ← HM.out, ← hL1, ← HB1.out] at h2
      exact h2.bds (RowAt.ofOwns OW.out) (.inr (.inl rfl))
    · have := BO.out; have := S18.out; have := S11.out; have := K18.out.size
      rcases hq with h | h | ⟨_, h⟩
      · have := HF.out q h; omega
      · omega
      · omega
  have HLS : Hid (L1 = L.set t (rg, .slice a3 (m + 1) p3)) := hL1
  clear v0 v1 v2 c1 f1 hk18 hset how hL1
  obtain ⟨r1, hr1⟩ : ∃ z, z = rightU ⟨cs, mu, bs1⟩ := ⟨_, rfl⟩
  have HRV : Hid (∀ W, Keeps NoBlk w18 W → Calls Tryz.prog 14 #[.agg #[.slice uca n0 ucc, .int .i64 mu, .slice (some ⟨g, 0, none⟩) n2 cap]] W fun e w' => e = .returned (.bool r1) ∧ Keeps NoBlk W w') := fun W hk => by
    have h := (U18.out.keeps0 hk).right (mu := mu) (ucc := ucc) (utc := cap) HOK1.out
    rw [HL1B.out, ← HN2.out, ← HN0.out, ← hr1] at h; exact h
  have HTV : Hid (r1 = true → ∀ W, Keeps NoBlk w18 W → Calls Tryz.prog 8 #[.agg #[.slice uca n0 ucc, .int .i64 mu, .slice (some ⟨g, 0, none⟩) n2 cap]] W fun e w' => e = .returned (.string (tell true (unS bs1))) ∧ Keeps NoBlk W w') := fun hr W hk => by
    have h := (U18.out.keeps0 hk).steps (mu := mu) (ucc := ucc) (utc := cap) HOK1.out (HTB.out.keeps (below_keeps (K18.out.trans0 hk)))
    rw [HL1B.out, ← HN2.out, ← HN0.out, ← hr1, hr] at h; exact h
  have HWV : Hid (r1 = true → ∀ W, Keeps NoBlk w18 W → Calls Tryz.prog 9 #[.agg #[.slice uca n0 ucc, .int .i64 mu, .slice (some ⟨g, 0, none⟩) n2 cap]] W fun e w' => e = .returned (.string (tell true (unW bs1))) ∧ Keeps NoBlk W w') := fun hr W hk => by
    have h := (U18.out.keeps0 hk).work (mu := mu) (ucc := ucc) (utc := cap) HOK1.out (HTB.out.keeps (below_keeps (K18.out.trans0 hk)))
    rw [HL1B.out, ← HN2.out, ← HN0.out, ← hr1, hr] at h; exact h
  have HLE1 : Hid (∀ W, Calls Tryz.prog 16 #[.string (tell true (unS bs1)), .string (tell true sS)] W fun e w' => e = .returned (.bool true) ∧ Keeps NoBlk W w') := fun W => by
    have h := least_law (tell true (unS bs1)) (tell true sS) W
    rw [more_more HG1.out.1] at h; exact h
  have HLE2 : Hid (∀ W, Calls Tryz.prog 16 #[.string (tell true (unW bs1)), .string (tell true sW)] W fun e w' => e = .returned (.bool true) ∧ Keeps NoBlk W w') := fun W => by
    have h := least_law (tell true (unW bs1)) (tell true sW) W
    rw [more_more HG1.out.2] at h; exact h
  generalize tell true (unS bs1) = tS at HTV HLE1
  generalize tell true (unW bs1) = tW at HWV HLE2
  obtain ⟨v0, v1, v2⟩ := RV.out.three
  clear hr1
  have KV : Hid (Keeps NoBlk w18 w18) := Keeps.refl _ _
  cases r1
  · go_upto_region 27 with (go_at_call 14; refine (HRV.out _ KV.out).mono ?_; rintro e w19 ⟨rfl, g0⟩; have KE : Hid (Keeps NoBlk w18 w19) := KV.out.trans0 g0; have c := (RV.out.keeps g0 (fun h => h)).three; clear v0 v1 v2; obtain ⟨v0, v1, v2⟩ := c; have RV := Lib.hid (RV.out.keeps g0 (fun h => h)); have R1 := Lib.hid (R1.out.keeps g0 (fun h => h)); have OW := Lib.hid (ownsRow_keeps OW.out g0 (fun _ _ h => h)); clear g0)
    have K26 : Hid (Keeps NoBlk w w19) := K18.out.trans0 KE.out
    have cu : w19.cell? ⟨gu, ou + t * 2 + 1, none⟩ = some (.slice ba m bc) := K26.out.cell (p := ⟨gu, ou + t * 2 + 1, none⟩) (fun h => h) hct
    have hTR := RowAt.ofOwns OW.out
    have htl : t * 2 + 1 < (L1.flatMap thC).length := by rw [length_cells thC 2 thC_len, HLS.out, List.length_set, HLL.out, ← HN2.out]; omega
    have gt1 : (L1.flatMap thC)[t * 2 + 1]? = some (.slice a3 (m + 1) p3) := by
      have h := get_cells thC 2 thC_len L1 t 1 (by decide)
      rw [HLS.out, List.getElem?_set_self (by rw [HLL.out, ← HN2.out]; exact ht2)] at h
      rw [HLS.out]; exact h
    have c1 := hTR.cell gt1
    have f1 := hTR.free htl
    obtain ⟨y0, y1, y2⟩ := R1.out.three
    clear gt1 hTR
    go_region
    all_goals (try go_upto_region 28 with fail)
    have hset2 : (L1.flatMap thC).set (t * 2 + 1) (.slice ba m bc) = L.flatMap thC := by
      have h := set_cells thC 2 thC_len L1 t 1 (by decide) (.slice ba m bc) (rg, .slice a3 (m + 1) p3) (rg, .slice ba m bc) (by rw [HLS.out, List.getElem?_set_self (by rw [HLL.out, ← HN2.out]; exact ht2)]) rfl
      rw [h, HLS.out, List.set_set]
      obtain ⟨h1, h2⟩ := List.getElem?_eq_some_iff.1 HLT.out
      rw [← h2, List.set_getElem_self]
    have how2 := (World.ownsRow.stored OW.out (t * 2 + 1) (.slice ba m bc)).1.drew
    rw [hset2] at how2
    have hkA : Keeps (fun q => q = g) w19 (w19.setCell ⟨g, t * 2 + 1, none⟩ (.slice ba m bc)).drew := ((Keeps.refl (fun q => q = g) w19).setCell (p := ⟨g, t * 2 + 1, none⟩) (fun _ => rfl) _).drew
    generalize (w19.setCell ⟨g, t * 2 + 1, none⟩ (.slice ba m bc)).drew = wA at how2 hkA ⊢
    have K27 : Hid (Keeps NoBlk w wA) := K26.out.trans hkA (fun q hq e => by have e' : q = g := e; have := BD.out; have := HG.out; omega)
    have RV := Lib.hid (RV.out.keeps hkA (fun e => by have e' : bv = g := e; have := HG.out; omega))
    have OW := Lib.hid how2
    clear y0 y1 y2 v0 v1 v2 c1 f1 cu how2 hset2 hkA htl
    obtain ⟨v0, v1, v2⟩ := RV.out.three
    have f2 := RV.out.free (k := 2) (by simp)
    have hbg : bv < g := by have := HG.out; omega
    go_upto_region 29 with (at_builtin; refine wpList_append_src _ (by rfl) _ _ 23 (by rfl) 0 34 e0 _ 2 32 Tryz.underlying23 he0 hf0 hf1 hf2 rfl (by decide) (.slice (some ⟨g, 0, none⟩) n2 cap) n2 (L.flatMap thC) (by rfl) (ownsRow_keeps OW.out ((Keeps.refl NoBlk wA).alloc _) (fun _ _ h => h)) (.slice (some ⟨wA.heap.size, 0, none⟩) 1 1) 1 [.int .i64 0, .slice none 0 0] (by rfl) (RowAt.src (RowAt.ofBlock (heap_alloc_new wA _))) rfl (by intro q hq; simp only [List.mem_cons, List.not_mem_nil, or_false] at hq; rcases hq with rfl | rfl <;> rfl) (by unfold maxLen; omega) (by omega) (Nat.zero_le _) ?_; intro a4 p4 w28 ha; obtain ⟨g4, c4, e4, _, _⟩ := ha.1.form (by omega); cases e4; have HG4 : Hid (g4 = g ∨ wA.heap.size < g4) := (ha.2.2 g4 rfl).elim (fun h => .inl (by simpa [Value.ownBlock] using h.symm)) (fun h => .inr (by rw [h]; simp)); have k28 : Keeps (fun q => q = g) wA w28 := AppOut.keeps ha ((Keeps.refl (fun q => q = g) wA).alloc _) (fun q e _ => by simpa [Value.ownBlock] using e.symm); have OW4 := Lib.hid ha.1; have K28 := Lib.hid k28; have r8 := RV.out.keeps k28 (fun e => by have e' : bv = g := e; omega); have R8 := Lib.hid r8; have x2 := r8.cell (k := 2) (v := .slice (some ⟨g, 0, none⟩) n2 cap) rfl; have f2' := r8.free (k := 2) (by simp); clear ha k28 r8 v0 v1 v2 f2)
    have hrB : RowAt (w28.setCell ⟨bv, 2, none⟩ (.slice (some ⟨g4, 0, none⟩) (n2 + 1) p4)) bv [.slice uca n0 ucc, .int .i64 mu, .slice (some ⟨g4, 0, none⟩) (n2 + 1) p4] := R8.out.set 2 (by simp) _
    have hkB : Keeps (fun q => q = bv) w28 (w28.setCell ⟨bv, 2, none⟩ (.slice (some ⟨g4, 0, none⟩) (n2 + 1) p4)) := (Keeps.refl (fun q => q = bv) w28).setCell (p := ⟨bv, 2, none⟩) (fun _ => rfl) _
    generalize w28.setCell ⟨bv, 2, none⟩ (.slice (some ⟨g4, 0, none⟩) (n2 + 1) p4) = wB at hrB hkB ⊢
    have hg4 : bv < g4 := by
      have h1 := HG4.out
      have h2 := RV.out.lt (by simp)
      omega
    have KB : Hid (Keeps NoBlk w wB) := (K27.out.trans K28.out (fun q hq e => by have e' : q = g := e; have := BD.out; omega)).trans hkB (fun q hq e => by have e' : q = bv := e; have := BD.out; omega)
    have RV := Lib.hid hrB
    have OW4 := Lib.hid (ownsRow_keeps OW4.out hkB (fun q e hq => by have e' : q = bv := hq; have e2 : g4 = q := (by simpa [Value.ownBlock] using e); omega))
    have UB : Hid (UnAt wB (fun q => F q ∨ q = g4) cs bs2 uca (some ⟨g4, 0, none⟩)) := by
      have hr4 := RowAt.ofOwns OW4.out
      have e5 : L.flatMap thC ++ [Value.int .i64 0, .slice none 0 0] = (L ++ [((0 : Int), Value.slice none 0 0)]).flatMap thC := by simp [List.flatMap_append, thC]
      rw [e5] at hr4
      refine ⟨(HN.out.keeps KB.out (fun _ _ h => h)).mono (fun q hq => .inl hq), ?_, fun q hq => ?_⟩
      · have h2 := (((HTH.out.keeps KB.out (fun _ _ h => h)).mono (F' := fun q => F q ∨ q = g4) (fun q hq => .inl hq))).push
        rw [← HB2.out] at h2
        exact h2.bds hr4 (.inr rfl)
      · rcases hq with h | h
        · have := HF.out q h; have := KB.out.size; omega
        · rw [h]; exact hr4.lt (by simp [List.flatMap_append, thC])
    clear hrB hkB hg4 hbg x2 f2' R8
    obtain ⟨v0, v1, v2⟩ := RV.out.three
    obtain ⟨r2, hr2⟩ : ∃ z, z = rightU ⟨cs, mu, bs2⟩ := ⟨_, rfl⟩
    have HRX : Hid (∀ W, Keeps NoBlk wB W → Calls Tryz.prog 14 #[.agg #[.slice uca n0 ucc, .int .i64 mu, .slice (some ⟨g4, 0, none⟩) (n2 + 1) p4]] W fun e w' => e = .returned (.bool r2) ∧ Keeps NoBlk W w') := fun W hk => by
      have h := (UB.out.keeps0 hk).right (mu := mu) (ucc := ucc) (utc := p4) HOK2.out
      rw [HL2B.out, ← HN2.out, ← HN0.out, ← hr2] at h; exact h
    have HTX : Hid (r2 = true → ∀ W, Keeps NoBlk wB W → Calls Tryz.prog 8 #[.agg #[.slice uca n0 ucc, .int .i64 mu, .slice (some ⟨g4, 0, none⟩) (n2 + 1) p4]] W fun e w' => e = .returned (.string (tell true (unS bs2))) ∧ Keeps NoBlk W w') := fun hr W hk => by
      have h := (UB.out.keeps0 hk).steps (mu := mu) (ucc := ucc) (utc := p4) HOK2.out (HTB.out.keeps (below_keeps (KB.out.trans0 hk)))
      rw [HL2B.out, ← HN2.out, ← HN0.out, ← hr2, hr] at h; exact h
    have HWX : Hid (r2 = true → ∀ W, Keeps NoBlk wB W → Calls Tryz.prog 9 #[.agg #[.slice uca n0 ucc, .int .i64 mu, .slice (some ⟨g4, 0, none⟩) (n2 + 1) p4]] W fun e w' => e = .returned (.string (tell true (unW bs2))) ∧ Keeps NoBlk W w') := fun hr W hk => by
      have h := (UB.out.keeps0 hk).work (mu := mu) (ucc := ucc) (utc := p4) HOK2.out (HTB.out.keeps (below_keeps (KB.out.trans0 hk)))
      rw [HL2B.out, ← HN2.out, ← HN0.out, ← hr2, hr] at h; exact h
    have HAB1 : Hid (∀ W, Calls Tryz.prog 15 #[.string (tell true (unS bs2)), .string (tell true sS)] W fun e w' => e = .returned (.bool true) ∧ Keeps NoBlk W w') := fun W => by
      have h := above_law (tell true (unS bs2)) (tell true sS) W
      rw [more_less HG2.out.1] at h; exact h
    have HAB2 : Hid (∀ W, Calls Tryz.prog 15 #[.string (tell true (unW bs2)), .string (tell true sW)] W fun e w' => e = .returned (.bool true) ∧ Keeps NoBlk W w') := fun W => by
      have h := above_law (tell true (unW bs2)) (tell true sW) W
      rw [more_less HG2.out.2] at h; exact h
    generalize tell true (unS bs2) = uS at HTX HAB1
    generalize tell true (unW bs2) = uW at HWX HAB2
    clear hr2
    cases r2
    · go_wp2_with (go_at_call 14; refine (HRX.out _ (Keeps.refl _ _)).mono ?_; rintro e w31 ⟨rfl, g0⟩; have K31 : Hid (Keeps NoBlk w w31) := KB.out.trans0 g0; have c := (RV.out.keeps g0 (fun h => h)).three; clear v0 v1 v2; obtain ⟨v0, v1, v2⟩ := c; have RV := Lib.hid (RV.out.keeps g0 (fun h => h)); clear g0)
      go_ret
      exact ⟨rfl, K31.out⟩
    · have HTU := Lib.hid (HTX.out rfl)
      have HWU := Lib.hid (HWX.out rfl)
      clear HTX HWX
      have KBB : Hid (Keeps NoBlk wB wB) := Keeps.refl _ _
      go_upto_region 32 with (go_at_call 14; refine (HRX.out _ KBB.out).mono ?_; rintro e w31 ⟨rfl, g0⟩; have K31 : Hid (Keeps NoBlk wB w31) := KBB.out.trans0 g0; have c := (RV.out.keeps g0 (fun h => h)).three; clear v0 v1 v2; obtain ⟨v0, v1, v2⟩ := c; have RV := Lib.hid (RV.out.keeps g0 (fun h => h)); clear g0)
      go_upto_region 33 with (go_at_call 8; refine (HTU.out _ K31.out).mono ?_; rintro e w32 ⟨rfl, g0⟩; have K32 : Hid (Keeps NoBlk wB w32) := K31.out.trans0 g0; have c := (RV.out.keeps g0 (fun h => h)).three; clear v0 v1 v2; obtain ⟨v0, v1, v2⟩ := c; have RV := Lib.hid (RV.out.keeps g0 (fun h => h)); clear g0)
      go_upto_region 34 with (go_at_call 9; refine (HWU.out _ K32.out).mono ?_; rintro e w33 ⟨rfl, g0⟩; have K33 : Hid (Keeps NoBlk wB w33) := K32.out.trans0 g0; have c := (RV.out.keeps g0 (fun h => h)).three; clear v0 v1 v2; obtain ⟨v0, v1, v2⟩ := c; have RV := Lib.hid (RV.out.keeps g0 (fun h => h)); clear g0)
      go_upto_region 35 with (go_at_call 15; refine (HAB1.out _).mono ?_; rintro e w34 ⟨rfl, g0⟩; have K34 : Hid (Keeps NoBlk wB w34) := K33.out.trans0 g0; have c := (RV.out.keeps g0 (fun h => h)).three; clear v0 v1 v2; obtain ⟨v0, v1, v2⟩ := c; have RV := Lib.hid (RV.out.keeps g0 (fun h => h)); clear g0)
      go_wp2_with (go_at_call 15; refine (HAB2.out _).mono ?_; rintro e w35 ⟨rfl, g0⟩; have K35 : Hid (Keeps NoBlk wB w35) := K34.out.trans0 g0; have c := (RV.out.keeps g0 (fun h => h)).three; clear v0 v1 v2; obtain ⟨v0, v1, v2⟩ := c; have RV := Lib.hid (RV.out.keeps g0 (fun h => h)); clear g0)
      go_ret
      exact ⟨rfl, KB.out.trans0 K35.out⟩
  · have HTU := Lib.hid (HTV.out rfl)
    have HWU := Lib.hid (HWV.out rfl)
    clear HTV HWV
    go_upto_region 21 with (go_at_call 14; refine (HRV.out _ KV.out).mono ?_; rintro e w19 ⟨rfl, g0⟩; have K19 : Hid (Keeps NoBlk w18 w19) := KV.out.trans0 g0; have c := (RV.out.keeps g0 (fun h => h)).three; clear v0 v1 v2; obtain ⟨v0, v1, v2⟩ := c; have RV := Lib.hid (RV.out.keeps g0 (fun h => h)); have R1 := Lib.hid (R1.out.keeps g0 (fun h => h)); have OW := Lib.hid (ownsRow_keeps OW.out g0 (fun _ _ h => h)); clear g0)
    go_upto_region 22 with (go_at_call 8; refine (HTU.out _ K19.out).mono ?_; rintro e w20 ⟨rfl, g0⟩; have K20 : Hid (Keeps NoBlk w18 w20) := K19.out.trans0 g0; have c := (RV.out.keeps g0 (fun h => h)).three; clear v0 v1 v2; obtain ⟨v0, v1, v2⟩ := c; have RV := Lib.hid (RV.out.keeps g0 (fun h => h)); have R1 := Lib.hid (R1.out.keeps g0 (fun h => h)); have OW := Lib.hid (ownsRow_keeps OW.out g0 (fun _ _ h => h)); clear g0)
    go_upto_region 23 with (go_at_call 9; refine (HWU.out _ K20.out).mono ?_; rintro e w21 ⟨rfl, g0⟩; have K21 : Hid (Keeps NoBlk w18 w21) := K20.out.trans0 g0; have c := (RV.out.keeps g0 (fun h => h)).three; clear v0 v1 v2; obtain ⟨v0, v1, v2⟩ := c; have RV := Lib.hid (RV.out.keeps g0 (fun h => h)); have R1 := Lib.hid (R1.out.keeps g0 (fun h => h)); have OW := Lib.hid (ownsRow_keeps OW.out g0 (fun _ _ h => h)); clear g0)
    go_upto_region 24 with (go_at_call 16; refine (HLE1.out _).mono ?_; rintro e w22 ⟨rfl, g0⟩; have K22 : Hid (Keeps NoBlk w18 w22) := K21.out.trans0 g0; have c := (RV.out.keeps g0 (fun h => h)).three; clear v0 v1 v2; obtain ⟨v0, v1, v2⟩ := c; have RV := Lib.hid (RV.out.keeps g0 (fun h => h)); have R1 := Lib.hid (R1.out.keeps g0 (fun h => h)); have OW := Lib.hid (ownsRow_keeps OW.out g0 (fun _ _ h => h)); clear g0)
    go_upto_region 27 with (go_at_call 16; refine (HLE2.out _).mono ?_; rintro e w23 ⟨rfl, g0⟩; have KE : Hid (Keeps NoBlk w18 w23) := K22.out.trans0 g0; have c := (RV.out.keeps g0 (fun h => h)).three; clear v0 v1 v2; obtain ⟨v0, v1, v2⟩ := c; have RV := Lib.hid (RV.out.keeps g0 (fun h => h)); have R1 := Lib.hid (R1.out.keeps g0 (fun h => h)); have OW := Lib.hid (ownsRow_keeps OW.out g0 (fun _ _ h => h)); clear g0)
    have K26 : Hid (Keeps NoBlk w w23) := K18.out.trans0 KE.out
    have cu : w23.cell? ⟨gu, ou + t * 2 + 1, none⟩ = some (.slice ba m bc) := K26.out.cell (p := ⟨gu, ou + t * 2 + 1, none⟩) (fun h => h) hct
    have hTR := RowAt.ofOwns OW.out
    have htl : t * 2 + 1 < (L1.flatMap thC).length := by rw [length_cells thC 2 thC_len, HLS.out, List.length_set, HLL.out, ← HN2.out]; omega
    have gt1 : (L1.flatMap thC)[t * 2 + 1]? = some (.slice a3 (m + 1) p3) := by
      have h := get_cells thC 2 thC_len L1 t 1 (by decide)
      rw [HLS.out, List.getElem?_set_self (by rw [HLL.out, ← HN2.out]; exact ht2)] at h
      rw [HLS.out]; exact h
    have c1 := hTR.cell gt1
    have f1 := hTR.free htl
    obtain ⟨y0, y1, y2⟩ := R1.out.three
    clear gt1 hTR
    go_region
    all_goals (try go_upto_region 28 with fail)
    have hset2 : (L1.flatMap thC).set (t * 2 + 1) (.slice ba m bc) = L.flatMap thC := by
      have h := set_cells thC 2 thC_len L1 t 1 (by decide) (.slice ba m bc) (rg, .slice a3 (m + 1) p3) (rg, .slice ba m bc) (by rw [HLS.out, List.getElem?_set_self (by rw [HLL.out, ← HN2.out]; exact ht2)]) rfl
      rw [h, HLS.out, List.set_set]
      obtain ⟨h1, h2⟩ := List.getElem?_eq_some_iff.1 HLT.out
      rw [← h2, List.set_getElem_self]
    have how2 := (World.ownsRow.stored OW.out (t * 2 + 1) (.slice ba m bc)).1.drew
    rw [hset2] at how2
    have hkA : Keeps (fun q => q = g) w23 (w23.setCell ⟨g, t * 2 + 1, none⟩ (.slice ba m bc)).drew := ((Keeps.refl (fun q => q = g) w23).setCell (p := ⟨g, t * 2 + 1, none⟩) (fun _ => rfl) _).drew
    generalize (w23.setCell ⟨g, t * 2 + 1, none⟩ (.slice ba m bc)).drew = wA at how2 hkA ⊢
    have K27 : Hid (Keeps NoBlk w wA) := K26.out.trans hkA (fun q hq e => by have e' : q = g := e; have := BD.out; have := HG.out; omega)
    have RV := Lib.hid (RV.out.keeps hkA (fun e => by have e' : bv = g := e; have := HG.out; omega))
    have OW := Lib.hid how2
    clear y0 y1 y2 v0 v1 v2 c1 f1 cu how2 hset2 hkA htl
    obtain ⟨v0, v1, v2⟩ := RV.out.three
    have f2 := RV.out.free (k := 2) (by simp)
    have hbg : bv < g := by have := HG.out; omega
    go_upto_region 29 with (at_builtin; refine wpList_append_src _ (by rfl) _ _ 23 (by rfl) 0 34 e0 _ 2 32 Tryz.underlying23 he0 hf0 hf1 hf2 rfl (by decide) (.slice (some ⟨g, 0, none⟩) n2 cap) n2 (L.flatMap thC) (by rfl) (ownsRow_keeps OW.out ((Keeps.refl NoBlk wA).alloc _) (fun _ _ h => h)) (.slice (some ⟨wA.heap.size, 0, none⟩) 1 1) 1 [.int .i64 0, .slice none 0 0] (by rfl) (RowAt.src (RowAt.ofBlock (heap_alloc_new wA _))) rfl (by intro q hq; simp only [List.mem_cons, List.not_mem_nil, or_false] at hq; rcases hq with rfl | rfl <;> rfl) (by unfold maxLen; omega) (by omega) (Nat.zero_le _) ?_; intro a4 p4 w28 ha; obtain ⟨g4, c4, e4, _, _⟩ := ha.1.form (by omega); cases e4; have HG4 : Hid (g4 = g ∨ wA.heap.size < g4) := (ha.2.2 g4 rfl).elim (fun h => .inl (by simpa [Value.ownBlock] using h.symm)) (fun h => .inr (by rw [h]; simp)); have k28 : Keeps (fun q => q = g) wA w28 := AppOut.keeps ha ((Keeps.refl (fun q => q = g) wA).alloc _) (fun q e _ => by simpa [Value.ownBlock] using e.symm); have OW4 := Lib.hid ha.1; have K28 := Lib.hid k28; have r8 := RV.out.keeps k28 (fun e => by have e' : bv = g := e; omega); have R8 := Lib.hid r8; have x2 := r8.cell (k := 2) (v := .slice (some ⟨g, 0, none⟩) n2 cap) rfl; have f2' := r8.free (k := 2) (by simp); clear ha k28 r8 v0 v1 v2 f2)
    have hrB : RowAt (w28.setCell ⟨bv, 2, none⟩ (.slice (some ⟨g4, 0, none⟩) (n2 + 1) p4)) bv [.slice uca n0 ucc, .int .i64 mu, .slice (some ⟨g4, 0, none⟩) (n2 + 1) p4] := R8.out.set 2 (by simp) _
    have hkB : Keeps (fun q => q = bv) w28 (w28.setCell ⟨bv, 2, none⟩ (.slice (some ⟨g4, 0, none⟩) (n2 + 1) p4)) := (Keeps.refl (fun q => q = bv) w28).setCell (p := ⟨bv, 2, none⟩) (fun _ => rfl) _
    generalize w28.setCell ⟨bv, 2, none⟩ (.slice (some ⟨g4, 0, none⟩) (n2 + 1) p4) = wB at hrB hkB ⊢
    have hg4 : bv < g4 := by
      have h1 := HG4.out
      have h2 := RV.out.lt (by simp)
      omega
    have KB : Hid (Keeps NoBlk w wB) := (K27.out.trans K28.out (fun q hq e => by have e' : q = g := e; have := BD.out; omega)).trans hkB (fun q hq e => by have e' : q = bv := e; have := BD.out; omega)
    have RV := Lib.hid hrB
    have OW4 := Lib.hid (ownsRow_keeps OW4.out hkB (fun q e hq => by have e' : q = bv := hq; have e2 : g4 = q := (by simpa [Value.ownBlock] using e); omega))
    have UB : Hid (UnAt wB (fun q => F q ∨ q = g4) cs bs2 uca (some ⟨g4, 0, none⟩)) := by
      have hr4 := RowAt.ofOwns OW4.out
      have e5 : L.flatMap thC ++ [Value.int .i64 0, .slice none 0 0] = (L ++ [((0 : Int), Value.slice none 0 0)]).flatMap thC := by simp [List.flatMap_append, thC]
      rw [e5] at hr4
      refine ⟨(HN.out.keeps KB.out (fun _ _ h => h)).mono (fun q hq => .inl hq), ?_, fun q hq => ?_⟩
      · have h2 := (((HTH.out.keeps KB.out (fun _ _ h => h)).mono (F' := fun q => F q ∨ q = g4) (fun q hq => .inl hq))).push
        rw [← HB2.out] at h2
        exact h2.bds hr4 (.inr rfl)
      · rcases hq with h | h
        · have := HF.out q h; have := KB.out.size; omega
        · rw [h]; exact hr4.lt (by simp [List.flatMap_append, thC])
    clear hrB hkB hg4 hbg x2 f2' R8
    obtain ⟨v0, v1, v2⟩ := RV.out.three
    obtain ⟨r2, hr2⟩ : ∃ z, z = rightU ⟨cs, mu, bs2⟩ := ⟨_, rfl⟩
    have HRX : Hid (∀ W, Keeps NoBlk wB W → Calls Tryz.prog 14 #[.agg #[.slice uca n0 ucc, .int .i64 mu, .slice (some ⟨g4, 0, none⟩) (n2 + 1) p4]] W fun e w' => e = .returned (.bool r2) ∧ Keeps NoBlk W w') := fun W hk => by
      have h := (UB.out.keeps0 hk).right (mu := mu) (ucc := ucc) (utc := p4) HOK2.out
      rw [HL2B.out, ← HN2.out, ← HN0.out, ← hr2] at h; exact h
    have HTX : Hid (r2 = true → ∀ W, Keeps NoBlk wB W → Calls Tryz.prog 8 #[.agg #[.slice uca n0 ucc, .int .i64 mu, .slice (some ⟨g4, 0, none⟩) (n2 + 1) p4]] W fun e w' => e = .returned (.string (tell true (unS bs2))) ∧ Keeps NoBlk W w') := fun hr W hk => by
      have h := (UB.out.keeps0 hk).steps (mu := mu) (ucc := ucc) (utc := p4) HOK2.out (HTB.out.keeps (below_keeps (KB.out.trans0 hk)))
      rw [HL2B.out, ← HN2.out, ← HN0.out, ← hr2, hr] at h; exact h
    have HWX : Hid (r2 = true → ∀ W, Keeps NoBlk wB W → Calls Tryz.prog 9 #[.agg #[.slice uca n0 ucc, .int .i64 mu, .slice (some ⟨g4, 0, none⟩) (n2 + 1) p4]] W fun e w' => e = .returned (.string (tell true (unW bs2))) ∧ Keeps NoBlk W w') := fun hr W hk => by
      have h := (UB.out.keeps0 hk).work (mu := mu) (ucc := ucc) (utc := p4) HOK2.out (HTB.out.keeps (below_keeps (KB.out.trans0 hk)))
      rw [HL2B.out, ← HN2.out, ← HN0.out, ← hr2, hr] at h; exact h
    have HAB1 : Hid (∀ W, Calls Tryz.prog 15 #[.string (tell true (unS bs2)), .string (tell true sS)] W fun e w' => e = .returned (.bool true) ∧ Keeps NoBlk W w') := fun W => by
      have h := above_law (tell true (unS bs2)) (tell true sS) W
      rw [more_less HG2.out.1] at h; exact h
    have HAB2 : Hid (∀ W, Calls Tryz.prog 15 #[.string (tell true (unW bs2)), .string (tell true sW)] W fun e w' => e = .returned (.bool true) ∧ Keeps NoBlk W w') := fun W => by
      have h := above_law (tell true (unW bs2)) (tell true sW) W
      rw [more_less HG2.out.2] at h; exact h
    generalize tell true (unS bs2) = uS at HTX HAB1
    generalize tell true (unW bs2) = uW at HWX HAB2
    clear hr2
    cases r2
    · go_wp2_with (go_at_call 14; refine (HRX.out _ (Keeps.refl _ _)).mono ?_; rintro e w31 ⟨rfl, g0⟩; have K31 : Hid (Keeps NoBlk w w31) := KB.out.trans0 g0; have c := (RV.out.keeps g0 (fun h => h)).three; clear v0 v1 v2; obtain ⟨v0, v1, v2⟩ := c; have RV := Lib.hid (RV.out.keeps g0 (fun h => h)); clear g0)
      go_ret
      exact ⟨rfl, K31.out⟩
    · have HTU := Lib.hid (HTX.out rfl)
      have HWU := Lib.hid (HWX.out rfl)
      clear HTX HWX
      have KBB : Hid (Keeps NoBlk wB wB) := Keeps.refl _ _
      go_upto_region 32 with (go_at_call 14; refine (HRX.out _ KBB.out).mono ?_; rintro e w31 ⟨rfl, g0⟩; have K31 : Hid (Keeps NoBlk wB w31) := KBB.out.trans0 g0; have c := (RV.out.keeps g0 (fun h => h)).three; clear v0 v1 v2; obtain ⟨v0, v1, v2⟩ := c; have RV := Lib.hid (RV.out.keeps g0 (fun h => h)); clear g0)
      go_upto_region 33 with (go_at_call 8; refine (HTU.out _ K31.out).mono ?_; rintro e w32 ⟨rfl, g0⟩; have K32 : Hid (Keeps NoBlk wB w32) := K31.out.trans0 g0; have c := (RV.out.keeps g0 (fun h => h)).three; clear v0 v1 v2; obtain ⟨v0, v1, v2⟩ := c; have RV := Lib.hid (RV.out.keeps g0 (fun h => h)); clear g0)
      go_upto_region 34 with (go_at_call 9; refine (HWU.out _ K32.out).mono ?_; rintro e w33 ⟨rfl, g0⟩; have K33 : Hid (Keeps NoBlk wB w33) := K32.out.trans0 g0; have c := (RV.out.keeps g0 (fun h => h)).three; clear v0 v1 v2; obtain ⟨v0, v1, v2⟩ := c; have RV := Lib.hid (RV.out.keeps g0 (fun h => h)); clear g0)
      go_upto_region 35 with (go_at_call 15; refine (HAB1.out _).mono ?_; rintro e w34 ⟨rfl, g0⟩; have K34 : Hid (Keeps NoBlk wB w34) := K33.out.trans0 g0; have c := (RV.out.keeps g0 (fun h => h)).three; clear v0 v1 v2; obtain ⟨v0, v1, v2⟩ := c; have RV := Lib.hid (RV.out.keeps g0 (fun h => h)); clear g0)
      go_wp2_with (go_at_call 15; refine (HAB2.out _).mono ?_; rintro e w35 ⟨rfl, g0⟩; have K35 : Hid (Keeps NoBlk wB w35) := K34.out.trans0 g0; have c := (RV.out.keeps g0 (fun h => h)).three; clear v0 v1 v2; obtain ⟨v0, v1, v2⟩ := c; have RV := Lib.hid (RV.out.keeps g0 (fun h => h)); clear g0)
      go_ret
      exact ⟨rfl, KB.out.trans0 K35.out⟩
end Go.Proofs.YtbkkpcignmcjnaaGreatDoor

/- Layer 7: the walk of BoundMore, at odd places. Printed by genmore.py. -/
namespace Go.Proofs.YtbkkpcignmcjnaaGreatDoor
open Go.RowKit
set_option linter.unusedVariables false
set_option linter.unusedSimpArgs false
set_option linter.unnecessarySimpa false

set_option maxRecDepth 8000 in
set_option maxHeartbeats 8000000 in
theorem more_odd (cs : List Int) (mu : Int) (bs : List Bd) (w : World) (F : Nat → Prop) (uca : Option Addr) (gu ou : Nat) (ucc utc : Nat) (th at_ : Int) (t k : Nat) (hN : NumsAt w F cs uca) (hF : ∀ q, F q → q < w.heap.size) (ok : UnOk2 cs bs) (hr : rightU ⟨cs, mu, bs⟩ = true)
    (q1 : 0 ≤ th) (q2 : 0 ≤ at_) (ht : t < bs.length) (hb8 : bs.length ≤ 8) (hrt : Int.tmod th (bs.length : Int) = (t : Int)) (m bc : Nat) (ba : Option Addr) (hm : m = bs[t].acts.length) (hrk : Int.tmod at_ ((m : Int) + 1) = (k : Int)) (hkm : k ≤ m) (hmc : m ≤ bc) (hro : Int.tmod at_ 2 = 1)
    (L : List (Int × Value)) (hT : ThAt w F bs L) (hS : SrcAt w (.slice (some ⟨gu, ou, none⟩) bs.length utc) bs.length (L.flatMap thC)) (hO : ∀ u ∈ L.flatMap thC, u.oneCell' = true) (hgu : F gu) (hLt : L[t]? = some (bs[t].regs, .slice ba m bc)) (hct : w.cell? ⟨gu, ou + t * 2 + 1, none⟩ = some (.slice ba m bc)) (hA : AcsAt w F bs[t].acts ba)
    (hU : UnAt w F cs bs uca (some ⟨gu, ou, none⟩)) (htab : TabP w) :
    Calls Tryz.prog 6 #[.agg #[.slice uca cs.length ucc, .int .i64 mu, .slice (some ⟨gu, ou, none⟩) bs.length utc], .int .i64 th, .int .i64 at_] w fun e w' => e = .returned (.bool true) ∧ Keeps NoBlk w w' := by
  have HS : Hid (∀ W, Keeps NoBlk w W → Calls Tryz.prog 7 #[] W fun e w' => e = .returned (.bool true) ∧ Keeps NoBlk W w') := fun W hk => shown_any W (htab.keeps (below_keeps hk))
  obtain ⟨sS, hsS⟩ : ∃ z, z = unS bs := ⟨_, rfl⟩
  obtain ⟨sW, hsW⟩ : ∃ z, z = unW bs := ⟨_, rfl⟩
  have HR : Hid (∀ W, Keeps NoBlk w W → Calls Tryz.prog 14 #[.agg #[.slice uca cs.length ucc, .int .i64 mu, .slice (some ⟨gu, ou, none⟩) bs.length utc]] W fun e w' => e = .returned (.bool true) ∧ Keeps NoBlk W w') := fun W hk => by
    have := (hU.keeps0 hk).right (mu := mu) (ucc := ucc) (utc := utc) ok.ok
    rw [hr] at this; exact this
  have HT : Hid (∀ W, Keeps NoBlk w W → Calls Tryz.prog 8 #[.agg #[.slice uca cs.length ucc, .int .i64 mu, .slice (some ⟨gu, ou, none⟩) bs.length utc]] W fun e w' => e = .returned (.string (tell true sS)) ∧ Keeps NoBlk W w') := fun W hk => by
    have := (hU.keeps0 hk).steps (mu := mu) (ucc := ucc) (utc := utc) ok.ok (htab.keeps (below_keeps hk))
    rw [hr, ← hsS] at this; exact this
  have HW : Hid (∀ W, Keeps NoBlk w W → Calls Tryz.prog 9 #[.agg #[.slice uca cs.length ucc, .int .i64 mu, .slice (some ⟨gu, ou, none⟩) bs.length utc]] W fun e w' => e = .returned (.string (tell true sW)) ∧ Keeps NoBlk W w') := fun W hk => by
    have := (hU.keeps0 hk).work (mu := mu) (ucc := ucc) (utc := utc) ok.ok (htab.keeps (below_keeps hk))
    rw [hr, ← hsW] at this; exact this
  obtain ⟨sa1, HL1, hs1⟩ := act_pre (ba := ba) hkm hmc
  obtain ⟨sa2, sc2, HL2, hs2⟩ := act_post (ba := ba) hkm hmc
  obtain ⟨n0, hn0⟩ : ∃ z, z = cs.length := ⟨_, rfl⟩
  obtain ⟨n2, hn2⟩ : ∃ z, z = bs.length := ⟨_, rfl⟩
  have hm2 : m < 800000000 := by
    have h1 := Ac.len_le bs[t].acts
    have h2 := bsSz_mem (List.getElem_mem ht)
    have h3 := ok.sz
    omega
  obtain ⟨rg, hrg⟩ : ∃ z, z = bs[t].regs := ⟨_, rfl⟩
  obtain ⟨A, hAA⟩ : ∃ z, z = bs[t].acts := ⟨_, rfl⟩
  rw [← hAA] at hA hm
  rw [← hrg] at hLt
  obtain ⟨bs1, hbs1⟩ : ∃ z, z = bs.set t ⟨rg, insAc k oneO A⟩ := ⟨_, rfl⟩
  obtain ⟨bs2, hbs2⟩ : ∃ z, z = bs ++ [(⟨0, []⟩ : Bd)] := ⟨_, rfl⟩
  have HOK1 : Hid (UnOk cs bs1) := by rw [hbs1, hAA]; exact ok.set ht k oneO_ok.1 oneO_ok.2 rg
  have HOK2 : Hid (UnOk cs bs2) := by rw [hbs2]; exact ok.push
  have HG1 : Hid (sS ≤ unS bs1 ∧ sW ≤ unW bs1) := by
    have h1 := unS_set bs t ht ⟨rg, insAc k oneO A⟩
    have h2 := unW_set bs t ht ⟨rg, insAc k oneO A⟩
    have h3 := insAc_stp k oneO A
    have h4 := insAc_wrk k oneO A
    rw [← hbs1, ← hAA] at h1 h2
    exact ⟨by simp only at h1; omega, by simp only at h2; omega⟩
  have HG2 : Hid (sS < unS bs2 ∧ sW < unW bs2) := by
    rw [hbs2, unS_append, unW_append, hsS, hsW]
    simp only [unS, unW]
    exact ⟨by omega, by omega⟩
  have HB1 := Lib.hid hbs1
  have HB2 := Lib.hid hbs2
  have HL1B : Hid (bs1.length = bs.length) := by show _ = _; rw [hbs1]; simp
  have HL2B : Hid (bs2.length = bs.length + 1) := by show _ = _; rw [hbs2]; simp
  clear hbs1 hbs2 hrg hAA
  have HF := Lib.hid hF
  have HN := Lib.hid hN
  have HTH := Lib.hid hT
  have HSR := Lib.hid hS
  have HON := Lib.hid hO
  have HLT := Lib.hid hLt
  have HAC := Lib.hid hA
  have HTB := Lib.hid htab
  have HM := Lib.hid hm
  have HGU := Lib.hid hgu
  have HS1 := Lib.hid hs1
  have HS2 := Lib.hid hs2
  have HN0 := Lib.hid hn0
  have HN2 := Lib.hid hn2
  have HLL := Lib.hid hT.1
  rw [← hn0] at HR HT HW ⊢
  rw [← hn2] at HR HT HW HSR hrt hb8 ⊢
  have ht2 : t < n2 := by rw [hn2]; exact ht
  clear hF hN hT hS hO hLt hA htab ok hm hgu hs1 hs2 hU hr hsS hsW ht hn0 hn2
  have z0 : decide (th < 0) = false := decide_eq_false (by omega)
  have z1 : decide (at_ < 0) = false := decide_eq_false (by omega)
  have z2 : ¬ (n2 : Int) = 0 := by omega
  have z3 : ((n2 : Int) == 0) = false := beq_false_of_ne z2
  have z4 : ¬ ((m : Int) + 1) = 0 := by omega
  have z5 : (((m : Int) + 1) == 0) = false := beq_false_of_ne z4
  have z6 : IntKind.i64.wrap ((m : Int) + 1) = (m : Int) + 1 := wrap_small _ (by omega) (by omega)
  have i1 : (0 : Int) ≤ t := by omega
  have i2 : (t : Int) < n2 := by omega
  have i3 : (0 : Int) ≤ k := by omega
  have i4 : (k : Int) ≤ m := by omega
  obtain ⟨j0, hj0, hz0, hz1, hz2⟩ := info_parts infoAct
  obtain ⟨e0, he0, hf0, hf1, hf2⟩ := info_parts infoBody
  go_enter Tryz.func6, Tryz.ntmps6
  go_upto_region 1 with fail
  obtain ⟨b1, hb1⟩ : ∃ z, z = w.heap.size := ⟨_, rfl⟩
  have hr1 : RowAt (w.alloc (.cells #[.slice uca n0 ucc, .int .i64 mu, .slice (some ⟨gu, ou, none⟩) n2 utc] 25)) b1 [.slice uca n0 ucc, .int .i64 mu, .slice (some ⟨gu, ou, none⟩) n2 utc] := by rw [hb1]; exact RowAt.ofBlock (heap_alloc_new w _)
  have hk1 : Keeps NoBlk w (w.alloc (.cells #[.slice uca n0 ucc, .int .i64 mu, .slice (some ⟨gu, ou, none⟩) n2 utc] 25)) := (Keeps.refl _ _).alloc _
  have hs1 : (w.alloc (.cells #[.slice uca n0 ucc, .int .i64 mu, .slice (some ⟨gu, ou, none⟩) n2 utc] 25)).heap.size = w.heap.size + 1 := by simp
  rw [← hb1]
  generalize w.alloc (.cells #[.slice uca n0 ucc, .int .i64 mu, .slice (some ⟨gu, ou, none⟩) n2 utc] 25) = w1 at hr1 hk1 hs1 ⊢
  have R1 := Lib.hid hr1
  have K1 := Lib.hid hk1
  have B1 : Hid (b1 = w.heap.size ∧ w1.heap.size = w.heap.size + 1) := ⟨hb1, hs1⟩
  obtain ⟨y0, y1, y2⟩ := hr1.three
  clear hr1 hk1 hb1 hs1
  go_upto_region 2 with (go_at_call 7; refine (HS.out _ K1.out).mono ?_; rintro e w2 ⟨rfl, g0⟩; have K2 : Hid (Keeps NoBlk w w2) := K1.out.trans0 g0; have c := (R1.out.keeps g0 (fun h => h)).three; clear y0 y1 y2; obtain ⟨y0, y1, y2⟩ := c; have R1 := Lib.hid (R1.out.keeps g0 (fun h => h)); clear g0)
  go_upto_region 5 with (go_at_call 14; refine (HR.out _ K2.out).mono ?_; rintro e w3 ⟨rfl, g0⟩; have K3 : Hid (Keeps NoBlk w w3) := K2.out.trans0 g0; have c := (R1.out.keeps g0 (fun h => h)).three; clear y0 y1 y2; obtain ⟨y0, y1, y2⟩ := c; have R1 := Lib.hid (R1.out.keeps g0 (fun h => h)); clear g0)
  go_upto_region 6 with (go_at_call 8; refine (HT.out _ K3.out).mono ?_; rintro e w4 ⟨rfl, g0⟩; have K4 : Hid (Keeps NoBlk w w4) := K3.out.trans0 g0; have c := (R1.out.keeps g0 (fun h => h)).three; clear y0 y1 y2; obtain ⟨y0, y1, y2⟩ := c; have R1 := Lib.hid (R1.out.keeps g0 (fun h => h)); clear g0)
  go_upto_region 7 with (go_at_call 9; refine (HW.out _ K4.out).mono ?_; rintro e w5 ⟨rfl, g0⟩; have K5 : Hid (Keeps NoBlk w w5) := K4.out.trans0 g0; have c := (R1.out.keeps g0 (fun h => h)).three; clear y0 y1 y2; obtain ⟨y0, y1, y2⟩ := c; have R1 := Lib.hid (R1.out.keeps g0 (fun h => h)); clear g0)
  go_upto_region 8 with fail
  obtain ⟨bv, hbv⟩ : ∃ z, z = w5.heap.size := ⟨_, rfl⟩
  have hrv : RowAt (w5.alloc (.cells #[.slice uca n0 ucc, .int .i64 mu, .slice none 0 0] 25)) bv [.slice uca n0 ucc, .int .i64 mu, .slice none 0 0] := by rw [hbv]; exact RowAt.ofBlock (heap_alloc_new w5 _)
  have hkv : Keeps NoBlk w5 (w5.alloc (.cells #[.slice uca n0 ucc, .int .i64 mu, .slice none 0 0] 25)) := (Keeps.refl _ _).alloc _
  have hsv : (w5.alloc (.cells #[.slice uca n0 ucc, .int .i64 mu, .slice none 0 0] 25)).heap.size = w5.heap.size + 1 := by simp
  rw [← hbv]
  generalize w5.alloc (.cells #[.slice uca n0 ucc, .int .i64 mu, .slice none 0 0] 25) = w7 at hrv hkv hsv ⊢
  have BD : Hid (w.heap.size ≤ b1 ∧ b1 < bv ∧ w7.heap.size = bv + 1) := by
    have h1 := R1.out.lt (by simp)
    have h2 := B1.out
    show _ ∧ _ ∧ _
    exact ⟨by omega, by omega, by omega⟩
  have K7 : Hid (Keeps NoBlk w w7) := K5.out.trans0 hkv
  have R1 := Lib.hid (R1.out.keeps hkv (fun h => h))
  have RV := Lib.hid hrv
  clear y0 y1 y2 hkv hsv hbv
  obtain ⟨y0, y1, y2⟩ := R1.out.three
  obtain ⟨v0, v1, v2⟩ := hrv.three
  clear hrv
  go_upto_region 9 with (at_builtin; refine wpList_append_src _ (by rfl) _ _ 23 (by rfl) 0 34 e0 _ 2 32 Tryz.underlying23 he0 hf0 hf1 hf2 rfl (by decide) (.slice none 0 0) 0 [] (by rfl) (World.ownsRow_nil _ _ _ _) (.slice (some ⟨gu, ou, none⟩) n2 utc) n2 (L.flatMap thC) (by rfl) (HSR.out.keeps K7.out (fun _ _ h => h)) (by rw [length_cells thC 2 thC_len, HLL.out, ← HN2.out]) HON.out (by unfold maxLen; omega) (by omega) (Nat.zero_le _) ?_; intro ad cap w8 ha; rw [Nat.zero_add, List.nil_append] at ha; rw [Nat.zero_add]; obtain ⟨g, c8, e8, _, _⟩ := ha.1.form (by omega); cases e8; have HG : Hid (g = bv + 1) := (ha.2.2 g rfl).elim (fun h => by simp [Value.ownBlock] at h) (fun h => h.trans BD.out.2.2); have k8 : Keeps NoBlk w7 w8 := AppOut.keeps ha (Keeps.refl NoBlk w7) (fun q e _ => by simp [Value.ownBlock] at e); have OW := Lib.hid ha.1; have K8 := Lib.hid k8; have r8 := RV.out.keeps k8 (fun h => h); have R8 := Lib.hid r8; have x2 := r8.cell (k := 2) (v := .slice none 0 0) rfl; have f2 := r8.free (k := 2) (by simp); clear ha k8 r8 v0 v1 v2 y0 y1 y2)
  have hr9 : RowAt (w8.setCell ⟨bv, 2, none⟩ (.slice (some ⟨g, 0, none⟩) n2 cap)) bv [.slice uca n0 ucc, .int .i64 mu, .slice (some ⟨g, 0, none⟩) n2 cap] := R8.out.set 2 (by simp) _
  have hk9 : Keeps (fun q => q = bv) w8 (w8.setCell ⟨bv, 2, none⟩ (.slice (some ⟨g, 0, none⟩) n2 cap)) := (Keeps.refl (fun q => q = bv) w8).setCell (p := ⟨bv, 2, none⟩) (fun _ => rfl) _
  generalize w8.setCell ⟨bv, 2, none⟩ (.slice (some ⟨g, 0, none⟩) n2 cap) = w9 at hr9 hk9 ⊢
  have K9 : Hid (Keeps NoBlk w w9) := (K7.out.trans0 K8.out).trans hk9 (fun q hq e => by have e' : q = bv := e; have := BD.out; omega)
  have R1 := Lib.hid ((R1.out.keeps K8.out (fun h => h)).keeps hk9 (fun e => by have e' : b1 = bv := e; have := BD.out; omega))
  have RV := Lib.hid hr9
  have OW := Lib.hid (ownsRow_keeps OW.out hk9 (fun q e hq => by have e' : q = bv := hq; have e2 : g = q := (by simpa [Value.ownBlock] using e); have := HG.out; omega))
  have hTR := RowAt.ofOwns OW.out
  have TR := Lib.hid hTR
  have gt : (L.flatMap thC)[t * 2 + 1]? = some (.slice ba m bc) := by
    have h := get_cells thC 2 thC_len L t 1 (by decide)
    rw [HLT.out] at h; exact h
  have GT := Lib.hid gt
  have c1 : w9.cell? ⟨g, t * 2 + 1, none⟩ = some (.slice ba m bc) := hTR.cell gt
  have cu : w9.cell? ⟨gu, ou + t * 2 + 1, none⟩ = some (.slice ba m bc) := K9.out.cell (p := ⟨gu, ou + t * 2 + 1, none⟩) (fun h => h) hct
  clear x2 f2 R8 gt hTR hk9
  obtain ⟨y0, y1, y2⟩ := R1.out.three
  obtain ⟨v0, v1, v2⟩ := hr9.three
  clear hr9
  go_upto_region 12 with fail
  go_upto_region 13 with fail
  go_step
  refine wpList_buildTo rfl _ _ rfl _ rfl #[.int .i64 11, .int .i64 0, .int .i64 0, .int .i64 0, .int .i64 0, .string { data := #[] }, .slice none 0 0, .int .i64 0, .slice none 0 0, .slice none 0 0] (by kernel_rfl) ?_
  refine wpList_store_rowTo rfl _ _ _ rfl rfl w9.heap.size #[.int .i64 11, .int .i64 0, .int .i64 0, .int .i64 0, .int .i64 0, .string { data := #[] }, .slice none 0 0, .int .i64 0, .slice none 0 0, .slice none 0 0] (by kernel_rfl) (by kernel_rfl) 39 #[.int .i64 9, .int .i64 0, .int .i64 0, .int .i64 1, .int .i64 1, .string { data := #[] }, .slice none 0 0, .int .i64 0, .slice none 0 0, .slice none 0 0] (heap_alloc_last w9 _) (by kernel_rfl) (by kernel_rfl) (by kernel_rfl) ?_
  rw [World.setRow_alloc_new]
  obtain ⟨bo, hbo⟩ : ∃ z, z = w9.heap.size := ⟨_, rfl⟩
  have hro' : RowAt (w9.alloc (.cells #[.int .i64 11, .int .i64 0, .int .i64 0, .int .i64 0, .int .i64 0, .string { data := #[] }, .slice none 0 0, .int .i64 0, .slice none 0 0, .slice none 0 0] 39)) bo oneOC := by rw [hbo]; exact RowAt.ofBlock (heap_alloc_new w9 _)
  have hko : Keeps NoBlk w9 (w9.alloc (.cells #[.int .i64 11, .int .i64 0, .int .i64 0, .int .i64 0, .int .i64 0, .string { data := #[] }, .slice none 0 0, .int .i64 0, .slice none 0 0, .slice none 0 0] 39)) := (Keeps.refl _ _).alloc _
  have hso : (w9.alloc (.cells #[.int .i64 11, .int .i64 0, .int .i64 0, .int .i64 0, .int .i64 0, .string { data := #[] }, .slice none 0 0, .int .i64 0, .slice none 0 0, .slice none 0 0] 39)).heap.size = w9.heap.size + 1 := by simp
  have hbl : w9.heap[bo]? = none := by rw [hbo]; simp
  rw [← hbo]
  generalize w9.alloc (.cells #[.int .i64 11, .int .i64 0, .int .i64 0, .int .i64 0, .int .i64 0, .string { data := #[] }, .slice none 0 0, .int .i64 0, .slice none 0 0, .slice none 0 0] 39) = w11 at hro' hko hso ⊢
  obtain ⟨BB, hBB⟩ : ∃ z, z = w11.heap.size := ⟨_, rfl⟩
  have BO : Hid (g < bo ∧ BB = bo + 1) := by
    have h1 := TR.out.lt (by intro h; have := congrArg List.length h; rw [length_cells thC 2 thC_len, HLL.out, ← HN2.out] at this; simp at this; omega)
    show _ ∧ _
    exact ⟨by omega, by omega⟩
  have HBB := Lib.hid hBB
  have K11 : Hid (Keeps NoBlk w w11) := K9.out.trans0 hko
  have R1 := Lib.hid (R1.out.keeps hko (fun h => h))
  have RV := Lib.hid (RV.out.keeps hko (fun h => h))
  have OW := Lib.hid (ownsRow_keeps OW.out hko (fun _ _ h => h))
  have RO := Lib.hid hro'
  clear y0 y1 y2 v0 v1 v2 c1 cu hko hso hbo hbl hBB
  obtain ⟨y0, y1, y2⟩ := R1.out.three
  obtain ⟨o0, o1, o2, o3, o4, o5, o6, o7, o8, o9⟩ := RowAt.ten hro'
  clear hro'
  have cu : w11.cell? ⟨gu, ou + t * 2 + 1, none⟩ = some (.slice ba m bc) := K11.out.cell (p := ⟨gu, ou + t * 2 + 1, none⟩) (fun h => h) hct
  obtain ⟨d1, hd1l, hd1f, hd1s, hd1o, hd1a⟩ := HAC.out.part 0 k bc (by have := HM.out; omega) HS1.out
  obtain ⟨d2, hd2l, hd2f, hd2s, hd2o, hd2a⟩ := HAC.out.part k (m - k) sc2 (by have := HM.out; omega) HS2.out
  have D1 := Lib.hid hd1s
  have D2 := Lib.hid hd2s
  have D1A := Lib.hid hd1a
  have D2A := Lib.hid hd2a
  have D1L := Lib.hid hd1l
  have D2L := Lib.hid hd2l
  have D1F := Lib.hid hd1f
  have D2F := Lib.hid hd2f
  have D1O := Lib.hid hd1o
  have D2O := Lib.hid hd2o
  clear hd1l hd1f hd1s hd1o hd1a hd2l hd2f hd2s hd2o hd2a
  go_upto_region 16 with (at_builtin; refine wpList_append_src _ (by rfl) _ _ 32 (by rfl) 0 39 j0 _ 10 136 Tryz.underlying32 hj0 hz0 hz1 hz2 rfl (by decide) (.slice none 0 0) 0 [] (by rfl) (World.ownsRow_nil _ _ _ _) (.slice sa1 k bc) k d1.flatten (by rfl) (D1.out.keeps K11.out (fun _ _ h => h)) D1F.out D1O.out (by unfold maxLen; omega) (by omega) (Nat.zero_le _) ?_; intro a1 p1 w12 ha; rw [Nat.zero_add, List.nil_append] at ha; rw [Nat.zero_add]; have A1 := Lib.hid ha; have k12 : Keeps NoBlk w11 w12 := AppOut.keeps ha (Keeps.refl NoBlk w11) (fun q e _ => by simp [Value.ownBlock] at e); have G12 := Lib.hid k12; have cu' := k12.cell (p := ⟨gu, ou + t * 2 + 1, none⟩) (fun h => h) cu; have r := (R1.out.keeps k12 (fun h => h)).three; clear y0 y1 y2; obtain ⟨y0, y1, y2⟩ := r; have r := RowAt.ten (RO.out.keeps k12 (fun h => h)); clear o0 o1 o2 o3 o4 o5 o6 o7 o8 o9 cu; obtain ⟨o0, o1, o2, o3, o4, o5, o6, o7, o8, o9⟩ := r; clear ha k12)
  have HE1 : Hid ((A.take k).length = k) := by show _ = _; rw [List.length_take]; have := HM.out; omega
  have HGB : Hid (∀ q, F q → q < BB) := fun q hq => by have := HF.out q hq; have h2 := K11.out.size; have := HBB.out; omega
  have P1 : Hid (Acc AcAt F BB 10 39 w12 (.slice a1 k p1) (A.take k) d1) := by
    have h := Acc.pushL acOk (Acc.nil (R := AcAt) (G := F) (B := BB) (sz := 10) (ty := 39) w11) (ys := A.take k) (dss := d1) (ad := a1) (cap := p1) (w' := w12) HGB.out (by rw [HBB.out]; exact Nat.le_refl _) (by rw [D1L.out, HE1.out])
      (fun i y ds e1 e2 => ((D1A.out i y ds (by rw [List.drop_zero]; exact e1) e2).keeps K11.out (fun _ _ h => h)).mono (fun q hq => .inl hq)) (by decide) (by rw [HE1.out, List.length_nil, Nat.zero_add]; exact A1.out)
    rw [List.length_nil, Nat.zero_add, HE1.out, List.nil_append, List.nil_append] at h
    exact h
  clear A1
  go_upto_region 17 with (at_builtin; refine wpList_append_src _ (by rfl) _ _ 32 (by rfl) 0 39 j0 _ 10 136 Tryz.underlying32 hj0 hz0 hz1 hz2 rfl (by decide) (.slice a1 k p1) k d1.flatten (by rfl) (by have h1 := P1.out.2.1; rw [HE1.out] at h1; exact ownsRow_keeps h1 ((Keeps.refl NoBlk w12).alloc _) (fun _ _ h => h)) (.slice (some ⟨w12.heap.size, 0, none⟩) 1 1) 1 oneOC (by rfl) (RowAt.src (RowAt.ofBlock (heap_alloc_new w12 _))) rfl (by intro q hq; simp only [oneOC, List.mem_cons, List.not_mem_nil, or_false] at hq; rcases hq with rfl | rfl | rfl | rfl | rfl | rfl | rfl | rfl | rfl | rfl <;> rfl) (by unfold maxLen; omega) (by omega) (Nat.zero_le _) ?_; intro a2 p2 w13 ha; have A2 := Lib.hid ha; have k13 : Keeps NoBlk w11 w13 := AppOut.keeps ha (G12.out.alloc _) (fun q e hq => by have := P1.out.2.2.1 q e; have := HBB.out; omega); have G13 := Lib.hid k13; have r := (R1.out.keeps k13 (fun h => h)).three; clear y0 y1 y2; obtain ⟨y0, y1, y2⟩ := r; have cu := k13.cell (p := ⟨gu, ou + t * 2 + 1, none⟩) (fun h => h) (K11.out.cell (p := ⟨gu, ou + t * 2 + 1, none⟩) (fun h => h) hct); clear o0 o1 o2 o3 o4 o5 o6 o7 o8 o9 cu' ha k13)
  have P2 : Hid (Acc AcAt F BB 10 39 w13 (.slice a2 (k + 1) p2) (A.take k ++ [oneO]) (d1 ++ [oneOC])) := by
    have h := (P1.out.keeps0 acOk ((Keeps.refl NoBlk w12).alloc (.cells oneOC.toArray 39))).push acOk HGB.out (by rw [HBB.out]; exact (G12.out.alloc _).size) (oneO_at _ _) (by decide) (ad := a2) (cap := p2) (w' := w13) (by rw [HE1.out]; exact A2.out)
    rw [HE1.out] at h
    exact h
  have HE2 : Hid ((A.take k ++ [oneO]).length = k + 1) := by show _ = _; rw [List.length_append, HE1.out]; rfl
  clear A2
  have e9 : k + 1 + (m - k) = m + 1 := by omega
  have hlen9 : k + 1 + (m - k) < 900000000 := by omega
  go_upto_region 18 with (at_builtin; refine wpList_append_src _ (by rfl) _ _ 32 (by rfl) 0 39 j0 _ 10 136 Tryz.underlying32 hj0 hz0 hz1 hz2 rfl (by decide) (.slice a2 (k + 1) p2) (k + 1) (d1 ++ [oneOC]).flatten (by rfl) (by have h1 := P2.out.2.1; rw [HE2.out] at h1; exact h1) (.slice sa2 (m - k) sc2) (m - k) d2.flatten (by rfl) (D2.out.keeps (K11.out.trans0 G13.out) (fun _ _ h => h)) D2F.out D2O.out (by unfold maxLen; omega) (by omega) (Nat.zero_le _) ?_; intro a3 p3 w14 ha; have A3 := Lib.hid ha; have k14 : Keeps NoBlk w11 w14 := AppOut.keeps ha G13.out (fun q e hq => by have := P2.out.2.2.1 q e; have := HBB.out; omega); have G14 := Lib.hid k14; rw [e9]; clear ha k14 y0 y1 y2 cu)
  have HE3 : Hid ((A.drop k).length = m - k) := by show _ = _; rw [List.length_drop]; have := HM.out; omega
  have P3 : Hid (AcsAt w14 (fun q => F q ∨ (BB ≤ q ∧ q < w14.heap.size)) (insAc k oneO A) a3) := by
    have h := Acc.pushL acOk P2.out HGB.out (by rw [HBB.out]; exact G13.out.size) (ys := A.drop k) (dss := d2) (ad := a3) (cap := p3) (w' := w14) (by rw [D2L.out, HE3.out])
      (fun i y ds e1 e2 => ((D2A.out i y ds (by rw [List.take_of_length_le (by rw [HE3.out]; exact Nat.le_refl _)]; exact e1) e2).keeps (K11.out.trans0 G13.out) (fun _ _ h => h)).mono (fun q hq => .inl hq)) (by decide) (by rw [HE2.out, HE3.out]; exact A3.out)
    obtain ⟨h1, h2⟩ := h.elems acOk rfl
    exact ⟨_, h1, h2⟩
  clear A3 hlen9 e9
  have K14 : Hid (Keeps NoBlk w w14) := K11.out.trans0 G14.out
  have R1 := Lib.hid (R1.out.keeps G14.out (fun h => h))
  have RV := Lib.hid (RV.out.keeps G14.out (fun h => h))
  have OW := Lib.hid (ownsRow_keeps OW.out G14.out (fun _ _ h => h))
  have hTR := RowAt.ofOwns OW.out
  have htl : t * 2 + 1 < (L.flatMap thC).length := by rw [length_cells thC 2 thC_len, HLL.out, ← HN2.out]; omega
  have c1 := hTR.cell GT.out
  have f1 := hTR.free htl
  have HTL := Lib.hid htl
  obtain ⟨v0, v1, v2⟩ := RV.out.three
  clear hTR htl
  go_upto_region 19 with fail
  obtain ⟨L1, hL1⟩ : ∃ z, z = L.set t (rg, .slice a3 (m + 1) p3) := ⟨_, rfl⟩
  have hset : (L.flatMap thC).set (t * 2 + 1) (.slice a3 (m + 1) p3) = L1.flatMap thC := by rw [hL1]; exact set_cells thC 2 thC_len L t 1 (by decide) _ _ (rg, .slice a3 (m + 1) p3) HLT.out rfl
  have how := (World.ownsRow.stored OW.out (t * 2 + 1) (.slice a3 (m + 1) p3)).1
  rw [hset] at how
  have hk18 : Keeps (fun q => q = g) w14 (w14.setCell ⟨g, t * 2 + 1, none⟩ (.slice a3 (m + 1) p3)) := (Keeps.refl (fun q => q = g) w14).setCell (p := ⟨g, t * 2 + 1, none⟩) (fun _ => rfl) _
  generalize w14.setCell ⟨g, t * 2 + 1, none⟩ (.slice a3 (m + 1) p3) = w18 at how hk18 ⊢
  have K18 : Hid (Keeps NoBlk w w18) := K14.out.trans hk18 (fun q hq e => by have e' : q = g := e; have := BD.out; have := HG.out; omega)
  have R1 := Lib.hid (R1.out.keeps hk18 (fun e => by have e' : b1 = g := e; have := BD.out; have := HG.out; omega))
  have RV := Lib.hid (RV.out.keeps hk18 (fun e => by have e' : bv = g := e; have := BD.out; have := HG.out; omega))
  have OW := Lib.hid how
  have S18 : Hid (w14.heap.size ≤ w18.heap.size) := hk18.size
  have S11 : Hid (BB ≤ w14.heap.size) := by rw [HBB.out]; exact G14.out.size
  have U18 : Hid (UnAt w18 (fun q => F q ∨ q = g ∨ (BB ≤ q ∧ q < w14.heap.size)) cs bs1 uca (some ⟨g, 0, none⟩)) := by
    refine ⟨(HN.out.keeps K18.out (fun _ _ h => h)).mono (fun q hq => .inl hq), ?_, fun q hq => ?_⟩
    · have h1 : AcsAt w18 (fun q => F q ∨ q = g ∨ (BB ≤ q ∧ q < w14.heap.size)) (insAc k oneO A) a3 := (P3.out.keeps hk18 (fun q hq e => by
        have e' : q = g := e
        have := BO.out; have := BD.out; have := HG.out
        rcases hq with h | ⟨h, _⟩
        · have := HF.out q h; omega
        · omega)).mono (fun q hq => hq.elim .inl (fun h => .inr (.inr h)))
      have hth : ThAt w18 (fun q => F q ∨ q = g ∨ (BB ≤ q ∧ q < w14.heap.size)) bs L := (HTH.out.keeps K18.out (fun _ _ h => h)).mono (fun q hq => .inl hq)
      have h2 := hth.set t (r := rg) (sc := p3) h1
      rw [insAc_len, ← HM.out, ← hL1, ← HB1.out] at h2
      exact h2.bds (RowAt.ofOwns OW.out) (.inr (.inl rfl))
    · have := BO.out; have := S18.out; have := S11.out; have := K18.out.size
      rcases hq with h | h | ⟨_, h⟩
      · have := HF.out q h; omega
      · omega
      · omega
  have HLS : Hid (L1 = L.set t (rg, .slice a3 (m + 1) p3)) := hL1
  clear v0 v1 v2 c1 f1 hk18 hset how hL1
  obtain ⟨r1, hr1⟩ : ∃ z, z = rightU ⟨cs, mu, bs1⟩ := ⟨_, rfl⟩
  have HRV : Hid (∀ W, Keeps NoBlk w18 W → Calls Tryz.prog 14 #[.agg #[.slice uca n0 ucc, .int .i64 mu, .slice (some ⟨g, 0, none⟩) n2 cap]] W fun e w' => e = .returned (.bool r1) ∧ Keeps NoBlk W w') := fun W hk => by
    have h := (U18.out.keeps0 hk).right (mu := mu) (ucc := ucc) (utc := cap) HOK1.out
    rw [HL1B.out, ← HN2.out, ← HN0.out, ← hr1] at h; exact h
  have HTV : Hid (r1 = true → ∀ W, Keeps NoBlk w18 W → Calls Tryz.prog 8 #[.agg #[.slice uca n0 ucc, .int .i64 mu, .slice (some ⟨g, 0, none⟩) n2 cap]] W fun e w' => e = .returned (.string (tell true (unS bs1))) ∧ Keeps NoBlk W w') := fun hr W hk => by
    have h := (U18.out.keeps0 hk).steps (mu := mu) (ucc := ucc) (utc := cap) HOK1.out (HTB.out.keeps (below_keeps (K18.out.trans0 hk)))
    rw [HL1B.out, ← HN2.out, ← HN0.out, ← hr1, hr] at h; exact h
  have HWV : Hid (r1 = true → ∀ W, Keeps NoBlk w18 W → Calls Tryz.prog 9 #[.agg #[.slice uca n0 ucc, .int .i64 mu, .slice (some ⟨g, 0, none⟩) n2 cap]] W fun e w' => e = .returned (.string (tell true (unW bs1))) ∧ Keeps NoBlk W w') := fun hr W hk => by
    have h := (U18.out.keeps0 hk).work (mu := mu) (ucc := ucc) (utc := cap) HOK1.out (HTB.out.keeps (below_keeps (K18.out.trans0 hk)))
    rw [HL1B.out, ← HN2.out, ← HN0.out, ← hr1, hr] at h; exact h
  have HLE1 : Hid (∀ W, Calls Tryz.prog 16 #[.string (tell true (unS bs1)), .string (tell true sS)] W fun e w' => e = .returned (.bool true) ∧ Keeps NoBlk W w') := fun W => by
    have h := least_law (tell true (unS bs1)) (tell true sS) W
    rw [more_more HG1.out.1] at h; exact h
  have HLE2 : Hid (∀ W, Calls Tryz.prog 16 #[.string (tell true (unW bs1)), .string (tell true sW)] W fun e w' => e = .returned (.bool true) ∧ Keeps NoBlk W w') := fun W => by
    have h := least_law (tell true (unW bs1)) (tell true sW) W
    rw [more_more HG1.out.2] at h; exact h
  generalize tell true (unS bs1) = tS at HTV HLE1
  generalize tell true (unW bs1) = tW at HWV HLE2
  obtain ⟨v0, v1, v2⟩ := RV.out.three
  clear hr1
  have KV : Hid (Keeps NoBlk w18 w18) := Keeps.refl _ _
  cases r1
  · go_upto_region 27 with (go_at_call 14; refine (HRV.out _ KV.out).mono ?_; rintro e w19 ⟨rfl, g0⟩; have KE : Hid (Keeps NoBlk w18 w19) := KV.out.trans0 g0; have c := (RV.out.keeps g0 (fun h => h)).three; clear v0 v1 v2; obtain ⟨v0, v1, v2⟩ := c; have RV := Lib.hid (RV.out.keeps g0 (fun h => h)); have R1 := Lib.hid (R1.out.keeps g0 (fun h => h)); have OW := Lib.hid (ownsRow_keeps OW.out g0 (fun _ _ h => h)); clear g0)
    have K26 : Hid (Keeps NoBlk w w19) := K18.out.trans0 KE.out
    have cu : w19.cell? ⟨gu, ou + t * 2 + 1, none⟩ = some (.slice ba m bc) := K26.out.cell (p := ⟨gu, ou + t * 2 + 1, none⟩) (fun h => h) hct
    have hTR := RowAt.ofOwns OW.out
    have htl : t * 2 + 1 < (L1.flatMap thC).length := by rw [length_cells thC 2 thC_len, HLS.out, List.length_set, HLL.out, ← HN2.out]; omega
    have gt1 : (L1.flatMap thC)[t * 2 + 1]? = some (.slice a3 (m + 1) p3) := by
      have h := get_cells thC 2 thC_len L1 t 1 (by decide)
      rw [HLS.out, List.getElem?_set_self (by rw [HLL.out, ← HN2.out]; exact ht2)] at h
      rw [HLS.out]; exact h
    have c1 := hTR.cell gt1
    have f1 := hTR.free htl
    obtain ⟨y0, y1, y2⟩ := R1.out.three
    clear gt1 hTR
    go_region
    all_goals (try go_upto_region 28 with fail)
    have hset2 : (L1.flatMap thC).set (t * 2 + 1) (.slice ba m bc) = L.flatMap thC := by
      have h := set_cells thC 2 thC_len L1 t 1 (by decide) (.slice ba m bc) (rg, .slice a3 (m + 1) p3) (rg, .slice ba m bc) (by rw [HLS.out, List.getElem?_set_self (by rw [HLL.out, ← HN2.out]; exact ht2)]) rfl
      rw [h, HLS.out, List.set_set]
      obtain ⟨h1, h2⟩ := List.getElem?_eq_some_iff.1 HLT.out
      rw [← h2, List.set_getElem_self]
    have how2 := (World.ownsRow.stored OW.out (t * 2 + 1) (.slice ba m bc)).1.drew
    rw [hset2] at how2
    have hkA : Keeps (fun q => q = g) w19 (w19.setCell ⟨g, t * 2 + 1, none⟩ (.slice ba m bc)).drew := ((Keeps.refl (fun q => q = g) w19).setCell (p := ⟨g, t * 2 + 1, none⟩) (fun _ => rfl) _).drew
    generalize (w19.setCell ⟨g, t * 2 + 1, none⟩ (.slice ba m bc)).drew = wA at how2 hkA ⊢
    have K27 : Hid (Keeps NoBlk w wA) := K26.out.trans hkA (fun q hq e => by have e' : q = g := e; have := BD.out; have := HG.out; omega)
    have RV := Lib.hid (RV.out.keeps hkA (fun e => by have e' : bv = g := e; have := HG.out; omega))
    have OW := Lib.hid how2
    clear y0 y1 y2 v0 v1 v2 c1 f1 cu how2 hset2 hkA htl
    obtain ⟨v0, v1, v2⟩ := RV.out.three
    have f2 := RV.out.free (k := 2) (by simp)
    have hbg : bv < g := by have := HG.out; omega
    go_upto_region 29 with (at_builtin; refine wpList_append_src _ (by rfl) _ _ 23 (by rfl) 0 34 e0 _ 2 32 Tryz.underlying23 he0 hf0 hf1 hf2 rfl (by decide) (.slice (some ⟨g, 0, none⟩) n2 cap) n2 (L.flatMap thC) (by rfl) (ownsRow_keeps OW.out ((Keeps.refl NoBlk wA).alloc _) (fun _ _ h => h)) (.slice (some ⟨wA.heap.size, 0, none⟩) 1 1) 1 [.int .i64 0, .slice none 0 0] (by rfl) (RowAt.src (RowAt.ofBlock (heap_alloc_new wA _))) rfl (by intro q hq; simp only [List.mem_cons, List.not_mem_nil, or_false] at hq; rcases hq with rfl | rfl <;> rfl) (by unfold maxLen; omega) (by omega) (Nat.zero_le _) ?_; intro a4 p4 w28 ha; obtain ⟨g4, c4, e4, _, _⟩ := ha.1.form (by omega); cases e4; have HG4 : Hid (g4 = g ∨ wA.heap.size < g4) := (ha.2.2 g4 rfl).elim (fun h => .inl (by simpa [Value.ownBlock] using h.symm)) (fun h => .inr (by rw [h]; simp)); have k28 : Keeps (fun q => q = g) wA w28 := AppOut.keeps ha ((Keeps.refl (fun q => q = g) wA).alloc _) (fun q e _ => by simpa [Value.ownBlock] using e.symm); have OW4 := Lib.hid ha.1; have K28 := Lib.hid k28; have r8 := RV.out.keeps k28 (fun e => by have e' : bv = g := e; omega); have R8 := Lib.hid r8; have x2 := r8.cell (k := 2) (v := .slice (some ⟨g, 0, none⟩) n2 cap) rfl; have f2' := r8.free (k := 2) (by simp); clear ha k28 r8 v0 v1 v2 f2)
    have hrB : RowAt (w28.setCell ⟨bv, 2, none⟩ (.slice (some ⟨g4, 0, none⟩) (n2 + 1) p4)) bv [.slice uca n0 ucc, .int .i64 mu, .slice (some ⟨g4, 0, none⟩) (n2 + 1) p4] := R8.out.set 2 (by simp) _
    have hkB : Keeps (fun q => q = bv) w28 (w28.setCell ⟨bv, 2, none⟩ (.slice (some ⟨g4, 0, none⟩) (n2 + 1) p4)) := (Keeps.refl (fun q => q = bv) w28).setCell (p := ⟨bv, 2, none⟩) (fun _ => rfl) _
    generalize w28.setCell ⟨bv, 2, none⟩ (.slice (some ⟨g4, 0, none⟩) (n2 + 1) p4) = wB at hrB hkB ⊢
    have hg4 : bv < g4 := by
      have h1 := HG4.out
      have h2 := RV.out.lt (by simp)
      omega
    have KB : Hid (Keeps NoBlk w wB) := (K27.out.trans K28.out (fun q hq e => by have e' : q = g := e; have := BD.out; omega)).trans hkB (fun q hq e => by have e' : q = bv := e; have := BD.out; omega)
    have RV := Lib.hid hrB
    have OW4 := Lib.hid (ownsRow_keeps OW4.out hkB (fun q e hq => by have e' : q = bv := hq; have e2 : g4 = q := (by simpa [Value.ownBlock] using e); omega))
    have UB : Hid (UnAt wB (fun q => F q ∨ q = g4) cs bs2 uca (some ⟨g4, 0, none⟩)) := by
      have hr4 := RowAt.ofOwns OW4.out
      have e5 : L.flatMap thC ++ [Value.int .i64 0, .slice none 0 0] = (L ++ [((0 : Int), Value.slice none 0 0)]).flatMap thC := by simp [List.flatMap_append, thC]
      rw [e5] at hr4
      refine ⟨(HN.out.keeps KB.out (fun _ _ h => h)).mono (fun q hq => .inl hq), ?_, fun q hq => ?_⟩
      · have h2 := (((HTH.out.keeps KB.out (fun _ _ h => h)).mono (F' := fun q => F q ∨ q = g4) (fun q hq => .inl hq))).push
        rw [← HB2.out] at h2
        exact h2.bds hr4 (.inr rfl)
      · rcases hq with h | h
        · have := HF.out q h; have := KB.out.size; omega
        · rw [h]; exact hr4.lt (by simp [List.flatMap_append, thC])
    clear hrB hkB hg4 hbg x2 f2' R8
    obtain ⟨v0, v1, v2⟩ := RV.out.three
    obtain ⟨r2, hr2⟩ : ∃ z, z = rightU ⟨cs, mu, bs2⟩ := ⟨_, rfl⟩
    have HRX : Hid (∀ W, Keeps NoBlk wB W → Calls Tryz.prog 14 #[.agg #[.slice uca n0 ucc, .int .i64 mu, .slice (some ⟨g4, 0, none⟩) (n2 + 1) p4]] W fun e w' => e = .returned (.bool r2) ∧ Keeps NoBlk W w') := fun W hk => by
      have h := (UB.out.keeps0 hk).right (mu := mu) (ucc := ucc) (utc := p4) HOK2.out
      rw [HL2B.out, ← HN2.out, ← HN0.out, ← hr2] at h; exact h
    have HTX : Hid (r2 = true → ∀ W, Keeps NoBlk wB W → Calls Tryz.prog 8 #[.agg #[.slice uca n0 ucc, .int .i64 mu, .slice (some ⟨g4, 0, none⟩) (n2 + 1) p4]] W fun e w' => e = .returned (.string (tell true (unS bs2))) ∧ Keeps NoBlk W w') := fun hr W hk => by
      have h := (UB.out.keeps0 hk).steps (mu := mu) (ucc := ucc) (utc := p4) HOK2.out (HTB.out.keeps (below_keeps (KB.out.trans0 hk)))
      rw [HL2B.out, ← HN2.out, ← HN0.out, ← hr2, hr] at h; exact h
    have HWX : Hid (r2 = true → ∀ W, Keeps NoBlk wB W → Calls Tryz.prog 9 #[.agg #[.slice uca n0 ucc, .int .i64 mu, .slice (some ⟨g4, 0, none⟩) (n2 + 1) p4]] W fun e w' => e = .returned (.string (tell true (unW bs2))) ∧ Keeps NoBlk W w') := fun hr W hk => by
      have h := (UB.out.keeps0 hk).work (mu := mu) (ucc := ucc) (utc := p4) HOK2.out (HTB.out.keeps (below_keeps (KB.out.trans0 hk)))
      rw [HL2B.out, ← HN2.out, ← HN0.out, ← hr2, hr] at h; exact h
    have HAB1 : Hid (∀ W, Calls Tryz.prog 15 #[.string (tell true (unS bs2)), .string (tell true sS)] W fun e w' => e = .returned (.bool true) ∧ Keeps NoBlk W w') := fun W => by
      have h := above_law (tell true (unS bs2)) (tell true sS) W
      rw [more_less HG2.out.1] at h; exact h
    have HAB2 : Hid (∀ W, Calls Tryz.prog 15 #[.string (tell true (unW bs2)), .string (tell true sW)] W fun e w' => e = .returned (.bool true) ∧ Keeps NoBlk W w') := fun W => by
      have h := above_law (tell true (unW bs2)) (tell true sW) W
      rw [more_less HG2.out.2] at h; exact h
    generalize tell true (unS bs2) = uS at HTX HAB1
    generalize tell true (unW bs2) = uW at HWX HAB2
    clear hr2
    cases r2
    · go_wp2_with (go_at_call 14; refine (HRX.out _ (Keeps.refl _ _)).mono ?_; rintro e w31 ⟨rfl, g0⟩; have K31 : Hid (Keeps NoBlk w w31) := KB.out.trans0 g0; have c := (RV.out.keeps g0 (fun h => h)).three; clear v0 v1 v2; obtain ⟨v0, v1, v2⟩ := c; have RV := Lib.hid (RV.out.keeps g0 (fun h => h)); clear g0)
      go_ret
      exact ⟨rfl, K31.out⟩
    · have HTU := Lib.hid (HTX.out rfl)
      have HWU := Lib.hid (HWX.out rfl)
      clear HTX HWX
      have KBB : Hid (Keeps NoBlk wB wB) := Keeps.refl _ _
      go_upto_region 32 with (go_at_call 14; refine (HRX.out _ KBB.out).mono ?_; rintro e w31 ⟨rfl, g0⟩; have K31 : Hid (Keeps NoBlk wB w31) := KBB.out.trans0 g0; have c := (RV.out.keeps g0 (fun h => h)).three; clear v0 v1 v2; obtain ⟨v0, v1, v2⟩ := c; have RV := Lib.hid (RV.out.keeps g0 (fun h => h)); clear g0)
      go_upto_region 33 with (go_at_call 8; refine (HTU.out _ K31.out).mono ?_; rintro e w32 ⟨rfl, g0⟩; have K32 : Hid (Keeps NoBlk wB w32) := K31.out.trans0 g0; have c := (RV.out.keeps g0 (fun h => h)).three; clear v0 v1 v2; obtain ⟨v0, v1, v2⟩ := c; have RV := Lib.hid (RV.out.keeps g0 (fun h => h)); clear g0)
      go_upto_region 34 with (go_at_call 9; refine (HWU.out _ K32.out).mono ?_; rintro e w33 ⟨rfl, g0⟩; have K33 : Hid (Keeps NoBlk wB w33) := K32.out.trans0 g0; have c := (RV.out.keeps g0 (fun h => h)).three; clear v0 v1 v2; obtain ⟨v0, v1, v2⟩ := c; have RV := Lib.hid (RV.out.keeps g0 (fun h => h)); clear g0)
      go_upto_region 35 with (go_at_call 15; refine (HAB1.out _).mono ?_; rintro e w34 ⟨rfl, g0⟩; have K34 : Hid (Keeps NoBlk wB w34) := K33.out.trans0 g0; have c := (RV.out.keeps g0 (fun h => h)).three; clear v0 v1 v2; obtain ⟨v0, v1, v2⟩ := c; have RV := Lib.hid (RV.out.keeps g0 (fun h => h)); clear g0)
      go_wp2_with (go_at_call 15; refine (HAB2.out _).mono ?_; rintro e w35 ⟨rfl, g0⟩; have K35 : Hid (Keeps NoBlk wB w35) := K34.out.trans0 g0; have c := (RV.out.keeps g0 (fun h => h)).three; clear v0 v1 v2; obtain ⟨v0, v1, v2⟩ := c; have RV := Lib.hid (RV.out.keeps g0 (fun h => h)); clear g0)
      go_ret
      exact ⟨rfl, KB.out.trans0 K35.out⟩
  · have HTU := Lib.hid (HTV.out rfl)
    have HWU := Lib.hid (HWV.out rfl)
    clear HTV HWV
    go_upto_region 21 with (go_at_call 14; refine (HRV.out _ KV.out).mono ?_; rintro e w19 ⟨rfl, g0⟩; have K19 : Hid (Keeps NoBlk w18 w19) := KV.out.trans0 g0; have c := (RV.out.keeps g0 (fun h => h)).three; clear v0 v1 v2; obtain ⟨v0, v1, v2⟩ := c; have RV := Lib.hid (RV.out.keeps g0 (fun h => h)); have R1 := Lib.hid (R1.out.keeps g0 (fun h => h)); have OW := Lib.hid (ownsRow_keeps OW.out g0 (fun _ _ h => h)); clear g0)
    go_upto_region 22 with (go_at_call 8; refine (HTU.out _ K19.out).mono ?_; rintro e w20 ⟨rfl, g0⟩; have K20 : Hid (Keeps NoBlk w18 w20) := K19.out.trans0 g0; have c := (RV.out.keeps g0 (fun h => h)).three; clear v0 v1 v2; obtain ⟨v0, v1, v2⟩ := c; have RV := Lib.hid (RV.out.keeps g0 (fun h => h)); have R1 := Lib.hid (R1.out.keeps g0 (fun h => h)); have OW := Lib.hid (ownsRow_keeps OW.out g0 (fun _ _ h => h)); clear g0)
    go_upto_region 23 with (go_at_call 9; refine (HWU.out _ K20.out).mono ?_; rintro e w21 ⟨rfl, g0⟩; have K21 : Hid (Keeps NoBlk w18 w21) := K20.out.trans0 g0; have c := (RV.out.keeps g0 (fun h => h)).three; clear v0 v1 v2; obtain ⟨v0, v1, v2⟩ := c; have RV := Lib.hid (RV.out.keeps g0 (fun h => h)); have R1 := Lib.hid (R1.out.keeps g0 (fun h => h)); have OW := Lib.hid (ownsRow_keeps OW.out g0 (fun _ _ h => h)); clear g0)
    go_upto_region 24 with (go_at_call 16; refine (HLE1.out _).mono ?_; rintro e w22 ⟨rfl, g0⟩; have K22 : Hid (Keeps NoBlk w18 w22) := K21.out.trans0 g0; have c := (RV.out.keeps g0 (fun h => h)).three; clear v0 v1 v2; obtain ⟨v0, v1, v2⟩ := c; have RV := Lib.hid (RV.out.keeps g0 (fun h => h)); have R1 := Lib.hid (R1.out.keeps g0 (fun h => h)); have OW := Lib.hid (ownsRow_keeps OW.out g0 (fun _ _ h => h)); clear g0)
    go_upto_region 27 with (go_at_call 16; refine (HLE2.out _).mono ?_; rintro e w23 ⟨rfl, g0⟩; have KE : Hid (Keeps NoBlk w18 w23) := K22.out.trans0 g0; have c := (RV.out.keeps g0 (fun h => h)).three; clear v0 v1 v2; obtain ⟨v0, v1, v2⟩ := c; have RV := Lib.hid (RV.out.keeps g0 (fun h => h)); have R1 := Lib.hid (R1.out.keeps g0 (fun h => h)); have OW := Lib.hid (ownsRow_keeps OW.out g0 (fun _ _ h => h)); clear g0)
    have K26 : Hid (Keeps NoBlk w w23) := K18.out.trans0 KE.out
    have cu : w23.cell? ⟨gu, ou + t * 2 + 1, none⟩ = some (.slice ba m bc) := K26.out.cell (p := ⟨gu, ou + t * 2 + 1, none⟩) (fun h => h) hct
    have hTR := RowAt.ofOwns OW.out
    have htl : t * 2 + 1 < (L1.flatMap thC).length := by rw [length_cells thC 2 thC_len, HLS.out, List.length_set, HLL.out, ← HN2.out]; omega
    have gt1 : (L1.flatMap thC)[t * 2 + 1]? = some (.slice a3 (m + 1) p3) := by
      have h := get_cells thC 2 thC_len L1 t 1 (by decide)
      rw [HLS.out, List.getElem?_set_self (by rw [HLL.out, ← HN2.out]; exact ht2)] at h
      rw [HLS.out]; exact h
    have c1 := hTR.cell gt1
    have f1 := hTR.free htl
    obtain ⟨y0, y1, y2⟩ := R1.out.three
    clear gt1 hTR
    go_region
    all_goals (try go_upto_region 28 with fail)
    have hset2 : (L1.flatMap thC).set (t * 2 + 1) (.slice ba m bc) = L.flatMap thC := by
      have h := set_cells thC 2 thC_len L1 t 1 (by decide) (.slice ba m bc) (rg, .slice a3 (m + 1) p3) (rg, .slice ba m bc) (by rw [HLS.out, List.getElem?_set_self (by rw [HLL.out, ← HN2.out]; exact ht2)]) rfl
      rw [h, HLS.out, List.set_set]
      obtain ⟨h1, h2⟩ := List.getElem?_eq_some_iff.1 HLT.out
      rw [← h2, List.set_getElem_self]
    have how2 := (World.ownsRow.stored OW.out (t * 2 + 1) (.slice ba m bc)).1.drew
    rw [hset2] at how2
    have hkA : Keeps (fun q => q = g) w23 (w23.setCell ⟨g, t * 2 + 1, none⟩ (.slice ba m bc)).drew := ((Keeps.refl (fun q => q = g) w23).setCell (p := ⟨g, t * 2 + 1, none⟩) (fun _ => rfl) _).drew
    generalize (w23.setCell ⟨g, t * 2 + 1, none⟩ (.slice ba m bc)).drew = wA at how2 hkA ⊢
    have K27 : Hid (Keeps NoBlk w wA) := K26.out.trans hkA (fun q hq e => by have e' : q = g := e; have := BD.out; have := HG.out; omega)
    have RV := Lib.hid (RV.out.keeps hkA (fun e => by have e' : bv = g := e; have := HG.out; omega))
    have OW := Lib.hid how2
    clear y0 y1 y2 v0 v1 v2 c1 f1 cu how2 hset2 hkA htl
    obtain ⟨v0, v1, v2⟩ := RV.out.three
    have f2 := RV.out.free (k := 2) (by simp)
    have hbg : bv < g := by have := HG.out; omega
    go_upto_region 29 with (at_builtin; refine wpList_append_src _ (by rfl) _ _ 23 (by rfl) 0 34 e0 _ 2 32 Tryz.underlying23 he0 hf0 hf1 hf2 rfl (by decide) (.slice (some ⟨g, 0, none⟩) n2 cap) n2 (L.flatMap thC) (by rfl) (ownsRow_keeps OW.out ((Keeps.refl NoBlk wA).alloc _) (fun _ _ h => h)) (.slice (some ⟨wA.heap.size, 0, none⟩) 1 1) 1 [.int .i64 0, .slice none 0 0] (by rfl) (RowAt.src (RowAt.ofBlock (heap_alloc_new wA _))) rfl (by intro q hq; simp only [List.mem_cons, List.not_mem_nil, or_false] at hq; rcases hq with rfl | rfl <;> rfl) (by unfold maxLen; omega) (by omega) (Nat.zero_le _) ?_; intro a4 p4 w28 ha; obtain ⟨g4, c4, e4, _, _⟩ := ha.1.form (by omega); cases e4; have HG4 : Hid (g4 = g ∨ wA.heap.size < g4) := (ha.2.2 g4 rfl).elim (fun h => .inl (by simpa [Value.ownBlock] using h.symm)) (fun h => .inr (by rw [h]; simp)); have k28 : Keeps (fun q => q = g) wA w28 := AppOut.keeps ha ((Keeps.refl (fun q => q = g) wA).alloc _) (fun q e _ => by simpa [Value.ownBlock] using e.symm); have OW4 := Lib.hid ha.1; have K28 := Lib.hid k28; have r8 := RV.out.keeps k28 (fun e => by have e' : bv = g := e; omega); have R8 := Lib.hid r8; have x2 := r8.cell (k := 2) (v := .slice (some ⟨g, 0, none⟩) n2 cap) rfl; have f2' := r8.free (k := 2) (by simp); clear ha k28 r8 v0 v1 v2 f2)
    have hrB : RowAt (w28.setCell ⟨bv, 2, none⟩ (.slice (some ⟨g4, 0, none⟩) (n2 + 1) p4)) bv [.slice uca n0 ucc, .int .i64 mu, .slice (some ⟨g4, 0, none⟩) (n2 + 1) p4] := R8.out.set 2 (by simp) _
    have hkB : Keeps (fun q => q = bv) w28 (w28.setCell ⟨bv, 2, none⟩ (.slice (some ⟨g4, 0, none⟩) (n2 + 1) p4)) := (Keeps.refl (fun q => q = bv) w28).setCell (p := ⟨bv, 2, none⟩) (fun _ => rfl) _
    generalize w28.setCell ⟨bv, 2, none⟩ (.slice (some ⟨g4, 0, none⟩) (n2 + 1) p4) = wB at hrB hkB ⊢
    have hg4 : bv < g4 := by
      have h1 := HG4.out
      have h2 := RV.out.lt (by simp)
      omega
    have KB : Hid (Keeps NoBlk w wB) := (K27.out.trans K28.out (fun q hq e => by have e' : q = g := e; have := BD.out; omega)).trans hkB (fun q hq e => by have e' : q = bv := e; have := BD.out; omega)
    have RV := Lib.hid hrB
    have OW4 := Lib.hid (ownsRow_keeps OW4.out hkB (fun q e hq => by have e' : q = bv := hq; have e2 : g4 = q := (by simpa [Value.ownBlock] using e); omega))
    have UB : Hid (UnAt wB (fun q => F q ∨ q = g4) cs bs2 uca (some ⟨g4, 0, none⟩)) := by
      have hr4 := RowAt.ofOwns OW4.out
      have e5 : L.flatMap thC ++ [Value.int .i64 0, .slice none 0 0] = (L ++ [((0 : Int), Value.slice none 0 0)]).flatMap thC := by simp [List.flatMap_append, thC]
      rw [e5] at hr4
      refine ⟨(HN.out.keeps KB.out (fun _ _ h => h)).mono (fun q hq => .inl hq), ?_, fun q hq => ?_⟩
      · have h2 := (((HTH.out.keeps KB.out (fun _ _ h => h)).mono (F' := fun q => F q ∨ q = g4) (fun q hq => .inl hq))).push
        rw [← HB2.out] at h2
        exact h2.bds hr4 (.inr rfl)
      · rcases hq with h | h
        · have := HF.out q h; have := KB.out.size; omega
        · rw [h]; exact hr4.lt (by simp [List.flatMap_append, thC])
    clear hrB hkB hg4 hbg x2 f2' R8
    obtain ⟨v0, v1, v2⟩ := RV.out.three
    obtain ⟨r2, hr2⟩ : ∃ z, z = rightU ⟨cs, mu, bs2⟩ := ⟨_, rfl⟩
    have HRX : Hid (∀ W, Keeps NoBlk wB W → Calls Tryz.prog 14 #[.agg #[.slice uca n0 ucc, .int .i64 mu, .slice (some ⟨g4, 0, none⟩) (n2 + 1) p4]] W fun e w' => e = .returned (.bool r2) ∧ Keeps NoBlk W w') := fun W hk => by
      have h := (UB.out.keeps0 hk).right (mu := mu) (ucc := ucc) (utc := p4) HOK2.out
      rw [HL2B.out, ← HN2.out, ← HN0.out, ← hr2] at h; exact h
    have HTX : Hid (r2 = true → ∀ W, Keeps NoBlk wB W → Calls Tryz.prog 8 #[.agg #[.slice uca n0 ucc, .int .i64 mu, .slice (some ⟨g4, 0, none⟩) (n2 + 1) p4]] W fun e w' => e = .returned (.string (tell true (unS bs2))) ∧ Keeps NoBlk W w') := fun hr W hk => by
      have h := (UB.out.keeps0 hk).steps (mu := mu) (ucc := ucc) (utc := p4) HOK2.out (HTB.out.keeps (below_keeps (KB.out.trans0 hk)))
      rw [HL2B.out, ← HN2.out, ← HN0.out, ← hr2, hr] at h; exact h
    have HWX : Hid (r2 = true → ∀ W, Keeps NoBlk wB W → Calls Tryz.prog 9 #[.agg #[.slice uca n0 ucc, .int .i64 mu, .slice (some ⟨g4, 0, none⟩) (n2 + 1) p4]] W fun e w' => e = .returned (.string (tell true (unW bs2))) ∧ Keeps NoBlk W w') := fun hr W hk => by
      have h := (UB.out.keeps0 hk).work (mu := mu) (ucc := ucc) (utc := p4) HOK2.out (HTB.out.keeps (below_keeps (KB.out.trans0 hk)))
      rw [HL2B.out, ← HN2.out, ← HN0.out, ← hr2, hr] at h; exact h
    have HAB1 : Hid (∀ W, Calls Tryz.prog 15 #[.string (tell true (unS bs2)), .string (tell true sS)] W fun e w' => e = .returned (.bool true) ∧ Keeps NoBlk W w') := fun W => by
      have h := above_law (tell true (unS bs2)) (tell true sS) W
      rw [more_less HG2.out.1] at h; exact h
    have HAB2 : Hid (∀ W, Calls Tryz.prog 15 #[.string (tell true (unW bs2)), .string (tell true sW)] W fun e w' => e = .returned (.bool true) ∧ Keeps NoBlk W w') := fun W => by
      have h := above_law (tell true (unW bs2)) (tell true sW) W
      rw [more_less HG2.out.2] at h; exact h
    generalize tell true (unS bs2) = uS at HTX HAB1
    generalize tell true (unW bs2) = uW at HWX HAB2
    clear hr2
    cases r2
    · go_wp2_with (go_at_call 14; refine (HRX.out _ (Keeps.refl _ _)).mono ?_; rintro e w31 ⟨rfl, g0⟩; have K31 : Hid (Keeps NoBlk w w31) := KB.out.trans0 g0; have c := (RV.out.keeps g0 (fun h => h)).three; clear v0 v1 v2; obtain ⟨v0, v1, v2⟩ := c; have RV := Lib.hid (RV.out.keeps g0 (fun h => h)); clear g0)
      go_ret
      exact ⟨rfl, K31.out⟩
    · have HTU := Lib.hid (HTX.out rfl)
      have HWU := Lib.hid (HWX.out rfl)
      clear HTX HWX
      have KBB : Hid (Keeps NoBlk wB wB) := Keeps.refl _ _
      go_upto_region 32 with (go_at_call 14; refine (HRX.out _ KBB.out).mono ?_; rintro e w31 ⟨rfl, g0⟩; have K31 : Hid (Keeps NoBlk wB w31) := KBB.out.trans0 g0; have c := (RV.out.keeps g0 (fun h => h)).three; clear v0 v1 v2; obtain ⟨v0, v1, v2⟩ := c; have RV := Lib.hid (RV.out.keeps g0 (fun h => h)); clear g0)
      go_upto_region 33 with (go_at_call 8; refine (HTU.out _ K31.out).mono ?_; rintro e w32 ⟨rfl, g0⟩; have K32 : Hid (Keeps NoBlk wB w32) := K31.out.trans0 g0; have c := (RV.out.keeps g0 (fun h => h)).three; clear v0 v1 v2; obtain ⟨v0, v1, v2⟩ := c; have RV := Lib.hid (RV.out.keeps g0 (fun h => h)); clear g0)
      go_upto_region 34 with (go_at_call 9; refine (HWU.out _ K32.out).mono ?_; rintro e w33 ⟨rfl, g0⟩; have K33 : Hid (Keeps NoBlk wB w33) := K32.out.trans0 g0; have c := (RV.out.keeps g0 (fun h => h)).three; clear v0 v1 v2; obtain ⟨v0, v1, v2⟩ := c; have RV := Lib.hid (RV.out.keeps g0 (fun h => h)); clear g0)
      go_upto_region 35 with (go_at_call 15; refine (HAB1.out _).mono ?_; rintro e w34 ⟨rfl, g0⟩; have K34 : Hid (Keeps NoBlk wB w34) := K33.out.trans0 g0; have c := (RV.out.keeps g0 (fun h => h)).three; clear v0 v1 v2; obtain ⟨v0, v1, v2⟩ := c; have RV := Lib.hid (RV.out.keeps g0 (fun h => h)); clear g0)
      go_wp2_with (go_at_call 15; refine (HAB2.out _).mono ?_; rintro e w35 ⟨rfl, g0⟩; have K35 : Hid (Keeps NoBlk wB w35) := K34.out.trans0 g0; have c := (RV.out.keeps g0 (fun h => h)).three; clear v0 v1 v2; obtain ⟨v0, v1, v2⟩ := c; have RV := Lib.hid (RV.out.keeps g0 (fun h => h)); clear g0)
      go_ret
      exact ⟨rfl, KB.out.trans0 K35.out⟩
end Go.Proofs.YtbkkpcignmcjnaaGreatDoor

/- Layer 7: the walk of BoundMore. -/
namespace Go.Proofs.YtbkkpcignmcjnaaGreatDoor
open Go.RowKit
set_option linter.unusedVariables false
set_option linter.unusedSimpArgs false
set_option linter.unnecessarySimpa false

theorem boundMore_any (cs : List Int) (mu : Int) (bs : List Bd) (w : World) (F : Nat → Prop) (uca uta : Option Addr) (ucc utc : Nat) (th at_ : Int) (hN : NumsAt w F cs uca) (hC : BdsCap w F bs uta) (hF : ∀ q, F q → q < w.heap.size) (ok : UnOk2 cs bs) (htab : TabP w) :
    Calls Tryz.prog 6 #[.agg #[.slice uca cs.length ucc, .int .i64 mu, .slice uta bs.length utc], .int .i64 th, .int .i64 at_] w fun e w' => e = .returned (.bool true) ∧ Keeps NoBlk w w' := by
  have hU : UnAt w F cs bs uca uta := ⟨hN, hC.at, hF⟩
  have HS : Hid (∀ W, Keeps NoBlk w W → Calls Tryz.prog 7 #[] W fun e w' => e = .returned (.bool true) ∧ Keeps NoBlk W w') := fun W hk => shown_any W (htab.keeps (below_keeps hk))
  obtain ⟨r, hr⟩ : ∃ r, r = rightU ⟨cs, mu, bs⟩ := ⟨_, rfl⟩
  have HR : Hid (∀ W, Keeps NoBlk w W → Calls Tryz.prog 14 #[.agg #[.slice uca cs.length ucc, .int .i64 mu, .slice uta bs.length utc]] W fun e w' => e = .returned (.bool r) ∧ Keeps NoBlk W w') := fun W hk => by
    have := (hU.keeps0 hk).right (mu := mu) (ucc := ucc) (utc := utc) ok.ok
    rw [← hr] at this; exact this
  cases r
  · exact more_no w mu th at_ _ _ uca uta ucc utc HS HR
  · by_cases q1 : 0 ≤ th
    · by_cases q2 : 0 ≤ at_
      · obtain ⟨hb1, hb8⟩ := right_th hr.symm
        have hb1' : 1 ≤ bs.length := hb1
        have hb8' : bs.length ≤ 8 := hb8
        obtain ⟨L, hT, hS, hO, hAt⟩ := hC.th utc
        obtain ⟨t, htt⟩ : ∃ t, t = th.toNat % bs.length := ⟨_, rfl⟩
        have ht : t < bs.length := by rw [htt]; exact Nat.mod_lt _ (by omega)
        have hrt : Int.tmod th (bs.length : Int) = (t : Int) := by rw [htt]; exact tmod_nat q1 _
        obtain ⟨gu, ou, ba, bc, rfl, hgu, hLt, hct, hA, hcap⟩ := hAt t ht
        rw [getElem!_pos bs t ht] at hLt hct hA hcap
        obtain ⟨m, hm⟩ : ∃ m, m = bs[t].acts.length := ⟨_, rfl⟩
        rw [← hm] at hLt hct hcap
        obtain ⟨k, hkk⟩ : ∃ k, k = at_.toNat % (m + 1) := ⟨_, rfl⟩
        have hkm : k ≤ m := by rw [hkk]; exact Nat.le_of_lt_succ (Nat.mod_lt _ (by omega))
        have hrk : Int.tmod at_ ((m : Int) + 1) = (k : Int) := by
          rw [hkk]
          have := tmod_nat q2 (m + 1)
          rwa [Int.natCast_add] at this
        have h2 := tmod_nat q2 2
        have hp : at_.toNat % 2 = 0 ∨ at_.toNat % 2 = 1 := by omega
        rcases hp with hp | hp
        · rw [hp] at h2
          exact more_even cs mu bs w F uca gu ou ucc utc th at_ t k hN hF ok hr.symm q1 q2 ht hb8' hrt m bc ba hm hrk hkm hcap h2 L hT hS hO hgu hLt hct hA hU htab
        · rw [hp] at h2
          exact more_odd cs mu bs w F uca gu ou ucc utc th at_ t k hN hF ok hr.symm q1 q2 ht hb8' hrt m bc ba hm hrk hkm hcap h2 L hT hS hO hgu hLt hct hA hU htab
      · exact more_at w mu th at_ _ _ uca uta ucc utc q1 (by omega) HS HR
    · exact more_neg w mu th at_ _ _ uca uta ucc utc (by omega) HS HR
end Go.Proofs.YtbkkpcignmcjnaaGreatDoor
