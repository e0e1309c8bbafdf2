/- Contracts of the methods of package stack: Node, Insert, whole. -/
import Derived.Test.YtjfbiganijldfaaDoorStk4
namespace Go.Proofs.YtjfbiganijldfaaDoor
open Go.RowKit
set_option linter.unusedVariables false
set_option linter.unusedSimpArgs false
set_option linter.unnecessarySimpa false

/-- what Insert does -/
def insNd (x : Nd) (ini : Int) : Nd := { x with back := if bits .and .u64 (ini % 256) (bits .or .u64 x.back x.sleep) = 0 then putN x.back (leastN ini) else x.back }
def insertN (L : List Nd) (i ini : Int) : Bool × List Nd :=
  if i < 0 then (false, L) else match L[i.toNat]? with
    | none => (false, L)
    | some x => ((insNd x ini).back != x.back, L.set i.toNat (insNd x ini))

theorem node_any (w : World) (b : Nat) (v : Value) (L : List Nd) (i : Int) (h : StackAt w b v L) (hok : StkOk L) :
    Calls Tryd.prog 31 #[.pointer (some ⟨b, 0, none⟩), .int .i64 i] w fun e w' => e = .returned (match (if i < 0 then none else L[i.toNat]?) with | none => .tuple #[.agg #[.int .u64 0, .int .u64 0, .int .u64 0, .int .i64 0], .bool false] | some x => .tuple #[.agg #[.int .u64 x.sleep, .int .u64 x.back, .int .u64 x.done, .int .i64 x.thread], .bool true]) ∧ Below w.heap.size w w' := by
  obtain ⟨ad, cap, rfl⟩ : ∃ ad cap, v = .slice ad L.length cap := by
    rcases h.shape with ⟨rfl, rfl⟩ | ⟨g, cap, rfl, _⟩
    · exact ⟨_, _, rfl⟩
    · exact ⟨_, _, rfl⟩
  by_cases hi : i < 0
  · rw [if_pos hi]
    exact node_raw_none ad b L.length cap i w h.cell0 (.inl hi)
  · rw [if_neg hi]
    cases hx : L[i.toNat]? with
    | none => exact node_raw_none ad b L.length cap i w h.cell0 (.inr (by have := List.getElem?_eq_none_iff.1 hx; omega))
    | some x =>
      have hlt := (List.getElem?_eq_some_iff.1 hx).1
      obtain ⟨j, rfl⟩ := Int.eq_ofNat_of_zero_le (show 0 ≤ i by omega)
      rcases h.shape with ⟨_, e⟩ | ⟨g, cap', e, _⟩
      · subst e; simp at hlt
      · simp at e
        obtain ⟨rfl, rfl⟩ := e
        have hg := h.get hx
        exact node_raw_some b g L.length cap x.sleep x.back x.done x.thread w j (by simpa using hlt) hok.1 h.cell0 (by simpa using hg.1) (by simpa using hg.2.1) (by simpa using hg.2.2.1) (by simpa using hg.2.2.2)

theorem insert_any (w : World) (b : Nat) (v : Value) (L : List Nd) (i ini : Int) (h : StackAt w b v L) (hok : StkOk L) (hT : TabOK w) (hini : 0 ≤ ini ∧ ini < 18446744073709551616) :
    Calls Tryd.prog 20 #[.pointer (some ⟨b, 0, none⟩), .int .i64 i, .int .u64 ini] w (StkPost w b v (.bool (insertN L i ini).1) (insertN L i ini).2) := by
  have hnode := node_any w b v L i h hok
  have hno : (if i < 0 then none else L[i.toNat]?) = none → insertN L i ini = (false, L) := by
    intro e
    unfold insertN
    split at e
    · rw [if_pos ‹_›]
    · rw [if_neg ‹_›, e]
  cases hx : (if i < 0 then none else L[i.toNat]?) with
  | none =>
    rw [hno hx]
    rw [hx] at hnode
    refine (insert_raw_none b ini i w hnode).mono ?_
    rintro e w' ⟨rfl, hb⟩
    exact ⟨v, rfl, h.keeps (Keeps.ofBelow hb NoBlk) (fun _ _ h => h), Keeps.ofBelow hb _, fun k hk => .inl hk⟩
  | some x =>
    have hi : ¬ i < 0 := by intro hi; rw [if_pos hi] at hx; cases hx
    rw [if_neg hi] at hx hnode
    rw [hx] at hnode
    have hlt := (List.getElem?_eq_some_iff.1 hx).1
    obtain ⟨j, rfl⟩ := Int.eq_ofNat_of_zero_le (show 0 ≤ i by omega)
    rw [Int.toNat_natCast] at hx hlt
    rw [show insertN L j ini = ((insNd x ini).back != x.back, L.set j (insNd x ini)) by unfold insertN; rw [if_neg (by omega), Int.toNat_natCast, hx]]
    rcases h.shape with ⟨_, e⟩ | ⟨g, cap, rfl, hg, hn, hm⟩
    · subst e; simp at hlt
    have hget := h.get hx
    refine insert_raw_some b g L.length cap x.sleep x.back x.done x.thread ini w j hlt hok.1 hg h.cell0 hget.1 hget.2.1 hget.2.2.1 hget.2.2.2 (fun k => h.free k) hini hT _ (insNd x ini).back ?_ rfl hnode
    intro W k hW
    have h1 := h.keeps hW (fun _ _ h => h)
    have es : ∀ z z' : Nd, (L.set j z).set j z' = L.set j z' := fun z z' => by simp
    have eg : ∀ z : Nd, (L.set j z)[j]? = some z := fun z => by simp [hlt]
    have h2 := h1.set (i := j) (j := 0) (by decide) (x := x) (y := x) hx (u := .int .u64 x.sleep) rfl
    have h3 := h2.set (i := j) (j := 1) (by decide) (x := x) (y := insNd x ini) (eg _) (u := .int .u64 (insNd x ini).back) rfl
    rw [es] at h3
    have h4 := h3.set (i := j) (j := 2) (by decide) (x := insNd x ini) (y := insNd x ini) (eg _) (u := .int .u64 x.done) rfl
    rw [es] at h4
    have h5 := h4.set (i := j) (j := 3) (by decide) (x := insNd x ini) (y := insNd x ini) (eg _) (u := .int .i64 x.thread) rfl
    rw [es] at h5
    refine ⟨.slice (some ⟨g, 0, none⟩) L.length cap, rfl, ?_, ?_, fun k hk => .inl hk⟩
    · have h6 := h5.drewN k
      rw [List.length_set] at h6
      exact h6
    · exact (((((hW.mono (fun _ _ h => h.elim)).setCell (fun _ => .inr rfl) _).setCell (fun _ => .inr rfl) _).setCell (fun _ => .inr rfl) _).setCell (fun _ => .inr rfl) _).drewN k
end Go.Proofs.YtjfbiganijldfaaDoor
