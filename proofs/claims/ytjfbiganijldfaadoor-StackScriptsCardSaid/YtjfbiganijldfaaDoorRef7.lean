/- The reference's calls on rows of nodes: Open. -/
import Derived.Test.YtjfbiganijldfaaDoorRef6
import Derived.Great.BuildSlice
import Derived.Great.Walk
import Derived.Deep.WholeRow
import Derived.Deep.MidRow
namespace Go.Proofs.YtjfbiganijldfaaDoor
open Go.RowKit
set_option linter.unusedVariables false
set_option linter.unusedSimpArgs false
set_option linter.unnecessarySimpa false

section
variable (g n cap : Nat) (ad : Option Addr) (a e : Int) (w : World)
set_option maxHeartbeats 400000 in
theorem ropen_full :
    Calls Tryd.prog 15 #[.slice ad 61 cap, .int .u64 a, .int .u64 e] w fun r w' => r = .returned (.tuple #[.slice ad 61 cap, .bool false]) ∧ w' = w := by
  go_enter Tryd.func15, Tryd.ntmps15
  go_wp2
  go_ret2
  exact ⟨rfl, rfl⟩
set_option maxHeartbeats 400000 in
theorem ropen_top (hn : n ≤ 59) (ht : w.cell? ⟨g, n * 25 + 24, none⟩ = some (.int .i64 (-1))) :
    Calls Tryd.prog 15 #[.slice (some ⟨g, 0, none⟩) (n + 1) cap, .int .u64 a, .int .u64 e] w fun r w' => r = .returned (.tuple #[.slice (some ⟨g, 0, none⟩) (n + 1) cap, .bool false]) ∧ w' = w := by
  have e1 := wrapNat n (by omega)
  have e2 : (0 : Int) ≤ n := by omega
  have e3 : (n : Int) < (n : Int) + 1 := by omega
  have e4 : ((n : Int) + 1 == 61) = false := by rw [beq_eq_false_iff_ne]; omega
  have e5 : (0 : Int) < (n : Int) + 1 := by omega
  go_enter Tryd.func15, Tryd.ntmps15
  go_wp2
  go_ret2
  exact ⟨rfl, rfl⟩

theorem bitsN_mod (s : Int) (hs : 0 ≤ s) : bitsN (s % 256) = bitsN s := by
  unfold bitsN
  apply List.map_congr_left
  intro i hi
  have hi' : i < 8 := by simpa using hi
  have : (s % 256).toNat = s.toNat % 2 ^ 8 := by omega
  rw [this, Nat.testBit_mod_two_pow]
  simp [hi']
end

/-- the head of a range is written over -/
theorem range_put {w : World} {b o : Nat} {p p' q : List Value} (h : w.rangeAt b o (p ++ q)) (ht : w.there b o (p ++ q).length) (hl : p'.length = p.length) : (w.setCells b o p').rangeAt b o (p' ++ q) := by
  intro j v hj
  rcases Nat.lt_or_ge j p'.length with hlt | hge
  · rw [List.getElem?_append_left hlt] at hj
    exact World.rangeAt_setCells_same w b o p' (fun i hi => ht i (by rw [List.length_append]; omega)) j v hj
  · rw [World.cell?_setCells_out b p' o w ⟨b, o + j, none⟩ (fun _ _ => .inr (by show o + p'.length ≤ o + j; omega))]
    rw [List.getElem?_append_right hge, hl] at hj
    exact h j v (by rw [List.getElem?_append_right (by omega)]; exact hj)
theorem there_setCells' {w : World} {b o n : Nat} (ht : w.there b o n) (vs : List Value) (hn : vs.length ≤ n) : (w.setCells b o vs).there b o n := by
  intro j hj
  refine ⟨?_, by rw [World.frozen?_setCells]; exact (ht j hj).2⟩
  rcases Nat.lt_or_ge j vs.length with hlt | hge
  · rw [World.cell?_setCells_in b vs o w (fun i hi => (ht i (by omega)).1) j hlt]; rfl
  · rw [World.cell?_setCells_out b vs o w ⟨b, o + j, none⟩ (fun _ _ => .inr (by show o + vs.length ≤ o + j; omega))]
    exact (ht j hj).1
theorem Keeps.setCells {S : Nat → Prop} {w : World} {b : Nat} (hb : b < w.heap.size → S b) : ∀ (vs : List Value) (o : Nat) (w' : World), Keeps S w w' → Keeps S w (w'.setCells b o vs)
  | [], _, _, h => h
  | v :: r, o, w', h => Keeps.setCells hb r (o + 1) _ (h.setCell (p := ⟨b, o, none⟩) hb v)
theorem range_cell {w : World} {b o : Nat} {cs : List Value} (h : w.rangeAt b o cs) (j : Nat) (v : Value) (hj : cs[j]? = some v) : w.cell? ⟨b, o + j, none⟩ = some v := h j v hj
theorem range_set {w : World} {b o : Nat} {cs : List Value} (h : w.rangeAt b o cs) (k : Nat) (hk : k < cs.length) (u : Value) : (w.setCell ⟨b, o + k, none⟩ u).rangeAt b o (cs.set k u) := by
  intro j v hj
  by_cases e : j = k
  · subst e
    rw [List.getElem?_set_self hk] at hj
    obtain ⟨x, hx⟩ : ∃ x, cs[j]? = some x := ⟨_, List.getElem?_eq_getElem hk⟩
    cases hj
    exact World.cell?_setCell_same _ _ _ (h j x hx)
  · rw [List.getElem?_set_ne (fun e' => e e'.symm)] at hj
    rw [World.cell?_setCell_other _ _ _ _ (by simp; try omega)]
    exact h j v hj
theorem range_of_block {w : World} {b : Nat} {cs : List Value} {t : TypeId} {fr : Nat × Nat} (h : w.heap[b]? = some (.cells cs.toArray t fr)) : w.rangeAt b 0 cs := fun j v hj => by
  rw [Nat.zero_add, cell_of_row w b j _ t fr h]
  simpa using hj
theorem there_of_block {w : World} {b : Nat} {cs : List Value} {t : TypeId} (h : w.heap[b]? = some (.cells cs.toArray t (0, 0))) : w.there b 0 cs.length := fun j hj => by
  refine ⟨?_, ?_⟩
  · rw [Nat.zero_add, cell_of_row w b j _ t _ h]
    simp [hj]
  · exact frozen_of_row w b _ _ _ h
theorem range_keeps {S : Nat → Prop} {w w' : World} {b o : Nat} {cs : List Value} (h : w.rangeAt b o cs) (hk : Keeps S w w') (hb : ¬ S b) : w'.rangeAt b o cs := fun j v hj => hk.cell (p := ⟨b, o + j, none⟩) hb (h j v hj)
theorem bitsV_one (s : Int) : ((bitsN s).map Value.bool).toArray.size = 8 ∧ ((bitsN s).map Value.bool).toArray.all (·.oneCell') = true :=
  ⟨by simp [bitsN_len], all_oneCell_toArray (fun v hv => by obtain ⟨b, _, rfl⟩ := List.mem_map.1 hv; rfl)⟩
theorem infoRNode : (Tryd.prog.info? 61).map (fun i => (i.zero, i.size, i.bytes)) = some (some (.agg (Nd.rcells ⟨0, 0, 0, 0⟩).toArray), 25, 32) := by kernel_rfl
theorem built_rnode (x : Nd) : Tryd.prog.builtSlice 61 1 [(0, .agg x.rcells.toArray)] = some x.rcells.toArray := by kernel_rfl
theorem rcells_one (x : Nd) : ∀ u ∈ x.rcells, u.oneCell' = true := by
  intro u hu
  simp only [Nd.rcells, List.mem_append, List.mem_map, List.mem_singleton] at hu
  rcases hu with ⟨_, _, rfl⟩ | ⟨_, _, rfl⟩ | ⟨_, _, rfl⟩ | rfl <;> rfl
end Go.Proofs.YtjfbiganijldfaaDoor
