/- slices.Clone, slices.Clip. -/
import Derived.Test.YtmkfpkficmmlgaaK02
import Derived.Test.YtmkfpkficmmlgaaK08
import Derived.Lib.BufferMore
namespace Go.Proofs.Ytmkfpkficmmlgaa
open Go.RowKit
set_option linter.unusedVariables false
set_option linter.unusedSimpArgs false
set_option linter.unnecessarySimpa false

theorem infoIns : (Try.prog.info? 48).map (fun i => (i.zero, i.size, i.bytes)) = some (some (.agg #[.int .i64 0, .int .i64 0, .int .i64 0, .int .i64 0]), 4, 32) := by kernel_rfl
def insC (i : Ins) : List Value := [.int .i64 i.op, .int .i64 i.a, .int .i64 i.b, .int .i64 i.c]
def insCells (l : List Ins) : List Value := l.flatMap insC
theorem insCells_len (l : List Ins) : (insCells l).length = l.length * 4 := length_cells insC 4 (fun _ => rfl) l
theorem ints_one (xs : List Int) : ∀ u ∈ ints xs, u.oneCell' = true := by
  intro u hu
  simp only [ints, List.mem_map] at hu
  obtain ⟨k, _, rfl⟩ := hu
  rfl
theorem insCells_one (l : List Ins) : ∀ u ∈ insCells l, u.oneCell' = true := by
  intro u hu
  simp only [insCells, List.mem_flatMap] at hu
  obtain ⟨k, _, hk⟩ := hu
  simp only [insC, List.mem_cons, List.not_mem_nil, or_false] at hk
  rcases hk with rfl | rfl | rfl | rfl <;> rfl
/-- a call that makes a row of its own -/
def NewRow (e : TypeId) (size : Nat) (w : World) (n : Nat) (cs : List Value) (r : Ending) (w' : World) : Prop :=
  ∃ ad cap, r = .returned (.slice ad n cap) ∧ w'.ownsRow 0 e size (.slice ad n cap) n cs ∧ Keeps NoBlk w w' ∧ ∀ kb, (Value.slice ad n cap).ownBlock = some kb → w.heap.size ≤ kb

set_option maxRecDepth 8000 in
set_option maxHeartbeats 1000000 in
theorem clone_ints (w : World) (v : Value) (xs : List Int) (h : SrcAt w v xs.length (ints xs)) (hb : xs.length * 8 ≤ 140737488355328) :
    Calls Try.prog 21 #[v] w (NewRow 3 1 w xs.length (ints xs)) := by
  obtain ⟨i0, hi0, hz0, hz1, hz2⟩ := info_parts infoInt
  have HS := Lib.hid h
  obtain ⟨ad, cap, rfl, hc⟩ := h
  have h0 : ad = none → xs = [] := fun e => by
    cases xs with
    | nil => rfl
    | cons a r => obtain ⟨g, o, e2, _⟩ := hc (by simp); rw [e] at e2; cases e2
  clear hc
  cases ad with
  | none =>
    obtain rfl := h0 rfl
    have hnil : ∀ W, (binOp .eql 22 (.slice none 0 cap) (.slice none 0 0)).run Try.prog W = .ok (.bool true) W := fun W => Lib.run_eql_slice_nil_nil W _ _ Try.underlying22
    go_enter Try.func21, Try.ntmps21
    go_wp2
    go_ret
    exact ⟨none, 0, rfl, World.ownsRow_nil _ _ _ _, Keeps.refl _ _, fun kb e => by simp [Value.ownBlock] at e⟩
  | some a =>
    clear h0
    obtain ⟨n, hn⟩ : ∃ n, n = xs.length := ⟨_, rfl⟩
    have HL : Hid ((ints xs).length = n * 1) := by show _ = _; rw [ints_len, hn, Nat.mul_one]
    rw [← hn] at HS hb ⊢
    have HB : Hid (n * 8 ≤ 140737488355328) := hb
    clear hb hn
    have hnil : ∀ W, (binOp .eql 22 (.slice (some a) n cap) (.slice none 0 0)).run Try.prog W = .ok (.bool false) W := fun W => Lib.run_eql_slice_some_nil W _ _ _ Try.underlying22
    go_enter Try.func21, Try.ntmps21
    go_wp2_with (at_builtin; refine wpList_append_src _ (by rfl) _ _ 22 (by rfl) 0 3 i0 _ 1 8 Try.underlying22 hi0 hz0 hz1 hz2 rfl (by decide) (.slice (some ⟨w.heap.size, 0, none⟩) 0 0) 0 [] (by rfl) (World.ownsRow_lit w #[] 0 (Nat.zero_le _) (by unfold maxLen; omega) rfl) (.slice (some a) n cap) n (ints xs) (by rfl) (HS.out.keeps (S := NoBlk) ((Keeps.refl _ _).alloc _) (fun _ _ h => h)) HL.out (ints_one xs) (by have := HB.out; unfold maxLen; omega) (by have := HB.out; omega) (Nat.zero_le _) ?_; intro ad' cap' w6 hout; have HO := Lib.hid hout; clear hout)
    go_ret
    have hO := HO.out
    refine ⟨ad', cap', by simp, ?_, hO.keeps ((Keeps.refl _ _).alloc _) (fun k e hlt => by simp [Value.ownBlock] at e; omega), fun kb e => ?_⟩
    · have := hO.1
      rw [Nat.zero_add, List.nil_append] at this
      exact this
    · rcases hO.2.2 kb (by rw [Nat.zero_add]; exact e) with h1 | h1
      · simp [Value.ownBlock] at h1; omega
      · simp at h1; omega
set_option maxRecDepth 8000 in
set_option maxHeartbeats 1000000 in
theorem clone_ins (w : World) (v : Value) (xs : List Ins) (h : SrcAt w v xs.length (insCells xs)) (hb : xs.length * 32 ≤ 140737488355328) :
    Calls Try.prog 23 #[v] w (NewRow 48 4 w xs.length (insCells xs)) := by
  obtain ⟨i0, hi0, hz0, hz1, hz2⟩ := info_parts infoIns
  have HS := Lib.hid h
  obtain ⟨ad, cap, rfl, hc⟩ := h
  have h0 : ad = none → xs = [] := fun e => by
    cases xs with
    | nil => rfl
    | cons a r => obtain ⟨g, o, e2, _⟩ := hc (by simp); rw [e] at e2; cases e2
  clear hc
  cases ad with
  | none =>
    obtain rfl := h0 rfl
    have hnil : ∀ W, (binOp .eql 49 (.slice none 0 cap) (.slice none 0 0)).run Try.prog W = .ok (.bool true) W := fun W => Lib.run_eql_slice_nil_nil W _ _ Try.underlying49
    go_enter Try.func23, Try.ntmps23
    go_wp2
    go_ret
    exact ⟨none, 0, rfl, World.ownsRow_nil _ _ _ _, Keeps.refl _ _, fun kb e => by simp [Value.ownBlock] at e⟩
  | some a =>
    clear h0
    obtain ⟨n, hn⟩ : ∃ n, n = xs.length := ⟨_, rfl⟩
    have HL : Hid ((insCells xs).length = n * 4) := by show _ = _; rw [insCells_len, hn]
    rw [← hn] at HS hb ⊢
    have HB : Hid (n * 32 ≤ 140737488355328) := hb
    clear hb hn
    have hnil : ∀ W, (binOp .eql 49 (.slice (some a) n cap) (.slice none 0 0)).run Try.prog W = .ok (.bool false) W := fun W => Lib.run_eql_slice_some_nil W _ _ _ Try.underlying49
    go_enter Try.func23, Try.ntmps23
    go_wp2_with (at_builtin; refine wpList_append_src _ (by rfl) _ _ 49 (by rfl) 0 48 i0 _ 4 32 Try.underlying49 hi0 hz0 hz1 hz2 rfl (by decide) (.slice (some ⟨w.heap.size, 0, none⟩) 0 0) 0 [] (by rfl) (World.ownsRow_lit w #[] 0 (Nat.zero_le _) (by unfold maxLen; omega) rfl) (.slice (some a) n cap) n (insCells xs) (by rfl) (HS.out.keeps (S := NoBlk) ((Keeps.refl _ _).alloc _) (fun _ _ h => h)) HL.out (insCells_one xs) (by have := HB.out; unfold maxLen; omega) (by have := HB.out; omega) (Nat.zero_le _) ?_; intro ad' cap' w6 hout; have HO := Lib.hid hout; clear hout)
    go_ret
    have hO := HO.out
    refine ⟨ad', cap', by simp, ?_, hO.keeps ((Keeps.refl _ _).alloc _) (fun k e hlt => by simp [Value.ownBlock] at e; omega), fun kb e => ?_⟩
    · have := hO.1
      rw [Nat.zero_add, List.nil_append] at this
      exact this
    · rcases hO.2.2 kb (by rw [Nat.zero_add]; exact e) with h1 | h1
      · simp [Value.ownBlock] at h1; omega
      · simp at h1; omega

theorem InsAt.src {w : World} {T : Tags} {v : Value} {l : List Ins} (h : InsAt w T v l) : SrcAt w v l.length (insCells l) := by
  obtain ⟨ad, cap, rfl, h1⟩ := h
  refine ⟨ad, cap, rfl, fun hn => ?_⟩
  obtain ⟨g, o, rfl, _⟩ := h1 0 (by omega)
  refine ⟨g, o, rfl, fun j u hj => ?_⟩
  have hjl : j < l.length * 4 := by have := (List.getElem?_eq_some_iff.1 hj).1; rwa [insCells_len] at this
  have hk : j / 4 < l.length := by omega
  have e : j = j / 4 * 4 + j % 4 := by omega
  have hr : j % 4 < 4 := Nat.mod_lt _ (by decide)
  obtain ⟨g', o', e1, _, c0, c1, c2, c3⟩ := h1 (j / 4) hk
  simp only [Option.some.injEq, Addr.mk.injEq, and_true] at e1
  obtain ⟨rfl, rfl⟩ := e1
  rw [e] at hj ⊢
  unfold insCells at hj
  rw [get_cells insC 4 (fun _ => rfl) l (j / 4) (j % 4) hr, List.getElem?_eq_getElem hk] at hj
  have eg : l.getD (j / 4) Ins.zero = l[j / 4] := by simp [List.getD, hk]
  rw [eg] at c0 c1 c2 c3
  generalize j / 4 = k at *
  generalize j % 4 = r at *
  simp only [Option.bind_some, insC] at hj
  rcases (by omega : r = 0 ∨ r = 1 ∨ r = 2 ∨ r = 3) with rfl | rfl | rfl | rfl <;> simp at hj <;> subst hj
  · exact c0
  · exact c1
  · exact c2
  · exact c3
/-- a row of instructions of its own, tagged as code -/
theorem InsAt.of {w : World} {T : Tags} {v : Value} {n B : Nat} {l : List Ins} (h : FRow w B v n (insCells l)) (hn : n = l.length) (hT : ∀ k, v.ownBlock = some k → Cd T k) : InsAt w T v l := by
  subst hn
  obtain ⟨ad, cap, rfl, _, _, h1⟩ := h
  refine ⟨ad, cap, rfl, fun k hk => ?_⟩
  obtain ⟨g, rfl, hB, hR⟩ := h1 (by omega)
  have key : ∀ r, r < 4 → w.cell? ⟨g, k * 4 + r, none⟩ = (insC (l.getD k Ins.zero))[r]? := fun r hr => by
    have e1 : (insCells l)[k * 4 + r]? = (insC (l.getD k Ins.zero))[r]? := by
      unfold insCells
      rw [get_cells insC 4 (fun _ => rfl) l k r hr, List.getElem?_eq_getElem hk]
      simp [List.getD, hk]
    have e2 : (insC (l.getD k Ins.zero))[r]? = some ((insC (l.getD k Ins.zero))[r]'(by show r < 4; exact hr)) := List.getElem?_eq_getElem _
    rw [e2] at e1 ⊢
    exact hR.cell e1
  refine ⟨g, 0, rfl, hT g rfl, ?_, ?_, ?_, ?_⟩
  · rw [Nat.zero_add]; exact key 0 (by decide)
  · rw [Nat.zero_add]; exact key 1 (by decide)
  · rw [Nat.zero_add]; exact key 2 (by decide)
  · rw [Nat.zero_add]; exact key 3 (by decide)

set_option maxRecDepth 8000 in
set_option maxHeartbeats 1000000 in
theorem clip_some (w : World) (g n cap : Nat) (hn : n ≤ cap) (hm : cap ≤ maxLen) :
    Calls Try.prog 40 #[.slice (some ⟨g, 0, none⟩) n cap] w fun e w' => e = .returned (.slice (some ⟨g, 0, none⟩) n n) ∧ w' = w := by
  have h1 : (0 : Int) ≤ n := by omega
  have h2 : (n : Int) ≤ cap := by omega
  have h3 : (cap : Int) ≤ 9223372036854775807 := by unfold maxLen at hm; omega
  go_enter Try.func40, Try.ntmps40
  go_wp2
  go_ret
  exact ⟨by simp, rfl⟩
set_option maxRecDepth 8000 in
set_option maxHeartbeats 1000000 in
theorem clip_none (w : World) :
    Calls Try.prog 40 #[.slice none 0 0] w fun e w' => e = .returned (.slice none 0 0) ∧ w' = w := by
  go_enter Try.func40, Try.ntmps40
  go_wp2
  go_ret
  exact ⟨by simp, rfl⟩
/-- Clip, of an owned row -/
theorem clip_any (w : World) (ad : Option Addr) (n cap : Nat) (xs : List Int) (h : w.ownsRow 0 3 1 (.slice ad n cap) n (ints xs)) :
    Calls Try.prog 40 #[.slice ad n cap] w fun e w' => e = .returned (.slice ad n n) ∧ w' = w := by
  rcases h.2 with ⟨e, rfl⟩ | ⟨g, cap', cur, e, _, _, h1, h2, _⟩
  · cases e; exact clip_none w
  · cases e; exact clip_some w g n cap h1 h2
end Go.Proofs.Ytmkfpkficmmlgaa

/- Package vm: how a step's work turns a machine and its event. -/
namespace Go.Proofs.Ytmkfpkficmmlgaa
open Go.RowKit
set_option linter.unusedVariables false
set_option linter.unusedSimpArgs false
set_option linter.unnecessarySimpa false

theorem FrG.other {w : World} {T : Tags} {id g : Nat} {H : List HFr} {fr : List Fr} (h : FrG w T id g H fr) {p : Addr} (h1 : T p.block ≠ some (id, .frames)) (h2 : ∀ i, T p.block ≠ some (id, .regs i)) (u : Value) : FrG (w.setCell p u) T id g H fr :=
  ⟨h.tag, h.row.other (fun e => h1 (by rw [e]; exact h.tag)) u, h.len, fun i a f e1 e2 => ⟨(h.each i a f e1 e2).1, (h.each i a f e1 e2).2.1, (h.each i a f e1 e2).2.2.other (h2 i) u⟩⟩
theorem CodeAt.other {w : World} {T : Tags} {v : Value} {l : List Cod} (h : CodeAt w T v l) {p : Addr} (hp : ¬ Cd T p.block) (u : Value) : CodeAt (w.setCell p u) T v l :=
  h.keeps (S := fun k => k = p.block) (Keeps.setCell (p := p) (Keeps.refl (fun k => k = p.block) w) (fun _ => rfl) u) (fun k e e' => hp (by rw [← e']; exact e))
theorem ncd {T : Tags} {k id : Nat} {t : Tg} (h : T k = some (id, t)) (ht : t ≠ .code) : ¬ Cd T k := by
  rintro ⟨id', e⟩
  rw [h] at e
  simp at e
  exact ht e.2

section
variable {w : World} {T : Tags} {id b gf cf : Nat} {x : Img} {m : Mach}
/-- where the cells lie -/
theorem VmAt.cellsAt (h : VmAt w T id b gf cf x m) {k : Nat} (hk : k < m.cells.length) : ∃ gc cc, w.cell? ⟨b, 0, none⟩ = some (.slice (some ⟨gc, 0, none⟩) m.cells.length cc) ∧ T gc = some (id, .cells) ∧ RowAt w gc (ints m.cells) := by
  obtain ⟨cv, ov, dv, h1, h2, h3⟩ := h.ex
  obtain ⟨g, c, rfl, e2, e3⟩ := h2.cells.at hk
  exact ⟨g, c, h1.cell (k := 0) rfl, e2, e3⟩
theorem VmAt.ownersAt (h : VmAt w T id b gf cf x m) {k : Nat} (hk : k < m.owners.length) : ∃ gc cc, w.cell? ⟨b, 1, none⟩ = some (.slice (some ⟨gc, 0, none⟩) m.owners.length cc) ∧ T gc = some (id, .owners) ∧ RowAt w gc (ints m.owners) := by
  obtain ⟨cv, ov, dv, h1, h2, h3⟩ := h.ex
  obtain ⟨g, c, rfl, e2, e3⟩ := h2.owners.at hk
  exact ⟨g, c, h1.cell (k := 1) rfl, e2, e3⟩
theorem VmAt.setCells (h : VmAt w T id b gf cf x m) {gc n cc : Nat} (hc : w.cell? ⟨b, 0, none⟩ = some (.slice (some ⟨gc, 0, none⟩) n cc)) (hT : T gc = some (id, .cells)) (k : Nat) (hk : k < m.cells.length) (u : Int) :
    VmAt (w.setCell ⟨gc, k, none⟩ (.int .i64 u)) T id b gf cf x { m with cells := m.cells.set k u } := by
  obtain ⟨cv, ov, dv, h1, h2, h3⟩ := h.ex
  obtain ⟨H, hF⟩ := h2.frames
  have e := h1.cell (k := 0) (v := cv) rfl
  rw [hc] at e
  obtain ⟨g, c, e1, e2, e3⟩ := h2.cells.at hk
  rw [e1] at e
  simp at e
  obtain ⟨rfl, rfl, rfl⟩ := e
  have hb : gc ≠ b := fun e => by rw [e, h.tag] at hT; simp at hT
  refine ⟨h.tag, fun k y e => by have := h.ok k y e; simpa [World.setCell] using this, _, ov, dv, h1.other hb _, ⟨?_, h2.owners.other (by show T gc ≠ _; rw [hT]; simp) _, H, hF.other (by show T gc ≠ _; rw [hT]; simp) (fun i => by show T gc ≠ _; rw [hT]; simp) _⟩, h3.other (ncd hT (by simp)) _⟩
  have := IRow.set (cap := cc) e2 e3 k hk u
  rw [e1]
  exact this
theorem VmAt.setOwner (h : VmAt w T id b gf cf x m) {gc n cc : Nat} (hc : w.cell? ⟨b, 1, none⟩ = some (.slice (some ⟨gc, 0, none⟩) n cc)) (hT : T gc = some (id, .owners)) (k : Nat) (hk : k < m.owners.length) (u : Int) :
    VmAt (w.setCell ⟨gc, k, none⟩ (.int .i64 u)) T id b gf cf x { m with owners := m.owners.set k u } := by
  obtain ⟨cv, ov, dv, h1, h2, h3⟩ := h.ex
  obtain ⟨H, hF⟩ := h2.frames
  have e := h1.cell (k := 1) (v := ov) rfl
  rw [hc] at e
  obtain ⟨g, c, e1, e2, e3⟩ := h2.owners.at hk
  rw [e1] at e
  simp at e
  obtain ⟨rfl, rfl, rfl⟩ := e
  have hb : gc ≠ b := fun e => by rw [e, h.tag] at hT; simp at hT
  refine ⟨h.tag, fun k y e => by have := h.ok k y e; simpa [World.setCell] using this, cv, _, dv, h1.other hb _, ⟨h2.cells.other (by show T gc ≠ _; rw [hT]; simp) _, ?_, H, hF.other (by show T gc ≠ _; rw [hT]; simp) (fun i => by show T gc ≠ _; rw [hT]; simp) _⟩, h3.other (ncd hT (by simp)) _⟩
  have := IRow.set (cap := cc) e2 e3 k hk u
  rw [e1]
  exact this
theorem VmAt.setReg (h : VmAt w T id b gf cf x m) {i gr n cr : Nat} {f : Fr} (hf : m.fr[i]? = some f) (hc : w.cell? ⟨gf, i * 3 + 1, none⟩ = some (.slice (some ⟨gr, 0, none⟩) n cr)) (hT : T gr = some (id, .regs i)) (k : Nat) (hk : k < f.regs.length) (u : Int) :
    VmAt (w.setCell ⟨gr, k, none⟩ (.int .i64 u)) T id b gf cf x (m.setFr i (f.put k u)) := by
  obtain ⟨cv, ov, dv, h1, h2, h3⟩ := h.ex
  obtain ⟨H, hF⟩ := h2.frames
  obtain ⟨rv, ha, hr⟩ := hF.get hf
  have e := (hF.three ha).2.1
  rw [hc] at e
  simp at e
  obtain ⟨g', c', e1, e2, e3⟩ := hr.at hk
  rw [e1] at e
  simp at e
  obtain ⟨rfl, rfl, rfl⟩ := e
  subst e1
  have h5 := hF.setReg ha hf hT k hk u
  exact h.frames (i := i) ((Keeps.refl _ w).setCell (p := ⟨gr, k, none⟩) (fun _ => .inr hT) _) h5 (by simp)
theorem VmAt.setSt (h : VmAt w T id b gf cf x m) {i : Nat} {f : Fr} (hf : m.fr[i]? = some f) (s : Int) : VmAt (w.setCell ⟨gf, i * 3, none⟩ (.int .i64 s)) T id b gf cf x (m.setFr i { f with st := s }) := by
  obtain ⟨cv, ov, dv, h1, h2, h3⟩ := h.ex
  obtain ⟨H, hF⟩ := h2.frames
  obtain ⟨rv, ha, hr⟩ := hF.get hf
  exact h.frames (i := i) ((Keeps.refl _ w).setCell (p := ⟨gf, i * 3, none⟩) (fun _ => .inl rfl) _) (hF.setSt ha hf s) (by simp)
theorem VmAt.setAt (h : VmAt w T id b gf cf x m) {i : Nat} {f : Fr} (hf : m.fr[i]? = some f) (k : Nat) : VmAt (w.setCell ⟨gf, i * 3 + 2, none⟩ (.int .i64 (k : Int))) T id b gf cf x (m.setFr i { f with at_ := k }) := by
  obtain ⟨cv, ov, dv, h1, h2, h3⟩ := h.ex
  obtain ⟨H, hF⟩ := h2.frames
  obtain ⟨rv, ha, hr⟩ := hF.get hf
  exact h.frames (i := i) ((Keeps.refl _ w).setCell (p := ⟨gf, i * 3 + 2, none⟩) (fun _ => .inl rfl) _) (hF.setAt ha hf k) (by simp)
theorem VmAt.frTag (h : VmAt w T id b gf cf x m) : T gf = some (id, .frames) := by
  obtain ⟨cv, ov, dv, h1, h2, h3⟩ := h.ex
  obtain ⟨H, hF⟩ := h2.frames
  exact hF.tag
end

/-- what lies of a machine and of an event while a step is done -/
structure DP (w : World) (T : Tags) (id b gf cf : Nat) (x : Img) (eb i : Nat) (k o : Int) (cv ov rv : Value) (m' : Mach) (v bad : Int) (w' : World) : Prop where
  vm : VmAt w' T id b gf cf x m'
  ev : RowAt w' eb [.int .i64 i, .int .i64 k, .int .i64 o, .int .i64 v, .int .i64 bad]
  c0 : w'.cell? ⟨b, 0, none⟩ = some cv
  c1 : w'.cell? ⟨b, 1, none⟩ = some ov
  cr : w'.cell? ⟨gf, i * 3 + 1, none⟩ = some rv
  new : T eb = none
  keeps : Keeps (fun k => Own T id k ∨ k = eb) w w'
namespace DP
variable {w : World} {T : Tags} {id b gf cf : Nat} {x : Img} {eb i : Nat} {k o : Int} {cv ov rv : Value} {m' : Mach} {v bad : Int} {w' : World}
theorem nown (h : DP w T id b gf cf x eb i k o cv ov rv m' v bad w') : ¬ Own T id eb ∧ ¬ Cd T eb := by
  have hn := h.new
  refine ⟨?_, ?_⟩
  · rintro ⟨t, e, _⟩; rw [hn] at e; cases e
  · rintro ⟨t, e⟩; rw [hn] at e; cases e
theorem quiet (h : DP w T id b gf cf x eb i k o cv ov rv m' v bad w') {w2 : World} (hk : Keeps NoBlk w' w2) : DP w T id b gf cf x eb i k o cv ov rv m' v bad w2 :=
  ⟨h.vm.keeps hk (fun _ _ h => h), h.ev.keeps hk (fun h => h), hk.cell (p := ⟨b, 0, none⟩) (fun h => h) h.c0, hk.cell (p := ⟨b, 1, none⟩) (fun h => h) h.c1, hk.cell (p := ⟨gf, i * 3 + 1, none⟩) (fun h => h) h.cr, h.new, h.keeps.trans hk (fun _ _ h => h.elim)⟩
theorem alloc (h : DP w T id b gf cf x eb i k o cv ov rv m' v bad w') (ob : Obj) : DP w T id b gf cf x eb i k o cv ov rv m' v bad (w'.alloc ob) := h.quiet ((Keeps.refl _ _).alloc ob)
theorem drew (h : DP w T id b gf cf x eb i k o cv ov rv m' v bad w') : DP w T id b gf cf x eb i k o cv ov rv m' v bad w'.drew := h.quiet ((Keeps.refl _ _).drew)
theorem drewN (h : DP w T id b gf cf x eb i k o cv ov rv m' v bad w') (n : Nat) : DP w T id b gf cf x eb i k o cv ov rv m' v bad (w'.drewN n) := h.quiet ((Keeps.refl _ _).drewN n)
theorem evSet (h : DP w T id b gf cf x eb i k o cv ov rv m' v bad w') (j : Nat) (hj : j < 5) (u : Value) :
    VmAt (w'.setCell ⟨eb, j, none⟩ u) T id b gf cf x m' ∧ RowAt (w'.setCell ⟨eb, j, none⟩ u) eb ([.int .i64 i, .int .i64 k, .int .i64 o, .int .i64 v, .int .i64 bad].set j u) ∧ (∀ p : Addr, p.block ≠ eb → (w'.setCell ⟨eb, j, none⟩ u).cell? p = w'.cell? p) ∧ Keeps (fun k => Own T id k ∨ k = eb) w (w'.setCell ⟨eb, j, none⟩ u) ∧ b ≠ eb ∧ gf ≠ eb := by
  have hk : Keeps (fun k => k = eb) w' (w'.setCell ⟨eb, j, none⟩ u) := (Keeps.refl (fun k => k = eb) w').setCell (p := ⟨eb, j, none⟩) (fun _ => rfl) u
  have hn := h.new
  refine ⟨h.vm.keeps hk (fun k' e e' => by subst e'; exact e.elim h.nown.2 h.nown.1), h.ev.set j hj u, fun p hp => World.cell?_setCell_other _ _ _ _ (fun e => hp (by rw [← e])), h.keeps.setCell (p := ⟨eb, j, none⟩) (fun _ => .inr rfl) u, fun e => ?_, fun e => ?_⟩
  · have := h.vm.tag; rw [e, hn] at this; cases this
  · have := h.vm.frTag; rw [e, hn] at this; cases this
theorem val (h : DP w T id b gf cf x eb i k o cv ov rv m' v bad w') (u : Int) : DP w T id b gf cf x eb i k o cv ov rv m' u bad (w'.setCell ⟨eb, 3, none⟩ (.int .i64 u)) := by
  obtain ⟨h1, h2, h3, h4, h5, h6⟩ := h.evSet 3 (by decide) (.int .i64 u)
  exact ⟨h1, h2, (h3 _ h5).trans h.c0, (h3 _ h5).trans h.c1, (h3 _ h6).trans h.cr, h.new, h4⟩
theorem badly (h : DP w T id b gf cf x eb i k o cv ov rv m' v bad w') (u : Int) : DP w T id b gf cf x eb i k o cv ov rv m' v u (w'.setCell ⟨eb, 4, none⟩ (.int .i64 u)) := by
  obtain ⟨h1, h2, h3, h4, h5, h6⟩ := h.evSet 4 (by decide) (.int .i64 u)
  exact ⟨h1, h2, (h3 _ h5).trans h.c0, (h3 _ h5).trans h.c1, (h3 _ h6).trans h.cr, h.new, h4⟩
theorem other (h : DP w T id b gf cf x eb i k o cv ov rv m' v bad w') {m2 : Mach} {g j : Nat} {u : Value} {t : Tg} (hT : T g = some (id, t)) (ht : t = .cells ∨ t = .owners ∨ ∃ n, t = .regs n) (hv : VmAt (w'.setCell ⟨g, j, none⟩ u) T id b gf cf x m2) :
    DP w T id b gf cf x eb i k o cv ov rv m2 v bad (w'.setCell ⟨g, j, none⟩ u) := by
  have hb : b ≠ g := fun e => by have h9 := h.vm.tag; rw [e, hT] at h9; rcases ht with rfl | rfl | ⟨n, rfl⟩ <;> simp at h9
  have hg : gf ≠ g := fun e => by have h9 := h.vm.frTag; rw [e, hT] at h9; rcases ht with rfl | rfl | ⟨n, rfl⟩ <;> simp at h9
  have he : g ≠ eb := fun e => by have h9 := h.new; rw [← e, hT] at h9; cases h9
  have hc : ∀ p : Addr, p.block ≠ g → (w'.setCell ⟨g, j, none⟩ u).cell? p = w'.cell? p := fun p hp => World.cell?_setCell_other _ _ _ _ (fun e => hp (by rw [← e]))
  exact ⟨hv, h.ev.other he u, (hc _ hb).trans h.c0, (hc _ hb).trans h.c1, (hc _ hg).trans h.cr, h.new, h.keeps.setCell (p := ⟨g, j, none⟩) (fun _ => .inl ⟨t, hT, by rcases ht with rfl | rfl | ⟨n, rfl⟩ <;> simp⟩) u⟩
theorem cell {gc n cc : Nat} (h : DP w T id b gf cf x eb i k o (.slice (some ⟨gc, 0, none⟩) n cc) ov rv m' v bad w') (hT : T gc = some (id, .cells)) (j : Nat) (hj : j < m'.cells.length) (u : Int) :
    DP w T id b gf cf x eb i k o (.slice (some ⟨gc, 0, none⟩) n cc) ov rv { m' with cells := m'.cells.set j u } v bad (w'.setCell ⟨gc, j, none⟩ (.int .i64 u)) :=
  h.other hT (.inl rfl) (h.vm.setCells h.c0 hT j hj u)
theorem owner {gc n cc : Nat} (h : DP w T id b gf cf x eb i k o cv (.slice (some ⟨gc, 0, none⟩) n cc) rv m' v bad w') (hT : T gc = some (id, .owners)) (j : Nat) (hj : j < m'.owners.length) (u : Int) :
    DP w T id b gf cf x eb i k o cv (.slice (some ⟨gc, 0, none⟩) n cc) rv { m' with owners := m'.owners.set j u } v bad (w'.setCell ⟨gc, j, none⟩ (.int .i64 u)) :=
  h.other hT (.inr (.inl rfl)) (h.vm.setOwner h.c1 hT j hj u)
theorem reg {gr n cr : Nat} {f : Fr} (h : DP w T id b gf cf x eb i k o cv ov (.slice (some ⟨gr, 0, none⟩) n cr) m' v bad w') (hf : m'.fr[i]? = some f) (hT : T gr = some (id, .regs i)) (j : Nat) (hj : j < f.regs.length) (u : Int) :
    DP w T id b gf cf x eb i k o cv ov (.slice (some ⟨gr, 0, none⟩) n cr) (m'.setFr i (f.put j u)) v bad (w'.setCell ⟨gr, j, none⟩ (.int .i64 u)) :=
  h.other hT (.inr (.inr ⟨i, rfl⟩)) (h.vm.setReg hf h.cr hT j hj u)
end DP
end Go.Proofs.Ytmkfpkficmmlgaa
