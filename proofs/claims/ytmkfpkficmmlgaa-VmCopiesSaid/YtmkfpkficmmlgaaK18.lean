/- The document's machine: begin. -/
import Derived.Test.YtmkfpkficmmlgaaK17
import Derived.Deep.OwnRows
namespace Go.Proofs.Ytmkfpkficmmlgaa
open Go.RowKit
set_option linter.unusedVariables false
set_option linter.unusedSimpArgs false
set_option linter.unnecessarySimpa false

/-- the world in which begin calls local -/
def begW (w : World) (gf i n : Nat) : World := (((w.setCell ⟨gf, i * 3, none⟩ (.int .i64 2)).setCell ⟨gf, i * 3 + 1, none⟩ (.slice (some ⟨w.heap.size, 0, none⟩) n n)).alloc (.cells (madeCells #[.int .i64 0] n) 3)).drew

set_option maxRecDepth 8000 in
set_option maxHeartbeats 1000000 in
theorem rbegin_raw (w : World) (b gf cf nt nf i gt ot ct n : Nat) (hi : i < nt) (hi2 : i < nf) (hn : nt ≤ 8) (hn2 : nf ≤ 8) (hr : n ≤ 64) (st : Int) (old : Value)
    (k2 : w.cell? ⟨b, 2, none⟩ = some (.slice (some ⟨gt, ot, none⟩) nt ct)) (k5 : w.cell? ⟨b, 5, none⟩ = some (.slice (some ⟨gf, 0, none⟩) nf cf)) (u0 : w.cell? ⟨gt, ot + i * 2, none⟩ = some (.int .i64 n))
    (t0 : w.cell? ⟨gf, i * 3, none⟩ = some (.int .i64 st)) (t1 : w.cell? ⟨gf, i * 3 + 1, none⟩ = some old) (ff0 : w.frozen? ⟨gf, i * 3, none⟩ = false) (ff1 : w.frozen? ⟨gf, i * 3 + 1, none⟩ = false) (ngt : gt ≠ gf) (nb : b ≠ gf) (R : World → Prop)
    (hloc : Calls Try.prog 35 #[.pointer (some ⟨b, 0, none⟩), .int .i64 i] (begW w gf i n) fun e w' => e = .returned (.tuple #[]) ∧ R w') :
    Calls Try.prog 19 #[.pointer (some ⟨b, 0, none⟩), .int .i64 i] w fun e w' => e = .returned (.tuple #[]) ∧ R w' := by
  have HL := Lib.hid hloc
  clear hloc
  have hmk := run_make_row' (P := Try.prog) 22 3 (.int .i64 0) 8 Try.underlying22 infoInt rfl .i64 .i64 n (by omega) (by omega)
  have i1 : (0 : Int) ≤ i := by omega
  have i2 : (i : Int) < nt := by omega
  have i3 : (i : Int) < nf := by omega
  have l1 : b < w.heap.size := World.block_lt_of_cell? w _ k2
  have l2 : gt < w.heap.size := World.block_lt_of_cell? w _ u0
  have l3 : gf < w.heap.size := World.block_lt_of_cell? w _ t0
  have q1 : b ≠ w.heap.size := by omega
  have q2 : gt ≠ w.heap.size := by omega
  have q3 : gf ≠ w.heap.size := by omega
  have q4 : w.heap.size ≠ gf := by omega
  have ngt' : gf ≠ gt := fun e => ngt e.symm
  have nb' : gf ≠ b := fun e => nb e.symm
  go_enter Try.func19, Try.ntmps19
  go_wp2
  go_region
  all_goals (
    go_wp2_with fail
    change Calls _ _ _ (begW w gf i n) _
    refine HL.out.mono ?_
    rintro e w2 ⟨rfl, hR⟩
    have HR := Lib.hid hR
    clear hR
    go_wp2
    refine Great.bodyPost_end0 (by rfl) (by rfl) ?_
    exact ⟨rfl, HR.out⟩)

/-- an idle thread's registers are all nought -/
def VZero (x : Img) (m : Mach) : Prop := ∀ (i : Nat) (f : Fr), m.fr[i]? = some f → f.st = 1 → f.regs = List.replicate (x.cod i).regs.toNat 0
/-- more tags: of new blocks of this machine alone -/
def ExtN (T T' : Tags) (id : Nat) (w : World) : Prop := Ext T T' ∧ ∀ k y, T' k = some y → T k = some y ∨ (w.heap.size ≤ k ∧ y.1 = id ∧ y.2 ≠ .code)
theorem ExtN.refl (T : Tags) (id : Nat) (w : World) : ExtN T T id w := ⟨Ext.refl T, fun _ _ h => .inl h⟩
theorem ExtN.own {T T' : Tags} {id : Nat} {w w' w'' : World} (h : ExtN T T' id w) (hk : Keeps (Own T' id) w' w'') (hs : w.heap.size ≤ w'.heap.size) (h0 : Keeps (Own T id) w w') : Keeps (Own T id) w w'' :=
  h0.trans hk (fun k hlt ⟨t, e, ht⟩ => by
    rcases h.2 k _ e with h1 | h1
    · exact ⟨t, h1, ht⟩
    · omega)

theorem madeList (n : Nat) : (madeCells #[Value.int .i64 0] n).toList = ints (List.replicate n 0) := by
  apply List.ext_getElem
  · simp [madeCells, ints]
  · intro j h1 h2
    simp [madeCells, ints]
    simp [Nat.mod_one]

theorem rbegin_any (w : World) (T : Tags) (id b gf cf i : Nat) (x : Img) (m : Mach) (f : Fr) (h : RmAt w T id b gf cf x m) (hf : m.fr[i]? = some f) (hst : f.st = 1) (hg : VGood x m) (hz : VZero x m) :
    Calls Try.prog 19 #[.pointer (some ⟨b, 0, none⟩), .int .i64 i] w fun e w' => e = .returned (.tuple #[]) ∧ ∃ T', ExtN T T' id w ∧ RmAt w' T' id b gf cf x (beginN x m i) ∧ Keeps (Own T id) w w' := by
  have hi : i < m.fr.length := (List.getElem?_eq_some_iff.1 hf).1
  have hx : i < x.threads.length := by rw [← hg.len]; exact hi
  have h8 := (right_parts hg.right).1.2
  have hc := right_cod hg.right hx
  have hok := hg.ok.each i f hf
  obtain ⟨hr0, hr1⟩ := (codN_parts hc).1
  obtain ⟨H, gt, ot, ct, gi, oi, ci, rv, hF, ha, k2, k5, r0, u1, c0, c1, c2, c3, t0, t2, ff⟩ := h.view hf hx hok.at_
  have hs := shade_get hf
  have t1 : w.cell? ⟨gf, i * 3 + 1, none⟩ = some rv := by
    have := (hF.three (f := shadow f) (by rw [shadow_st, shadow_at]; exact ha)).2.1
    exact this
  have ff1 := hF.free (List.getElem?_eq_some_iff.1 hs).1 1 (by decide)
  obtain ⟨n, hn⟩ : ∃ n : Nat, (x.cod i).regs = n := ⟨(x.cod i).regs.toNat, by omega⟩
  rw [hn] at r0
  have hregs : f.regs = List.replicate n 0 := by rw [hz i f hf hst, hn]; rfl
  have htf : T gf = some (id, .frames) := hF.tag
  obtain ⟨xc, xt, cv, ov, hb, hcore, hthr⟩ := h.ex
  have ngt : gt ≠ gf := by
    obtain ⟨ad, cp, e, ht⟩ := hthr
    obtain ⟨g, o, u, e1, e2, _⟩ := ht i hx
    have e3 := hb.cell (k := 2) (v := xt) rfl
    rw [k2] at e3
    rw [e] at e3
    simp at e3
    rw [e1] at e3
    simp at e3
    intro e4
    rw [e4] at e3
    obtain ⟨id', e2⟩ := e2
    rw [← e3.1.1, htf] at e2
    simp at e2
  have nb : b ≠ gf := fun e => by have h9 := h.tag; rw [e, htf] at h9; simp at h9
  have hzn : T w.heap.size = none := by
    cases e : T w.heap.size with
    | none => rfl
    | some y => exact absurd (h.ok _ y e) (Nat.lt_irrefl _)
  -- the tags behind
  let T' : Tags := fun k => if k = w.heap.size then some (id, .regs i) else T k
  have hT : Ext T T' := fun k y e => by
    show (if k = w.heap.size then _ else T k) = some y
    rw [if_neg (fun e' => by rw [e', hzn] at e; cases e)]
    exact e
  have hTN : ExtN T T' id w := ⟨hT, fun k y e => by
    by_cases e' : k = w.heap.size
    · right
      have : T' k = some (id, .regs i) := if_pos e'
      rw [this] at e
      cases e
      exact ⟨by omega, rfl, by simp⟩
    · left
      have : T' k = T k := if_neg e'
      rw [this] at e
      exact e⟩
  have hTz : T' w.heap.size = some (id, .regs i) := if_pos rfl
  -- the world behind
  have hK0 : Keeps (fun k => k = gf) w (begW w gf i n) := ((((Keeps.refl (fun k => k = gf) w).setCell (p := ⟨gf, i * 3, none⟩) (fun _ => rfl) _).setCell (p := ⟨gf, i * 3 + 1, none⟩) (fun _ => rfl) _).alloc _).drew
  have hKO : Keeps (Own T id) w (begW w gf i n) := hK0.mono (fun k _ e => ⟨.frames, by subst e; exact htf, by simp⟩)
  have hok' : TOk T' (begW w gf i n) := fun k y e => by
    rcases hTN.2 k y e with h1 | h1
    · exact Nat.lt_of_lt_of_le (h.ok k y h1) hKO.size
    · have : k = w.heap.size := by
        by_cases e' : k = w.heap.size
        · exact e'
        · have h2 : T' k = T k := if_neg e'
          rw [h2] at e
          have := h.ok k y e
          omega
      rw [this]
      show w.heap.size < (begW w gf i n).heap.size
      simp [begW, World.setCell]
  have hrow : RowAt (begW w gf i n) w.heap.size (ints f.regs) := by
    rw [hregs, ← madeList]
    have hsz : ((w.setCell ⟨gf, i * 3, none⟩ (.int .i64 2)).setCell ⟨gf, i * 3 + 1, none⟩ (.slice (some ⟨w.heap.size, 0, none⟩) n n)).heap.size = w.heap.size := by simp [World.setCell]
    have := heap_alloc_new ((w.setCell ⟨gf, i * 3, none⟩ (.int .i64 2)).setCell ⟨gf, i * 3 + 1, none⟩ (.slice (some ⟨w.heap.size, 0, none⟩) n n)) (.cells (madeCells #[.int .i64 0] n) 3)
    rw [hsz] at this
    refine RowAt.ofBlock (t := 3) ?_
    rw [Array.toArray_toList]
    exact this
  have hfrow : RowAt (begW w gf i n) gf (frCells (H.set i ⟨2, .slice (some ⟨w.heap.size, 0, none⟩) n n, f.at_⟩)) := by
    have h1 := hF.row.set (i * 3) (by unfold frCells; rw [length_cells _ 3 hfr_len]; have := (List.getElem?_eq_some_iff.1 ha).1; omega) (.int .i64 2)
    have e1 : (frCells H).set (i * 3) (.int .i64 2) = frCells (H.set i ⟨2, rv, f.at_⟩) := set_cells _ 3 hfr_len H i 0 (by decide) _ _ _ ha rfl
    rw [e1] at h1
    have ha2 : (H.set i ⟨2, rv, f.at_⟩)[i]? = some ⟨2, rv, f.at_⟩ := List.getElem?_set_self (List.getElem?_eq_some_iff.1 ha).1
    have h2 := h1.set (i * 3 + 1) (by unfold frCells; rw [length_cells _ 3 hfr_len]; have := (List.getElem?_eq_some_iff.1 ha2).1; omega) (.slice (some ⟨w.heap.size, 0, none⟩) n n)
    have e2 : (frCells (H.set i ⟨2, rv, f.at_⟩)).set (i * 3 + 1) (.slice (some ⟨w.heap.size, 0, none⟩) n n) = frCells ((H.set i ⟨2, rv, f.at_⟩).set i ⟨2, .slice (some ⟨w.heap.size, 0, none⟩) n n, f.at_⟩) := set_cells _ 3 hfr_len _ i 1 (by decide) _ _ _ ha2 rfl
    rw [e2, List.set_set] at h2
    exact (h2.alloc _).keeps (S := NoBlk) ((Keeps.refl _ _).drew) (fun h => h)
  have hF' : FrG (begW w gf i n) T' id gf (H.set i ⟨2, .slice (some ⟨w.heap.size, 0, none⟩) n n, f.at_⟩) (m.setFr i { f with st := 2 }).shade.fr := by
    rw [shade_set, shadow_run (f := { f with st := 2 }) (by show (2 : Int) ≠ 1; decide)]
    refine ⟨hT _ _ htf, hfrow, by simp [hF.len], fun j a f2 h1 h2 => ?_⟩
    by_cases e : i = j
    · subst e
      rw [List.getElem?_set_self (List.getElem?_eq_some_iff.1 ha).1] at h1
      rw [List.getElem?_set_self (List.getElem?_eq_some_iff.1 hs).1] at h2
      cases h1; cases h2
      refine ⟨rfl, rfl, _, n, ?_, fun _ => ⟨_, rfl, hTz, hrow⟩⟩
      show Value.slice _ n n = Value.slice _ f.regs.length n
      rw [hregs, List.length_replicate]
    · rw [List.getElem?_set_ne e] at h1 h2
      obtain ⟨e1, e2, e3⟩ := hF.each j a f2 h1 h2
      exact ⟨e1, e2, (e3.keeps hK0 (fun k e4 e5 => by rw [e5, htf] at e4; simp at e4)).ext hT⟩
  have hRm : RmAt (begW w gf i n) T' id b gf cf x (m.setFr i { f with st := 2 }) := by
    refine ⟨hT _ _ h.tag, hok', xc, xt, cv, ov, ?_, ⟨?_, ?_, _, hF'⟩, ?_⟩
    · rw [show (m.setFr i { f with st := 2 }).fr.length = m.fr.length by simp [Mach.setFr]]
      exact hb.keeps hK0 nb
    · exact (hcore.cells.keeps hK0 (fun k e e' => by rw [e', htf] at e; simp at e)).ext hT
    · exact (hcore.owners.keeps hK0 (fun k e e' => by rw [e', htf] at e; simp at e)).ext hT
    · exact (hthr.keeps hK0 (fun k e e' => by obtain ⟨id', e⟩ := e; rw [e', htf] at e; simp at e)).ext hT
  have hl := rlocal_any (begW w gf i n) T' id b gf cf i x (m.setFr i { f with st := 2 }) { f with st := 2 } hRm (List.getElem?_set_self hi) rfl hx h8 (by simp [Mach.setFr]; exact hg.len) hc ⟨hok.regs, hok.at_⟩
  rw [Mach.setFr_set] at hl
  have e9 : beginN x m i = m.setFr i (localF (x.cod i) 100000 { f with st := 2 }) := by
    unfold beginN
    rw [show m.get i = f by simp [Mach.get, List.getD, hf]]
  rw [← e9] at hl
  refine rbegin_raw w b gf cf _ _ i gt ot ct n hx hi h8 (by rw [hg.len]; exact h8) (by omega) f.st rv k2 k5 r0 t0 t1 ff ff1 ngt nb _ (hl.mono ?_)
  rintro e w' ⟨rfl, h1, h2⟩
  exact ⟨rfl, T', hTN, h1, hTN.own h2 hKO.size hKO⟩
end Go.Proofs.Ytmkfpkficmmlgaa

/- The document's machine: how a step's work turns it. -/
namespace Go.Proofs.Ytmkfpkficmmlgaa
open Go.RowKit
set_option linter.unusedVariables false
set_option linter.unusedSimpArgs false
set_option linter.unnecessarySimpa false

theorem ThrAt.other {w : World} {T : Tags} {v : Value} {l : List Cod} (h : ThrAt w T v l) {p : Addr} (hp : ¬ Cd T p.block) (u : Value) : ThrAt (w.setCell p u) T v l :=
  h.keeps (S := fun k => k = p.block) (Keeps.setCell (p := p) (Keeps.refl (fun k => k = p.block) w) (fun _ => rfl) u) (fun k e e' => hp (by rw [← e']; exact e))
section
variable {w : World} {T : Tags} {id b gf cf : Nat} {x : Img} {m : Mach}
theorem RmAt.frTag (h : RmAt w T id b gf cf x m) : T gf = some (id, .frames) := by
  obtain ⟨xc, xt, cv, ov, h1, h2, h3⟩ := h.ex
  obtain ⟨H, hF⟩ := h2.frames
  exact hF.tag
theorem RmAt.setCells (h : RmAt w T id b gf cf x m) {gc n cc : Nat} (hc : w.cell? ⟨b, 3, none⟩ = some (.slice (some ⟨gc, 0, none⟩) n cc)) (hT : T gc = some (id, .cells)) (k : Nat) (hk : k < m.cells.length) (u : Int) :
    RmAt (w.setCell ⟨gc, k, none⟩ (.int .i64 u)) T id b gf cf x { m with cells := m.cells.set k u } := by
  obtain ⟨xc, xt, cv, ov, h1, h2, h3⟩ := h.ex
  obtain ⟨H, hF⟩ := h2.frames
  have e := h1.cell (k := 3) (v := cv) rfl
  rw [hc] at e
  obtain ⟨g, c, e1, e2, e3⟩ := h2.cells.at (k := k) hk
  rw [e1] at e
  simp at e
  obtain ⟨rfl, rfl, rfl⟩ := e
  have hb : gc ≠ b := fun e => by rw [e, h.tag] at hT; simp at hT
  refine ⟨h.tag, fun k y e => by have := h.ok k y e; simpa [World.setCell] using this, xc, xt, _, ov, h1.other hb _, ⟨?_, h2.owners.other (by show T gc ≠ _; rw [hT]; simp) _, H, hF.other (by show T gc ≠ _; rw [hT]; simp) (fun i => by show T gc ≠ _; rw [hT]; simp) _⟩, h3.other (ncd hT (by simp)) _⟩
  have := IRow.set (cap := cc) e2 e3 k hk u
  rw [e1]
  exact this
theorem RmAt.setOwner (h : RmAt w T id b gf cf x m) {gc n cc : Nat} (hc : w.cell? ⟨b, 4, none⟩ = some (.slice (some ⟨gc, 0, none⟩) n cc)) (hT : T gc = some (id, .owners)) (k : Nat) (hk : k < m.owners.length) (u : Int) :
    RmAt (w.setCell ⟨gc, k, none⟩ (.int .i64 u)) T id b gf cf x { m with owners := m.owners.set k u } := by
  obtain ⟨xc, xt, cv, ov, h1, h2, h3⟩ := h.ex
  obtain ⟨H, hF⟩ := h2.frames
  have e := h1.cell (k := 4) (v := ov) rfl
  rw [hc] at e
  obtain ⟨g, c, e1, e2, e3⟩ := h2.owners.at (k := k) hk
  rw [e1] at e
  simp at e
  obtain ⟨rfl, rfl, rfl⟩ := e
  have hb : gc ≠ b := fun e => by rw [e, h.tag] at hT; simp at hT
  refine ⟨h.tag, fun k y e => by have := h.ok k y e; simpa [World.setCell] using this, xc, xt, cv, _, h1.other hb _, ⟨h2.cells.other (by show T gc ≠ _; rw [hT]; simp) _, ?_, H, hF.other (by show T gc ≠ _; rw [hT]; simp) (fun i => by show T gc ≠ _; rw [hT]; simp) _⟩, h3.other (ncd hT (by simp)) _⟩
  have := IRow.set (cap := cc) e2 e3 k hk u
  rw [e1]
  exact this
theorem RmAt.setReg (h : RmAt w T id b gf cf x m) {i gr n cr : Nat} {f : Fr} (hf : m.fr[i]? = some f) (hst : f.st = 2) (hc : w.cell? ⟨gf, i * 3 + 1, none⟩ = some (.slice (some ⟨gr, 0, none⟩) n cr)) (hT : T gr = some (id, .regs i)) (k : Nat) (hk : k < f.regs.length) (u : Int) :
    RmAt (w.setCell ⟨gr, k, none⟩ (.int .i64 u)) T id b gf cf x (m.setFr i (f.put k u)) := by
  obtain ⟨xc, xt, cv, ov, h1, h2, h3⟩ := h.ex
  obtain ⟨H, hF⟩ := h2.frames
  have hs := shade_get hf
  rw [shadow_run (by rw [hst]; decide)] at hs
  obtain ⟨rv, ha, hr⟩ := hF.get hs
  have e := (hF.three ha).2.1
  rw [hc] at e
  simp at e
  obtain ⟨g', c', e1, e2, e3⟩ := hr.at hk
  rw [e1] at e
  simp at e
  obtain ⟨rfl, rfl, rfl⟩ := e
  subst e1
  have h5 := hF.setReg ha hs hT k hk u
  exact h.setRun (i := i) ((Keeps.refl _ w).setCell (p := ⟨gr, k, none⟩) (fun _ => .inr hT) _) (f' := f.put k u) h5 (by show f.st ≠ 1; rw [hst]; decide)
theorem RmAt.setSt (h : RmAt w T id b gf cf x m) {i : Nat} {f : Fr} (hf : m.fr[i]? = some f) (hst : f.st = 2) (s : Int) (hs1 : s ≠ 1) : RmAt (w.setCell ⟨gf, i * 3, none⟩ (.int .i64 s)) T id b gf cf x (m.setFr i { f with st := s }) := by
  obtain ⟨xc, xt, cv, ov, h1, h2, h3⟩ := h.ex
  obtain ⟨H, hF⟩ := h2.frames
  have hs := shade_get hf
  rw [shadow_run (by rw [hst]; decide)] at hs
  obtain ⟨rv, ha, hr⟩ := hF.get hs
  exact h.setRun (i := i) ((Keeps.refl _ w).setCell (p := ⟨gf, i * 3, none⟩) (fun _ => .inl rfl) _) (hF.setSt ha hs s) hs1
theorem RmAt.setAt (h : RmAt w T id b gf cf x m) {i : Nat} {f : Fr} (hf : m.fr[i]? = some f) (hst : f.st = 2) (k : Nat) : RmAt (w.setCell ⟨gf, i * 3 + 2, none⟩ (.int .i64 (k : Int))) T id b gf cf x (m.setFr i { f with at_ := k }) := by
  obtain ⟨xc, xt, cv, ov, h1, h2, h3⟩ := h.ex
  obtain ⟨H, hF⟩ := h2.frames
  have hs := shade_get hf
  rw [shadow_run (by rw [hst]; decide)] at hs
  obtain ⟨rv, ha, hr⟩ := hF.get hs
  exact h.setRun (i := i) ((Keeps.refl _ w).setCell (p := ⟨gf, i * 3 + 2, none⟩) (fun _ => .inl rfl) _) (hF.setAt ha hs k) (by show f.st ≠ 1; rw [hst]; decide)
end
/-- what lies of a machine while a step is done -/
structure RP (w : World) (T : Tags) (id b gf cf : Nat) (x : Img) (i : Nat) (cv ov rv : Value) (m' : Mach) (w' : World) : Prop where
  rm : RmAt w' T id b gf cf x m'
  c3 : w'.cell? ⟨b, 3, none⟩ = some cv
  c4 : w'.cell? ⟨b, 4, none⟩ = some ov
  cr : w'.cell? ⟨gf, i * 3 + 1, none⟩ = some rv
  keeps : Keeps (Own T id) w w'
namespace RP
variable {w : World} {T : Tags} {id b gf cf : Nat} {x : Img} {i : Nat} {cv ov rv : Value} {m' : Mach} {w' : World}
theorem quiet (h : RP w T id b gf cf x i cv ov rv m' w') {w2 : World} (hk : Keeps NoBlk w' w2) : RP w T id b gf cf x i cv ov rv m' w2 :=
  ⟨h.rm.keeps hk (fun _ _ h => h), hk.cell (p := ⟨b, 3, none⟩) (fun h => h) h.c3, hk.cell (p := ⟨b, 4, none⟩) (fun h => h) h.c4, hk.cell (p := ⟨gf, i * 3 + 1, none⟩) (fun h => h) h.cr, h.keeps.trans hk (fun _ _ h => h.elim)⟩
theorem alloc (h : RP w T id b gf cf x i cv ov rv m' w') (ob : Obj) : RP w T id b gf cf x i cv ov rv m' (w'.alloc ob) := h.quiet ((Keeps.refl _ _).alloc ob)
theorem drew (h : RP w T id b gf cf x i cv ov rv m' w') : RP w T id b gf cf x i cv ov rv m' w'.drew := h.quiet ((Keeps.refl _ _).drew)
theorem drewN (h : RP w T id b gf cf x i cv ov rv m' w') (n : Nat) : RP w T id b gf cf x i cv ov rv m' (w'.drewN n) := h.quiet ((Keeps.refl _ _).drewN n)
theorem other (h : RP w T id b gf cf x i cv ov rv m' w') {m2 : Mach} {g j : Nat} {u : Value} {t : Tg} (hT : T g = some (id, t)) (ht : t = .cells ∨ t = .owners ∨ ∃ n, t = .regs n) (hv : RmAt (w'.setCell ⟨g, j, none⟩ u) T id b gf cf x m2) :
    RP w T id b gf cf x i cv ov rv m2 (w'.setCell ⟨g, j, none⟩ u) := by
  have hb : b ≠ g := fun e => by have h9 := h.rm.tag; rw [e, hT] at h9; rcases ht with rfl | rfl | ⟨n, rfl⟩ <;> simp at h9
  have hg : gf ≠ g := fun e => by have h9 := h.rm.frTag; rw [e, hT] at h9; rcases ht with rfl | rfl | ⟨n, rfl⟩ <;> simp at h9
  have hc : ∀ p : Addr, p.block ≠ g → (w'.setCell ⟨g, j, none⟩ u).cell? p = w'.cell? p := fun p hp => World.cell?_setCell_other _ _ _ _ (fun e => hp (by rw [← e]))
  exact ⟨hv, (hc _ hb).trans h.c3, (hc _ hb).trans h.c4, (hc _ hg).trans h.cr, h.keeps.setCell (p := ⟨g, j, none⟩) (fun _ => ⟨t, hT, by rcases ht with rfl | rfl | ⟨n, rfl⟩ <;> simp⟩) u⟩
theorem cell {gc n cc : Nat} (h : RP w T id b gf cf x i (.slice (some ⟨gc, 0, none⟩) n cc) ov rv m' w') (hT : T gc = some (id, .cells)) (j : Nat) (hj : j < m'.cells.length) (u : Int) :
    RP w T id b gf cf x i (.slice (some ⟨gc, 0, none⟩) n cc) ov rv { m' with cells := m'.cells.set j u } (w'.setCell ⟨gc, j, none⟩ (.int .i64 u)) :=
  h.other hT (.inl rfl) (h.rm.setCells h.c3 hT j hj u)
theorem owner {gc n cc : Nat} (h : RP w T id b gf cf x i cv (.slice (some ⟨gc, 0, none⟩) n cc) rv m' w') (hT : T gc = some (id, .owners)) (j : Nat) (hj : j < m'.owners.length) (u : Int) :
    RP w T id b gf cf x i cv (.slice (some ⟨gc, 0, none⟩) n cc) rv { m' with owners := m'.owners.set j u } (w'.setCell ⟨gc, j, none⟩ (.int .i64 u)) :=
  h.other hT (.inr (.inl rfl)) (h.rm.setOwner h.c4 hT j hj u)
theorem reg {gr n cr : Nat} {f : Fr} (h : RP w T id b gf cf x i cv ov (.slice (some ⟨gr, 0, none⟩) n cr) m' w') (hf : m'.fr[i]? = some f) (hst : f.st = 2) (hT : T gr = some (id, .regs i)) (j : Nat) (hj : j < f.regs.length) (u : Int) :
    RP w T id b gf cf x i cv ov (.slice (some ⟨gr, 0, none⟩) n cr) (m'.setFr i (f.put j u)) (w'.setCell ⟨gr, j, none⟩ (.int .i64 u)) :=
  h.other hT (.inr (.inr ⟨i, rfl⟩)) (h.rm.setReg hf hst h.cr hT j hj u)
end RP
end Go.Proofs.Ytmkfpkficmmlgaa
