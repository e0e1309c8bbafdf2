/- The arguments of layer 11's statements, opened: rows of ints, images. -/
import Derived.Test.YtmkfpkficmmlgaaK40
import Derived.Test.YtmkfpkficmmlgaaRows
import Derived.ProofKit
import Derived.OpenShut
import Derived.SizedLaws
import Derived.Deep.Slices
import Derived.Deep.Strs
namespace Go.Proofs.Ytmkfpkficmmlgaa
open Go.ChangeShapes Go.WideShapes Go.ChangeAt Go.RowKit
set_option linter.unusedVariables false
set_option linter.unusedSimpArgs false
set_option linter.unnecessarySimpa false
set_option maxRecDepth 100000

theorem own : ownKnob Try.prog.godebug = none := by kernel_rfl
theorem laidOut : laidOutB Try.prog = true := by kernel_rfl
theorem cInt : Try.prog.cellsOf 3 = 1 := by kernel_rfl
theorem cInts : Try.prog.cellsOf 22 = 1 := by kernel_rfl
theorem cIns : Try.prog.cellsOf 48 = 4 := by kernel_rfl
theorem cInss : Try.prog.cellsOf 49 = 1 := by kernel_rfl
theorem cCode : Try.prog.cellsOf 51 = 2 := by kernel_rfl
theorem cCodes : Try.prog.cellsOf 23 = 1 := by kernel_rfl
theorem cImage : Try.prog.cellsOf 25 = 3 := by kernel_rfl
theorem bInt : Try.prog.bytesOf 3 = 8 := by kernel_rfl
theorem bIns : Try.prog.bytesOf 48 = 32 := by kernel_rfl
theorem bCode : Try.prog.bytesOf 51 = 32 := by kernel_rfl

theorem spot_none {w : World} {a : Addr} {v : Value} (h : w.cell? a = some v) : a.spot = none := by
  unfold World.cell? at h
  split at h
  · split at h
    · cases h
    · rename_i h2; simpa using h2
  · cases h
theorem add_none {a : Addr} (h : a.spot = none) (n : Nat) : a.add n = ⟨a.block, a.off + n, none⟩ := by
  obtain ⟨b, o, s⟩ := a
  simp at h
  subst h
  unfold Addr.add
  split
  · simp_all
  · rfl
instance : Inhabited Ins := ⟨⟨0, 0, 0, 0⟩⟩
instance : Inhabited Cod := ⟨⟨0, []⟩⟩

section
variable {H : Type} {enc : TypeId × Value → H} {W : World}

/-- a row of ints that came in -/
theorem open_row {v : Value} {fuel : Nat} {d : DataW H} {ps : List MemPlace} (h : DataW.trod enc Try.prog W 0 (fun _ => true) true fuel 22 [v] = some (d, ps))
    (hz : ∀ n ∈ d.weights Try.prog 22, n ≤ reachBytes) : ∃ xs : List Int, SrcAt W v xs.length (ints xs) ∧ xs.length * 8 ≤ 140737488355328 := by
  rcases open_ints Try.underlying22 Try.underlying3 cInt h with ⟨hcs, hx⟩ | ⟨a, len, cap, zs, hcs, hb, hl, hm, hz2, hx, hcell, _⟩
  · have hv : v = .slice none 0 0 := by simpa using hcs
    exact ⟨[], ⟨none, 0, hv, fun h => absurd rfl h⟩, by decide⟩
  · have hv : v = .slice (some a) len cap := by simpa using hcs
    simp only [if_true] at hz2
    have hd : d = .slice (lits .i64 (zs.take len)) (lits .i64 (zs.drop len)) := congrArg Prod.fst hx
    have hlen : (zs.take len).length = len := by simp; omega
    refine ⟨zs.take len, ?_, ?_⟩
    · refine ⟨some a, cap, by rw [hlen]; exact hv, fun hne => ?_⟩
      rw [hlen] at hne
      have hs : a.spot = none := by
        have := spot_none (hcell 0 (by omega))
        simpa [Addr.add] using this
      refine ⟨a.block, a.off, by cases a; simp at hs; subst hs; rfl, fun j u hj => ?_⟩
      have hjl : j < len := by
        have := (List.getElem?_eq_some_iff.1 hj).1
        rw [ints_len, hlen] at this
        exact this
      rw [ints_get _ _ (by rw [hlen]; exact hjl)] at hj
      cases hj
      have := hcell j (by omega)
      rw [add_none hs] at this
      rw [this]
      congr 2
      simp [List.getD, List.getElem?_take, hjl]
    · have h1 := hz (((lits (H := H) .i64 (zs.take len)).length + (lits (H := H) .i64 (zs.drop len)).length) * Try.prog.bytesOf 3) (by rw [hd]; simp [DataW.weights, Try.underlying22])
      rw [bInt] at h1
      have h2 : (lits (H := H) .i64 (zs.take len)).length = len := by unfold lits; rw [List.length_map]; exact hlen
      have h3 : reachBytes < 140737488355328 := by decide
      rw [h2] at h1
      rw [hlen]
      omega

theorem open_instr {fuel : Nat} {cs : List Value} {x : DataW H × List MemPlace}
    (h : DataW.trod enc Try.prog W 0 (fun _ => true) true fuel 48 cs = some x) : ∃ y : Ins, cs = insC y := by
  obtain ⟨xs, n, _, _, hl, hlen, hf⟩ := DataW.trod_struct Try.underlying48 h
  rw [cIns] at hl
  match cs, hl with
  | [c0, c1, c2, c3], _ =>
    have f0 : DataW.trod enc Try.prog W 0 (fun _ => true) true n 3 (([c0, c1, c2, c3].drop 0).take (Try.prog.cellsOf 3)) = xs[0]? := hf 0 _ rfl
    have f1 : DataW.trod enc Try.prog W 0 (fun _ => true) true n 3 (([c0, c1, c2, c3].drop 1).take (Try.prog.cellsOf 3)) = xs[1]? := hf 1 _ rfl
    have f2 : DataW.trod enc Try.prog W 0 (fun _ => true) true n 3 (([c0, c1, c2, c3].drop 2).take (Try.prog.cellsOf 3)) = xs[2]? := hf 2 _ rfl
    have f3 : DataW.trod enc Try.prog W 0 (fun _ => true) true n 3 (([c0, c1, c2, c3].drop 3).take (Try.prog.cellsOf 3)) = xs[3]? := hf 3 _ rfl
    rw [cInt] at f0 f1 f2 f3
    have hx : ∀ i, i < 4 → ∃ z, xs[i]? = some z := fun i hi => ⟨_, List.getElem?_eq_getElem (by rw [hlen]; exact hi)⟩
    obtain ⟨z0, e0⟩ := hx 0 (by decide)
    obtain ⟨z1, e1⟩ := hx 1 (by decide)
    obtain ⟨z2, e2⟩ := hx 2 (by decide)
    obtain ⟨z3, e3⟩ := hx 3 (by decide)
    rw [e0] at f0
    rw [e1] at f1
    rw [e2] at f2
    rw [e3] at f3
    obtain ⟨n0, g0, _, _⟩ := DataW.trod_int Try.underlying3 f0
    obtain ⟨n1, g1, _, _⟩ := DataW.trod_int Try.underlying3 f1
    obtain ⟨n2, g2, _, _⟩ := DataW.trod_int Try.underlying3 f2
    obtain ⟨n3, g3, _, _⟩ := DataW.trod_int Try.underlying3 f3
    simp at g0 g1 g2 g3
    subst g0 g1 g2 g3
    exact ⟨⟨n0, n1, n2, n3⟩, rfl⟩

theorem list_of {α : Type} {n : Nat} (f : Nat → α) (d : α) : ((List.range n).map f).length = n ∧ (∀ i, i < n → ((List.range n).map f)[i]? = some (f i)) ∧ ∀ i, i < n → ((List.range n).map f).getD i d = f i := by
  refine ⟨by simp, fun i hi => by simp [hi], fun i hi => by simp [List.getD, hi]⟩

/-- a thread's instructions that came in -/
theorem open_inss {v : Value} {fuel : Nat} {d : DataW H} {ps : List MemPlace} (h : DataW.trod enc Try.prog W 0 (fun _ => true) true fuel 49 [v] = some (d, ps))
    (hz : ∀ n ∈ d.weights Try.prog 49, n ≤ reachBytes) : ∃ l : List Ins, SrcAt W v l.length (insCells l) ∧ l.length * 32 ≤ 140737488355328 := by
  rcases Deep.open_slice Try.underlying49 h with ⟨hcs, hx⟩ | ⟨a, len, cap, m, n, D, Pl, hcs, hb, hl, hm, hmm, hx, hel⟩
  · have hv : v = .slice none 0 0 := by simpa using hcs
    exact ⟨[], ⟨none, 0, hv, fun h => absurd rfl h⟩, by decide⟩
  · have hv : v = .slice (some a) len cap := by simpa using hcs
    simp only [if_true] at hmm
    have hmm2 := hmm.symm
    subst hmm2
    have hd := congrArg Prod.fst hx
    simp only at hd
    have key : ∀ k, k < len → ∃ y : Ins, a.spot = none ∧ ∀ r u, (insC y)[r]? = some u → W.cell? ⟨a.block, a.off + (k * 4 + r), none⟩ = some u := by
      intro k hk
      have hsp : a.spot = none := by
        obtain ⟨cs0, h0, _⟩ := hel 0 (by omega)
        rw [cIns] at h0
        obtain ⟨_, hlen, hc⟩ := World.cells?_some h0
        have h1 := hc 0 (by decide)
        rw [List.getElem?_eq_getElem (by omega)] at h1
        have h2 := spot_none h1
        simpa [Addr.add] using h2
      obtain ⟨cs, h1, h2⟩ := hel k (by omega)
      rw [cIns] at h1
      obtain ⟨_, hlen, hc⟩ := World.cells?_some h1
      obtain ⟨y, rfl⟩ := open_instr h2
      have hsp2 : (a.add (k * 4)).spot = none := by rw [add_none hsp]
      refine ⟨y, hsp, fun r u hr => ?_⟩
      have hr4 : r < 4 := (List.getElem?_eq_some_iff.1 hr).1
      have := hc r hr4
      rw [add_none hsp2, add_none hsp] at this
      rw [← Nat.add_assoc, this, hr]
    obtain ⟨ys, hys⟩ := Deep.choose_lt (α := Ins) key
    obtain ⟨l1, l2, l3⟩ := list_of (n := len) ys ⟨0, 0, 0, 0⟩
    refine ⟨(List.range len).map ys, ?_, ?_⟩
    · rw [l1]
      refine ⟨some a, cap, hv, fun hne => ⟨a.block, a.off, ?_, fun j u hj => ?_⟩⟩
      · have hs := (hys 0 (by omega)).1
        cases a; simp at hs; subst hs; rfl
      · have hjl : j / 4 < len := by
          have := (List.getElem?_eq_some_iff.1 hj).1
          rw [insCells_len, l1] at this
          omega
        have hj2 : (insCells ((List.range len).map ys))[j / 4 * 4 + j % 4]? = some u := by rw [show j / 4 * 4 + j % 4 = j by omega]; exact hj
        unfold insCells at hj2
        rw [get_cells insC 4 (fun _ => rfl) _ _ _ (by omega), l2 _ hjl] at hj2
        have := (hys (j / 4) hjl).2 (j % 4) u hj2
        rwa [show j / 4 * 4 + j % 4 = j by omega] at this
    · rw [l1]
      have h1 := hz ((len + (cap - len)) * Try.prog.bytesOf 48) (by rw [hd]; simp [DataW.weights, Try.underlying49])
      rw [bIns] at h1
      have h3 : reachBytes < 140737488355328 := by decide
      omega

/-- a thread's code that came in -/
theorem open_code {fuel : Nat} {cs : List Value} {d : DataW H} {ps : List MemPlace} (h : DataW.trod enc Try.prog W 0 (fun _ => true) true fuel 51 cs = some (d, ps))
    (hz : ∀ n ∈ d.weights Try.prog 51, n ≤ reachBytes) : ∃ (c : Cod) (u : Value), cs = [.int .i64 c.regs, u] ∧ SrcAt W u c.ins.length (insCells c.ins) ∧ c.ins.length * 32 ≤ 140737488355328 := by
  obtain ⟨xs, n, _, hx, hl, hlen, hf⟩ := DataW.trod_struct Try.underlying51 h
  rw [cCode] at hl
  match cs, hl, xs, hlen with
  | [c0, c1], _, [y0, y1], _ =>
    have f0 : DataW.trod enc Try.prog W 0 (fun _ => true) true n 3 (([c0, c1].drop 0).take (Try.prog.cellsOf 3)) = some y0 := hf 0 _ rfl
    have f1 : DataW.trod enc Try.prog W 0 (fun _ => true) true n 49 (([c0, c1].drop 1).take (Try.prog.cellsOf 49)) = some y1 := hf 1 _ rfl
    rw [cInt] at f0
    rw [cInss] at f1
    obtain ⟨n0, g0, _, _⟩ := DataW.trod_int Try.underlying3 f0
    simp at g0
    subst g0
    have hd := congrArg Prod.fst hx
    simp only [List.map_cons, List.map_nil] at hd
    obtain ⟨l, hl1, hl2⟩ := open_inss (d := y1.1) (ps := y1.2) f1 (fun k hk => hz k (by rw [hd]; simp [DataW.weights, Try.underlying51, DataW.weightsEach, hk]))
    exact ⟨⟨n0, l⟩, c1, rfl, hl1, hl2⟩

theorem all_mem {P : Program} {e : TypeId} {d : DataW H} : ∀ {l : List (DataW H)}, d ∈ l → ∀ n ∈ d.weights P e, n ∈ DataW.weightsAll P e l
  | d0 :: r, hd, n, hn => by
    simp only [DataW.weightsAll, List.mem_append]
    rcases List.mem_cons.1 hd with rfl | hd
    · exact .inl hn
    · exact .inr (all_mem hd n hn)

/-- the threads that came in -/
theorem open_codes {v : Value} {fuel : Nat} {d : DataW H} {ps : List MemPlace} (h : DataW.trod enc Try.prog W 0 (fun _ => true) true fuel 23 [v] = some (d, ps))
    (hz : ∀ n ∈ d.weights Try.prog 23, n ≤ reachBytes) : ∃ l : List Cod, ThrR W v l ∧ l.length * 32 ≤ 140737488355328 ∧ ∀ i, i < l.length → (l.getD i ⟨0, []⟩).ins.length * 32 ≤ 140737488355328 := by
  rcases Deep.open_slice Try.underlying23 h with ⟨hcs, hx⟩ | ⟨a, len, cap, m, n, D, Pl, hcs, hb, hl, hm, hmm, hx, hel⟩
  · have hv : v = .slice none 0 0 := by simpa using hcs
    exact ⟨[], ⟨none, 0, hv, fun i hi => absurd hi (Nat.not_lt_zero _)⟩, by decide, fun i hi => absurd hi (Nat.not_lt_zero _)⟩
  · have hv : v = .slice (some a) len cap := by simpa using hcs
    simp only [if_true] at hmm
    have hmm2 := hmm.symm
    subst hmm2
    have hd := congrArg Prod.fst hx
    simp only at hd
    have key : ∀ k, k < len → ∃ y : Cod, ∃ u, a.spot = none ∧ W.cell? ⟨a.block, a.off + k * 2, none⟩ = some (.int .i64 y.regs) ∧ W.cell? ⟨a.block, a.off + k * 2 + 1, none⟩ = some u ∧ SrcAt W u y.ins.length (insCells y.ins) ∧ y.ins.length * 32 ≤ 140737488355328 := by
      intro k hk
      have hsp : a.spot = none := by
        obtain ⟨cs0, h0, _⟩ := hel 0 (by omega)
        rw [cCode] at h0
        obtain ⟨_, hlen, hc⟩ := World.cells?_some h0
        have h1 := hc 0 (by decide)
        rw [List.getElem?_eq_getElem (by omega)] at h1
        have h2 := spot_none h1
        simpa [Addr.add] using h2
      obtain ⟨cs, h1, h2⟩ := hel k (by omega)
      rw [cCode] at h1
      obtain ⟨_, hlen, hc⟩ := World.cells?_some h1
      obtain ⟨y, u, rfl, hs1, hs2⟩ := open_code h2 (fun q hq => hz q (by
        rw [hd]
        have hmem : D k ∈ (List.range len).map D := List.mem_map.2 ⟨k, List.mem_range.2 hk, rfl⟩
        have := all_mem (P := Try.prog) (e := 51) hmem q hq
        simp only [DataW.weights, Try.underlying23, List.mem_cons, List.mem_append]
        exact .inr (.inl this)))
      have hsp2 : (a.add (k * 2)).spot = none := by rw [add_none hsp]
      have c0 := hc 0 (by decide)
      have c1 := hc 1 (by decide)
      rw [add_none hsp2, add_none hsp] at c0 c1
      exact ⟨y, u, hsp, c0, c1, hs1, hs2⟩
    obtain ⟨ys, hys⟩ := Deep.choose_lt (α := Cod) key
    obtain ⟨l1, l2, l3⟩ := list_of (n := len) ys ⟨0, []⟩
    refine ⟨(List.range len).map ys, ⟨some a, cap, by rw [l1]; exact hv, fun i hi => ?_⟩, ?_, fun i hi => ?_⟩
    · rw [l1] at hi
      obtain ⟨u, h1, h2, h3, h4, _⟩ := hys i hi
      rw [l3 i hi]
      exact ⟨a.block, a.off, u, by cases a; simp at h1; subst h1; rfl, h2, h3, h4⟩
    · rw [l1]
      have h1 := hz ((len + (cap - len)) * Try.prog.bytesOf 51) (by rw [hd]; simp [DataW.weights, Try.underlying23])
      rw [bCode] at h1
      have h3 : reachBytes < 140737488355328 := by decide
      omega
    · rw [l1] at hi
      obtain ⟨u, _, _, _, _, h5⟩ := hys i hi
      rw [l3 i hi]
      exact h5

/-- an image that came in -/
theorem open_image {fuel : Nat} {cs : List Value} {d : DataW H} {ps : List MemPlace} (h : DataW.trod enc Try.prog W 0 (fun _ => true) true fuel 25 cs = some (d, ps))
    (hz : ∀ n ∈ d.weights Try.prog 25, n ≤ reachBytes) : ∃ (cv tv : Value) (x : Img), cs = [cv, .int .i64 x.mutexes, tv] ∧ ImgR W cv tv x ∧ SizeOk x := by
  obtain ⟨y0, y1, y2, n, hx, hl, f0, f1, f2⟩ := Deep.trod_struct3 Try.underlying25 h
  rw [cImage] at hl
  match cs, hl with
  | [c0, c1, c2], _ =>
    change DataW.trod enc Try.prog W 0 (fun _ => true) true n 22 (([c0, c1, c2].drop 0).take (Try.prog.cellsOf 22)) = some y0 at f0
    change DataW.trod enc Try.prog W 0 (fun _ => true) true n 3 (([c0, c1, c2].drop 1).take (Try.prog.cellsOf 3)) = some y1 at f1
    change DataW.trod enc Try.prog W 0 (fun _ => true) true n 23 (([c0, c1, c2].drop 2).take (Try.prog.cellsOf 23)) = some y2 at f2
    rw [cInts] at f0
    rw [cInt] at f1
    rw [cCodes] at f2
    have hd := congrArg Prod.fst hx
    simp only at hd
    obtain ⟨n1, g1, _, _⟩ := DataW.trod_int Try.underlying3 f1
    simp at g1
    subst g1
    obtain ⟨xs, a1, a2⟩ := open_row (d := y0.1) (ps := y0.2) f0 (fun k hk => hz k (by rw [hd]; simp [DataW.weights, Try.underlying25, DataW.weightsEach, hk]))
    obtain ⟨l, b1, b2, b3⟩ := open_codes (d := y2.1) (ps := y2.2) f2 (fun k hk => hz k (by rw [hd]; simp [DataW.weights, Try.underlying25, DataW.weightsEach, hk]))
    exact ⟨c0, c2, ⟨xs, n1, l⟩, rfl, ⟨a1, b1⟩, ⟨a2, b2, b3⟩⟩
end
end Go.Proofs.Ytmkfpkficmmlgaa
