/- The argument of the stack's statements, a script, opened; the table of TrailingZeros64, out of the row's list. -/
import Derived.Test.YtjfbiganijldfaaDoorOnce
import Derived.Test.YtjfbiganijldfaaDoorCards
import Derived.Test.YtjfbiganijldfaaDoorTie
import Derived.ProofKit
import Derived.OpenShut
import Derived.Deep.Slices
import Derived.Deep.DeepHandedRow
import Derived.Lib.LaidTab
namespace Go.Proofs.YtjfbiganijldfaaDoor
open Go.ChangeShapes Go.WideShapes Go.ChangeAt Go.RowKit
set_option linter.unusedVariables false
set_option linter.unusedSimpArgs false
set_option linter.unnecessarySimpa false

instance : Inhabited Stp := ⟨⟨0, 0, 0, 0⟩⟩
theorem own : ownKnob Tryd.prog.godebug = none := by kernel_rfl
theorem laidOut : laidOutB Tryd.prog = true := by kernel_rfl
theorem gTab : Tryd.prog.globalNamed "math/bits.deBruijn64tab" = some 1 := by kernel_rfl
theorem gTabType : (Tryd.prog.globals[1]?).map (·.type) = some 81 := by kernel_rfl
theorem cellsTab : Tryd.prog.cellsOf 81 = 64 := by kernel_rfl
theorem cellsU8 : Tryd.prog.cellsOf 5 = 1 := by kernel_rfl
theorem cellsStep : Tryd.prog.cellsOf 30 = 4 := by kernel_rfl

theorem laidMet_tail {P : Program} {W : World} {x : String × DataW Unit} {rest : List (String × DataW Unit)} (h : laidMet P (x :: rest) W) : laidMet P rest W := by
  obtain ⟨ps, ⟨g', t', cs, fuel, p, q, _, _, _, _, hq, hps⟩, hnd, hz⟩ := h
  subst hps
  exact ⟨q, hq, (List.nodup_append.1 hnd).2.1, fun b off hb => hz b off (List.mem_append_right _ hb)⟩

/-- What the row's list gives: the table of TrailingZeros64. -/
theorem table {W : World} (h : laidMet Tryd.prog [("math/bits.deBruijn32tab", Rows.laid_math_bits_deBruijn32tab), ("math/bits.deBruijn64tab", Rows.laid_math_bits_deBruijn64tab)] W) : TabOK W := by
  have h1 : Lib.TabIs Tryd.prog W "math/bits.deBruijn64tab" .u8 tzTab :=
    Lib.tabIs_of_head (rest := []) gTab gTabType Tryd.underlying81 Tryd.underlying5 cellsU8 cellsTab (laidMet_tail h)
  exact fun j hj => h1.cell gTab j (by exact hj)

theorem bd_u64 {n : Int} (h : (Lit.int .u64 n).wf = true) : 0 ≤ n ∧ n < 18446744073709551616 := by
  simp [Lit.wf, IntKind.min, IntKind.max, IntKind.signed, IntKind.bits] at h
  omega

theorem spot_none {w : World} {a : Addr} {v : Value} (h : w.cell? a = some v) : a.spot = none := by
  unfold World.cell? at h
  split at h
  · split at h
    · cases h
    · rename_i h2; simpa using h2
  · cases h
theorem add_none {a : Addr} (h : a.spot = none) (n : Nat) : a.add n = ⟨a.block, a.off + n, none⟩ := by
  obtain ⟨b, o, s⟩ := a
  simp at h
  subst h
  unfold Addr.add
  split
  · simp_all
  · rfl

theorem open_step {H : Type} {enc : TypeId × Value → H} {W : World} {fuel : Nat} {cs : List Value} {x : DataW H × List MemPlace}
    (h : DataW.trod enc Tryd.prog W 0 (fun _ => true) true fuel 30 cs = some x) : ∃ y : Stp, y.Ok ∧ cs = [.int .i64 y.d, .int .i64 y.i, .int .u64 y.a, .int .u64 y.b] := by
  obtain ⟨xs, n, _, _, hl, hlen, hf⟩ := DataW.trod_struct Tryd.underlying30 h
  rw [cellsStep] at hl
  match cs, hl with
  | [c0, c1, c2, c3], _ =>
    have f0 : DataW.trod enc Tryd.prog W 0 (fun _ => true) true n 3 (([c0, c1, c2, c3].drop 0).take (Tryd.prog.cellsOf 3)) = xs[0]? := hf 0 _ rfl
    have f1 : DataW.trod enc Tryd.prog W 0 (fun _ => true) true n 3 (([c0, c1, c2, c3].drop 1).take (Tryd.prog.cellsOf 3)) = xs[1]? := hf 1 _ rfl
    have f2 : DataW.trod enc Tryd.prog W 0 (fun _ => true) true n 28 (([c0, c1, c2, c3].drop 2).take (Tryd.prog.cellsOf 28)) = xs[2]? := hf 2 _ rfl
    have f3 : DataW.trod enc Tryd.prog W 0 (fun _ => true) true n 28 (([c0, c1, c2, c3].drop 3).take (Tryd.prog.cellsOf 28)) = xs[3]? := hf 3 _ rfl
    have ci : Tryd.prog.cellsOf 3 = 1 := by kernel_rfl
    have cu : Tryd.prog.cellsOf 28 = 1 := by kernel_rfl
    rw [ci] at f0 f1
    rw [cu] at f2 f3
    have hx : ∀ i, i < 4 → ∃ z, xs[i]? = some z := fun i hi => ⟨_, List.getElem?_eq_getElem (by rw [hlen]; exact hi)⟩
    obtain ⟨z0, e0⟩ := hx 0 (by decide)
    obtain ⟨z1, e1⟩ := hx 1 (by decide)
    obtain ⟨z2, e2⟩ := hx 2 (by decide)
    obtain ⟨z3, e3⟩ := hx 3 (by decide)
    rw [e0] at f0
    rw [e1] at f1
    rw [e2] at f2
    rw [e3] at f3
    obtain ⟨n0, g0, _, w0⟩ := DataW.trod_int Tryd.underlying3 f0
    obtain ⟨n1, g1, _, w1⟩ := DataW.trod_int Tryd.underlying3 f1
    obtain ⟨n2, g2, _, w2⟩ := DataW.trod_int Tryd.underlying28 f2
    obtain ⟨n3, g3, _, w3⟩ := DataW.trod_int Tryd.underlying28 f3
    simp at g0 g1 g2 g3
    subst g0 g1 g2 g3
    exact ⟨⟨n0, n1, n2, n3⟩, ⟨bd_u64 w2, bd_u64 w3⟩, rfl⟩

/-- a script that came in -/
theorem open_script {H : Type} {enc : TypeId × Value → H} {W : World} {v : Value} {fuel : Nat} {x : DataW H × List MemPlace}
    (h : DataW.trod enc Tryd.prog W 0 (fun _ => true) true fuel 22 [v] = some x) : ∃ n ss, ScriptAt W v n ss := by
  rcases Deep.open_slice Tryd.underlying22 h with ⟨hcs, _⟩ | ⟨a, len, cap, m, n, D, Pl, hcs, _, hl, hm, hmm, _, hx⟩
  · refine ⟨0, fun _ => ⟨0, 0, 0, 0⟩, none, 0, by simpa using hcs, by decide, fun k hk => by omega⟩
  · have hv : v = .slice (some a) len cap := by simpa using hcs
    subst hv
    simp at hmm
    subst hmm
    have key : ∀ k, k < len → ∃ y : Stp, y.Ok ∧ a.spot = none ∧ W.cell? ⟨a.block, a.off + k * 4, none⟩ = some (.int .i64 y.d) ∧ W.cell? ⟨a.block, a.off + k * 4 + 1, none⟩ = some (.int .i64 y.i) ∧ W.cell? ⟨a.block, a.off + k * 4 + 2, none⟩ = some (.int .u64 y.a) ∧ W.cell? ⟨a.block, a.off + k * 4 + 3, none⟩ = some (.int .u64 y.b) := by
      intro k hk
      have hsp : a.spot = none := by
        obtain ⟨cs0, h0, _⟩ := hx 0 (by omega)
        rw [cellsStep] at h0
        obtain ⟨_, hlen, hc⟩ := World.cells?_some h0
        have h1 := hc 0 (by decide)
        rw [List.getElem?_eq_getElem (by omega)] at h1
        have h2 := spot_none h1
        simpa [Addr.add] using h2
      obtain ⟨cs, h1, h2⟩ := hx k (by omega)
      rw [cellsStep] at h1
      obtain ⟨_, hlen, hc⟩ := World.cells?_some h1
      obtain ⟨y, hy, rfl⟩ := open_step h2
      have hsp2 : (a.add (k * 4)).spot = none := by rw [add_none hsp]
      have c0 := hc 0 (by decide)
      have c1 := hc 1 (by decide)
      have c2 := hc 2 (by decide)
      have c3 := hc 3 (by decide)
      rw [add_none hsp2, add_none hsp] at c0 c1 c2 c3
      exact ⟨y, hy, hsp, c0, c1, c2, c3⟩
    obtain ⟨ss, hss⟩ := Deep.choose_lt (α := Stp) key
    refine ⟨len, ss, some a, _, rfl, Nat.le_trans hl hm, fun k hk => ?_⟩
    obtain ⟨h1, h2, h3, h4, h5, h6⟩ := hss k hk
    refine ⟨h1, a.block, a.off, ?_, h3, h4, h5, h6⟩
    obtain ⟨b, o, s⟩ := a
    simp at h2
    subst h2
    rfl
end Go.Proofs.YtjfbiganijldfaaDoor
