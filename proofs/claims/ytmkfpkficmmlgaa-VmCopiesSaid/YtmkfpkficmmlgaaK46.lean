/- VmCopies: the walk and the statement, for every input; no condition beyond the statement's own. -/
import Derived.Test.YtmkfpkficmmlgaaK42
import Derived.Test.YtmkfpkficmmlgaaK45
/- VmCopies: the statement. -/
namespace Go.Proofs.Ytmkfpkficmmlgaa
open Go.ChangeShapes Go.WideShapes Go.ChangeAt Go.RowKit
set_option linter.unusedVariables false
set_option linter.unusedSimpArgs false
set_option linter.unnecessarySimpa false

/-- a row's capacity covers it -/
theorem row_cap {H : Type} {enc : TypeId × Value → H} {W : World} {v : Value} {fuel : Nat} {x : DataW H × List MemPlace} (h : DataW.trod enc Try.prog W 0 (fun _ => true) true fuel 22 [v] = some x) : ∃ ad len cap, v = .slice ad len cap ∧ len ≤ cap := by
  rcases open_ints Try.underlying22 Try.underlying3 cInt h with ⟨hcs, hx⟩ | ⟨a, len, cap, zs, hcs, hb, hl, hm, hz2, hx, hcell, _⟩
  · exact ⟨none, 0, 0, by simpa using hcs, Nat.le_refl _⟩
  · exact ⟨some a, len, cap, by simpa using hcs, hl⟩

namespace lawVmCopies
set_option maxRecDepth 100000 in
theorem lifted (os : Os) (started : os.Started) (H : Type) (enc : TypeId × Value → H) :
    ReturnsInHanded {} Try.checked os 4 .any (Rows.vmCopiesSpec.pre6 enc Try.prog Try.f4 Rows.vmCopiesRow.domain false) (Rows.vmCopiesSpec.post enc Try.prog Try.f4 false true false false) := by
  refine returnsInHanded_of_change_sized (C := Try.checked) own started (by kernel_rfl) Try.func4
    (by
      obtain ⟨w, tape, i, h1, h2, h3, h4, h5⟩ := ChangeSpec.witness6 (enc := enc) (C := Try.checked) (s := Rows.vmCopiesSpec) (fn := Try.f4) (conds := Rows.vmCopiesRow.domain) (os := os) (f := 4) false ⟨#[], #[.agg #[.slice none 0 0, .int .i64 0, .slice none 0 0], .slice none 0 0, .slice none 0 0], []⟩ 8 (by kernel_rfl) (by kernel_rfl) (by kernel_rfl) (by kernel_rfl)
      exact ⟨w, tape, i, h1, h2, h3, h4, h5⟩) ?_
  intro W base args ds gs before hval0 hW hcnd hsz _
  have hval : ∀ (j : Nat) t v, Try.f4.params[j]? = some t → args[j]? = some v → Value.okWide Try.prog W .any base t v := hval0
  have hW' := hW
  have hltW := hW.lt
  obtain ⟨p, q, hA0, hV, rfl, hfz, hnd⟩ := hW
  have hA : DataW.TrodAll enc Try.prog W 0 (fun _ => true) true Try.f4.params.toList args.toList ds p := hA0
  rw [Try.params4] at hA hval
  obtain ⟨v0, vs0, d0, ds0, p0, q0, hargs, rfl, rfl, h0, r0⟩ := trodAll_cons hA
  obtain ⟨v1, vs1, d1, ds1, p1, q1, rfl, rfl, rfl, h1, r1⟩ := trodAll_cons r0
  obtain ⟨v2, vs2, d2, ds2, p2, q2, rfl, rfl, rfl, h2, r2⟩ := trodAll_cons r1
  obtain ⟨rfl, rfl, rfl⟩ := trodAll_nil r2
  obtain rfl : args = #[v0, v1, v2] := by cases args; simp_all
  obtain ⟨rfl, rfl⟩ := trodVars_none hV
  have h0k := h0
  have h1k := h1
  have h2k := h2
  have hlt0 : ∀ x ∈ p0, x.block < W.heap.size := fun x hx => hltW x (by simp [hx])
  have hlt2 : ∀ x ∈ p2, x.block < W.heap.size := fun x hx => hltW x (by simp [hx])
  have hlt1 : ∀ x ∈ p1, x.block < W.heap.size := fun x hx => hltW x (by simp [hx])
  have hz : ∀ (j : Nat) (t : TypeId) (d : DataW H), (Try.f4.params.toList ++ Rows.vmCopiesSpec.plain.varTypes Try.prog)[j]? = some t → ([d0, d1, d2] ++ [])[j]? = some d → ∀ n ∈ d.weights Try.prog t, n ≤ reachBytes := fun j t d ht hd n hn => by
    have := List.all_eq_true.1 hsz n (DataW.weights_mem_each ht hd n hn)
    simpa using this
  obtain ⟨c0, rfl, _⟩ := okWide_struct Try.underlying25 (hval 0 25 v0 rfl rfl)
  obtain ⟨ad, len, cap, rfl⟩ := okWide_slice Try.underlying22 (hval 1 22 v1 rfl rfl)
  obtain ⟨ad2, len2, cap2, rfl⟩ := okWide_slice Try.underlying22 (hval 2 22 v2 rfl rfl)
  obtain ⟨f0, hf0⟩ := h0
  obtain ⟨f1, hf1⟩ := h1
  obtain ⟨f2, hf2⟩ := h2
  obtain ⟨cv, tv, x, hcs, hx, hsx⟩ := open_image (d := d0) (ps := p0) hf0 (hz 0 _ _ (by rw [Try.params4]; rfl) rfl)
  obtain ⟨rs, hr, hrz⟩ := open_row (d := d1) (ps := p1) hf1 (hz 1 _ _ (by rw [Try.params4]; rfl) rfl)
  obtain ⟨ts, ht, _⟩ := open_row (d := d2) (ps := p2) hf2 (hz 2 _ _ (by rw [Try.params4]; rfl) rfl)
  have hcap : ∃ ad' cap', (Value.slice ad len cap) = .slice ad' rs.length cap' ∧ rs.length ≤ cap' ∧ rs.length ≤ 140737488355328 := by
    obtain ⟨a1, l1, c1, e1, h1⟩ := row_cap hf1
    obtain ⟨a2, c2, e2, _⟩ := hr
    cases e1
    cases e2
    exact ⟨_, _, rfl, h1, by omega⟩
  have hc0 : c0 = #[cv, .int .i64 x.mutexes, tv] := by
    have h : c0.toList = [cv, .int .i64 x.mutexes, tv] := hcs
    cases c0; simpa using h
  subst hc0
  clear hA0 hval0
  simp only [List.append_nil] at hW'
  refine (vmcopies_any W cv tv _ _ x rs ts hx hr ht hcap).mono fun e W' ⟨he, hk⟩ => ?_
  subst he
  have hb := keeps_below hk
  refine ⟨_, rfl, _, _, _, [], p0 ++ (p1 ++ p2), [], hW', trodAll_cons_mk (shut_bool Try.underlying4 _) trodAll_mk0, ?_, rfl, hb.frame _, fun h => by cases h⟩
  have := trodAll_cons_mk (Below.trod laidOut (by kernel_rfl) (of_decide_eq_true (by kernel_rfl)) h0k hb hlt0) (trodAll_cons_mk (Below.trod laidOut (by kernel_rfl) (of_decide_eq_true (by kernel_rfl)) h1k hb hlt1) (trodAll_cons_mk (Below.trod laidOut (by kernel_rfl) (of_decide_eq_true (by kernel_rfl)) h2k hb hlt2) trodAll_mk0))
  rw [List.append_nil] at this
  rw [Try.params4]
  exact this

theorem said : Rows.VmCopiesSaid :=
  OpenClaim.holds_of_wide 4 Try.f4 rfl rfl rfl rfl rfl rfl rfl ⟨rfl, rfl, rfl, rfl, rfl⟩ rfl rfl rfl rfl rfl (by kernel_rfl) Try.func4 (by kernel_rfl)
    (of_decide_eq_true (by kernel_rfl)) (by unfold Func.isWrapper; first | (rw [if_pos (by decide +kernel)]; kernel_rfl) | (rw [if_neg (by decide +kernel)]; exact ⟨rfl, rfl⟩))
    (fun os started H enc _ => lifted os started H enc)
end lawVmCopies
end Go.Proofs.Ytmkfpkficmmlgaa
