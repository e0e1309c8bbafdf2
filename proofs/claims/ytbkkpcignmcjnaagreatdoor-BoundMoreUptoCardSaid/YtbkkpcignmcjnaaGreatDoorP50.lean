/- Layer 7: a world in which the library's tables lie; what a row's list gives. Printed by gencard7.py. -/
import Derived.Test.YtbkkpcignmcjnaaGreatDoorP49
import Derived.Test.YtbkkpcignmcjnaaGreatDoorP48
import Derived.Deep.DeepHandedRow
import Derived.Deep.DeepWitnessRowRef
import Derived.Deep.DeepLaidRun
import Derived.Lib.LaidTab
import Derived.Lib.TrailingZeros
import Derived.Lib.LaidU8
import Derived.LaidSub
import Derived.Test.YtbkkpcignmcjnaaGreatDoorCards
import Derived.Test.YtbkkpcignmcjnaaGreatDoorTie
import Derived.WalkKit
import Derived.ProofKit
import Derived.OpenShut
import Derived.Test.YtbkkpcignmcjnaaGreatDoorP46
import Derived.Test.YtbkkpcignmcjnaaGreatDoorP41
import Derived.Sort.Walk0
namespace Go.Proofs.YtbkkpcignmcjnaaGreatDoor
open Go.ChangeShapes Go.WideShapes Go.ChangeAt Go.RowKit
set_option linter.unusedVariables false
set_option linter.unusedSimpArgs false
set_option linter.unnecessarySimpa false

theorem own : ownKnob Tryz.prog.godebug = none := by kernel_rfl
theorem laidOut : laidOutB Tryz.prog = true := by kernel_rfl
theorem keeps_below0 {w w' : World} (h : Keeps NoBlk w w') : Below w.heap.size w w' := h.below (fun k _ hk => hk.elim) (Nat.le_refl _)
def putCells (h : Array Obj) (g : Nat) (cs : Array Value) : Array Obj := h.modify g fun
  | .cells _ t frozen => .cells cs t frozen
  | o => o
/-- a world for the witness: the settled one with the two errors' structs, the seven variables laid -/
noncomputable def laidWorld (os : Os) : World :=
  let N := (World.settled Tryz.prog os).heap.size
  let w0 := World.holding Tryz.prog os ⟨#[.cells #[.string ⟨#[118, 97, 108, 117, 101, 32, 111, 117, 116, 32, 111, 102, 32, 114, 97, 110, 103, 101]⟩] 210, .cells #[.string ⟨#[105, 110, 118, 97, 108, 105, 100, 32, 115, 121, 110, 116, 97, 120]⟩] 210], #[], []⟩
  let h1 := putCells w0.heap 2 (Lib.deBruijn32tab.map fun (z : Nat) => Value.int .u8 (z : Int)).toArray
  let h2 := putCells h1 3 (Lib.deBruijn64tab.map fun (z : Nat) => Value.int .u8 (z : Int)).toArray
  let h3 := putCells h2 0 (Lib.pow10Tab.map fun z => Value.int .u64 z).toArray
  let h4 := putCells h3 5 ((List.range 16).flatMap fun i => [Value.int .u8 (Lib.accLo i), Value.int .u8 (Lib.accHi i)]).toArray
  let h5 := putCells h4 7 #[.iface 208 (.pointer (some ⟨N, 0, none⟩))]
  let h6 := putCells h5 6 #[.iface 208 (.pointer (some ⟨N + 1, 0, none⟩))]
  let h7 := putCells h6 4 (Lib.firstTab.map fun z => Value.int .u8 z).toArray
  { w0 with heap := h7 }
theorem tabP_of {W : World} (h : laidMetH Tryz.prog Rows.boundTellsUptoRow.laid W) : TabP W := by
  have h1 := laidMetH.filter (fun x => x.1 == "internal/strconv.uint64pow10") h
  have e : Rows.boundTellsUptoRow.laid.filter (fun x => x.1 == "internal/strconv.uint64pow10") = [("internal/strconv.uint64pow10", Lib.tabData .u64 Lib.pow10Tab)] := by kernel_rfl
  rw [e] at h1
  exact Lib.tabIs_of_head (rest := []) (g := 0) (by kernel_rfl) (t := 157) (by kernel_rfl) Tryz.underlying157 Tryz.underlying125 (by kernel_rfl) (by kernel_rfl) h1
theorem unOk_of {H : Type} {cs : List Int} {bs : List Bd} {d : DataW H} (hk : ∀ b, b ∈ bs → Ac.kindsL b.acts) (hs : bsSz bs + cs.length + bs.length ≤ 2 * Rows.uptoBulk d) (hb : Rows.uptoBulk d ≤ 1048576) : UnOk cs bs :=
  ⟨hk, by omega, by omega, by omega⟩
theorem bulk_le {H : Type} {d : DataW H} {l : List (DataW H)} (hk : Rows.uptoSmall H (d :: l) = true) : Rows.uptoBulk d ≤ 1048576 := by
  have h : Rows.uptoBulkAll (d :: l) ≤ 1048576 := of_decide_eq_true hk
  simp only [Rows.uptoBulkAll] at h
  omega
end Go.Proofs.YtbkkpcignmcjnaaGreatDoor

/- BoundTells, where what comes in is of bulk at most 1048576: it returns true and each argument reads afterwards as before; tied to the pruned copy of the project. Condition: the row's own (the seven tables laid as the text lays them). -/
namespace Go.Proofs.YtbkkpcignmcjnaaGreatDoor.lawBoundTells
open Go.ChangeShapes Go.WideShapes Go.ChangeAt Go.RowKit
set_option linter.unusedVariables false
set_option linter.unusedSimpArgs false
set_option linter.unnecessarySimpa false

theorem laid_met (os : Os) : laidMet Tryz.prog Rows.boundTellsUptoRow.laid ((laidWorld os).forCall (fun _ _ => 0) ⟨#[], #[.agg #[.slice none 0 0, .int .i64 0, .slice none 0 0]], []⟩).memory :=
  laidMet_of_run3 8 (by kernel_rfl) (by kernel_rfl) (by kernel_rfl)
theorem reads (os : Os) {H : Type} (enc : TypeId × Value → H) : ∃ places, DataW.whole enc Tryz.prog ((laidWorld os).forCall (fun _ _ => 0) ⟨#[], #[.agg #[.slice none 0 0, .int .i64 0, .slice none 0 0]], []⟩).memory Tryz.f3.params.toList Rows.boundTellsSpec.vars false #[Value.agg #[.slice none 0 0, .int .i64 0, .slice none 0 0]].toList 8 = some ([.agg [.nil, .lit (.int .i64 0), .nil]], [], places) :=
  ⟨[], by kernel_rfl⟩

set_option maxRecDepth 100000 in
theorem contract (H : Type) (enc : TypeId × Value → H) (W : World) (base : Nat) (args : Array Value) (ds gs : List (DataW H)) (before : List MemPlace)
    (hval0 : ∀ (j : Nat) t v, Tryz.f3.params[j]? = some t → args[j]? = some v → Value.okWide Tryz.prog W .any base t v)
    (hW : DataW.Whole enc Tryz.prog Tryz.f3.params.toList Rows.boundTellsSpec.vars false W args.toList ds gs before) (hk : Rows.uptoSmall H (ds ++ gs) = true) (hL : laidMetH Tryz.prog Rows.boundTellsUptoRow.laid W) :
    Calls Tryz.prog 3 args W fun e W' => ∃ v, e = .returned v ∧ Rows.boundTellsSpec.post enc Tryz.prog Tryz.f3 false true false false W args v W' := by
  have hval : ∀ (j : Nat) t v, Tryz.f3.params[j]? = some t → args[j]? = some v → Value.okWide Tryz.prog W .any base t v := hval0
  have hT : TabP W := tabP_of hL
  have hW' := hW
  have hltW := hW.lt
  obtain ⟨p, q, hA0, hV, rfl, hfz, hnd⟩ := hW
  have hA : DataW.TrodAll enc Tryz.prog W 0 (fun _ => true) true Tryz.f3.params.toList args.toList ds p := hA0
  rw [Tryz.params3] at hA hval
  obtain ⟨v0, vs0, d0, ds0, p0, q0, hargs, rfl, rfl, h0, r0⟩ := trodAll_cons hA
  obtain ⟨rfl, rfl, rfl⟩ := trodAll_nil r0
  obtain rfl : args = #[v0] := by cases args; simp_all
  obtain ⟨rfl, rfl⟩ := trodVars_none hV
  have h0k := h0
  have hlt0 : ∀ x ∈ p0, x.block < W.heap.size := fun x hx => hltW x (by simp [hx])
  obtain ⟨c0, rfl, _⟩ := okWide_struct Tryz.underlying25 (hval 0 25 v0 rfl rfl)
  have hB := bulk_le hk
  obtain ⟨f0, hf0⟩ := h0
  obtain ⟨l, mu, bs, uca, uta, ucc, utc, hcs, hN, hC, hkd, hsz⟩ := open_unit (d := d0) (ps := p0) hf0
  have hc0 : c0 = #[.slice uca l.length ucc, .int .i64 mu, .slice uta bs.length utc] := by
    have h : c0.toList = [.slice uca l.length ucc, .int .i64 mu, .slice uta bs.length utc] := hcs
    cases c0; simpa using h
  subst hc0
  clear hA0 hval0
  simp only [List.append_nil] at hW'
  have hU : UnAt W (fun k => k < W.heap.size) l bs uca uta := ⟨hN, hC.at, fun k h => h⟩
  refine (boundTells_any (ucc := ucc) (utc := utc) (mu := mu) hU (unOk_of hkd hsz hB) hT).mono fun e W' ⟨he, hk⟩ => ?_
  subst he
  have hb := keeps_below0 hk
  refine ⟨_, rfl, _, _, _, [], p0, [], hW', trodAll_cons_mk (shut_bool Tryz.underlying4 _) trodAll_mk0, ?_, rfl, hb.frame _, fun h => by cases h⟩
  have := trodAll_cons_mk (Below.trod laidOut (by kernel_rfl) (of_decide_eq_true (by kernel_rfl)) h0k hb hlt0) trodAll_mk0
  rw [List.append_nil] at this
  rw [Tryz.params3]
  exact this

set_option maxRecDepth 100000 in
theorem lifted (os : Os) (started : os.Started) (H : Type) (enc : TypeId × Value → H) (F : Stop.Interp) :
    ReturnsInHanded {} Tryz.checked os 3 .any ((Rows.OpenSpec.upto Rows.boundTellsSpec).preRow enc Tryz.prog Tryz.f3 Rows.boundTellsUptoRow.domain false Rows.boundTellsUptoRow.laid) (((Rows.OpenSpec.upto Rows.boundTellsSpec).at F).post enc Tryz.prog Tryz.f3 false true false false) := by
  obtain ⟨places, hx⟩ := reads os enc
  refine returnsInHanded_of_row (C := Tryz.checked) (s := Rows.OpenSpec.upto Rows.boundTellsSpec) own started (by kernel_rfl) Tryz.func3
    (witness_row_atRef (enc := enc) (C := Tryz.checked) false (laidWorld os) #[.agg #[.slice none 0 0, .int .i64 0, .slice none 0 0]] rfl (by kernel_rfl) (by kernel_rfl) (by kernel_rfl)
      (OpenSpec.preRow_of_cond 8 hx (by kernel_rfl) (fun k hk => by cases hk; kernel_rfl) (by kernel_rfl) (laid_met os))) ?_
  intro W base args ds gs before hval hW _ hcond _ hL _ _
  exact contract H enc W base args ds gs before hval hW (hcond _ rfl) hL

theorem saidUpto : Rows.BoundTellsUptoSaid :=
  OpenClaim.holds_of_cond 3 Tryz.f3 rfl rfl rfl rfl rfl rfl rfl ⟨rfl, rfl, rfl, rfl, rfl⟩ rfl rfl rfl rfl rfl (by kernel_rfl) Tryz.func3 (by kernel_rfl)
    (of_decide_eq_true (by kernel_rfl)) (by unfold Func.isWrapper; first | (rw [if_pos (by decide +kernel)]; kernel_rfl) | (rw [if_neg (by decide +kernel)]; exact ⟨rfl, rfl⟩))
    (fun os started H enc _ F => by rw [OpenClaim.pre_eq_preRow]; exact lifted os started H enc F)

theorem plain (f : FuncId) (fn : Func) (hf : Tryz.pinned.checked.prog.funcNamed "racetree/racetreelaw07.BoundTells" = some f) (hfn : Tryz.pinned.checked.prog.funcs[f]? = some fn) :
    true = Tryz.pinned.checked.prog.looks [] ∧ ∀ (j : Nat) t, fn.params[j]? = some t → Tryz.pinned.checked.prog.wantsStandIn t = false := by
  obtain rfl : f = 3 := Option.some.inj ((show Tryz.prog.funcNamed "racetree/racetreelaw07.BoundTells" = some 3 by kernel_rfl).symm.trans hf) |>.symm
  obtain rfl : fn = Tryz.f3 := (Option.some.inj (Tryz.func3.symm.trans hfn)).symm
  refine ⟨by kernel_rfl, fun j t ht => ?_⟩
  rw [Tryz.params3] at ht
  obtain rfl : t = 25 := by simpa using Array.mem_of_getElem? ht
  exact (show Tryz.prog.wantsStandIn 25 = false by kernel_rfl)

/-- the card -/
theorem cardUpto : Rows.BoundTellsUptoCardSaid :=
  Claim7.holds_tied_plain_at .later [] _ _ _ _ saidUpto (fun _ h => by cases h) (by kernel_rfl) (fun _ h => by cases h) boundTellsUpto_row_tie rfl ⟨rfl, rfl⟩ (by kernel_rfl) rfl plain (by kernel_rfl)
end Go.Proofs.YtbkkpcignmcjnaaGreatDoor.lawBoundTells

/- BoundWithin, where what comes in is of bulk at most 1048576: it returns true and each argument reads afterwards as before; tied to the pruned copy of the project. Condition: the row's own (the seven tables laid as the text lays them). -/
namespace Go.Proofs.YtbkkpcignmcjnaaGreatDoor.lawBoundWithin
open Go.ChangeShapes Go.WideShapes Go.ChangeAt Go.RowKit
set_option linter.unusedVariables false
set_option linter.unusedSimpArgs false
set_option linter.unnecessarySimpa false

theorem laid_met (os : Os) : laidMet Tryz.prog Rows.boundWithinUptoRow.laid ((laidWorld os).forCall (fun _ _ => 0) ⟨#[], #[.agg #[.slice none 0 0, .int .i64 0, .slice none 0 0]], []⟩).memory :=
  laidMet_of_run3 8 (by kernel_rfl) (by kernel_rfl) (by kernel_rfl)
theorem reads (os : Os) {H : Type} (enc : TypeId × Value → H) : ∃ places, DataW.whole enc Tryz.prog ((laidWorld os).forCall (fun _ _ => 0) ⟨#[], #[.agg #[.slice none 0 0, .int .i64 0, .slice none 0 0]], []⟩).memory Tryz.f4.params.toList Rows.boundWithinSpec.vars false #[Value.agg #[.slice none 0 0, .int .i64 0, .slice none 0 0]].toList 8 = some ([.agg [.nil, .lit (.int .i64 0), .nil]], [], places) :=
  ⟨[], by kernel_rfl⟩

set_option maxRecDepth 100000 in
theorem contract (H : Type) (enc : TypeId × Value → H) (W : World) (base : Nat) (args : Array Value) (ds gs : List (DataW H)) (before : List MemPlace)
    (hval0 : ∀ (j : Nat) t v, Tryz.f4.params[j]? = some t → args[j]? = some v → Value.okWide Tryz.prog W .any base t v)
    (hW : DataW.Whole enc Tryz.prog Tryz.f4.params.toList Rows.boundWithinSpec.vars false W args.toList ds gs before) (hk : Rows.uptoSmall H (ds ++ gs) = true) (hL : laidMetH Tryz.prog Rows.boundWithinUptoRow.laid W) :
    Calls Tryz.prog 4 args W fun e W' => ∃ v, e = .returned v ∧ Rows.boundWithinSpec.post enc Tryz.prog Tryz.f4 false true false false W args v W' := by
  have hval : ∀ (j : Nat) t v, Tryz.f4.params[j]? = some t → args[j]? = some v → Value.okWide Tryz.prog W .any base t v := hval0
  have hT : TabP W := tabP_of hL
  have hW' := hW
  have hltW := hW.lt
  obtain ⟨p, q, hA0, hV, rfl, hfz, hnd⟩ := hW
  have hA : DataW.TrodAll enc Tryz.prog W 0 (fun _ => true) true Tryz.f4.params.toList args.toList ds p := hA0
  rw [Tryz.params4] at hA hval
  obtain ⟨v0, vs0, d0, ds0, p0, q0, hargs, rfl, rfl, h0, r0⟩ := trodAll_cons hA
  obtain ⟨rfl, rfl, rfl⟩ := trodAll_nil r0
  obtain rfl : args = #[v0] := by cases args; simp_all
  obtain ⟨rfl, rfl⟩ := trodVars_none hV
  have h0k := h0
  have hlt0 : ∀ x ∈ p0, x.block < W.heap.size := fun x hx => hltW x (by simp [hx])
  obtain ⟨c0, rfl, _⟩ := okWide_struct Tryz.underlying25 (hval 0 25 v0 rfl rfl)
  have hB := bulk_le hk
  obtain ⟨f0, hf0⟩ := h0
  obtain ⟨l, mu, bs, uca, uta, ucc, utc, hcs, hN, hC, hkd, hsz⟩ := open_unit (d := d0) (ps := p0) hf0
  have hc0 : c0 = #[.slice uca l.length ucc, .int .i64 mu, .slice uta bs.length utc] := by
    have h : c0.toList = [.slice uca l.length ucc, .int .i64 mu, .slice uta bs.length utc] := hcs
    cases c0; simpa using h
  subst hc0
  clear hA0 hval0
  simp only [List.append_nil] at hW'
  have hU : UnAt W (fun k => k < W.heap.size) l bs uca uta := ⟨hN, hC.at, fun k h => h⟩
  refine (boundWithinLaw_any (ucc := ucc) (utc := utc) (mu := mu) hU (unOk_of hkd hsz hB) hT).mono fun e W' ⟨he, hk⟩ => ?_
  subst he
  have hb := keeps_below0 hk
  refine ⟨_, rfl, _, _, _, [], p0, [], hW', trodAll_cons_mk (shut_bool Tryz.underlying4 _) trodAll_mk0, ?_, rfl, hb.frame _, fun h => by cases h⟩
  have := trodAll_cons_mk (Below.trod laidOut (by kernel_rfl) (of_decide_eq_true (by kernel_rfl)) h0k hb hlt0) trodAll_mk0
  rw [List.append_nil] at this
  rw [Tryz.params4]
  exact this

set_option maxRecDepth 100000 in
theorem lifted (os : Os) (started : os.Started) (H : Type) (enc : TypeId × Value → H) (F : Stop.Interp) :
    ReturnsInHanded {} Tryz.checked os 4 .any ((Rows.OpenSpec.upto Rows.boundWithinSpec).preRow enc Tryz.prog Tryz.f4 Rows.boundWithinUptoRow.domain false Rows.boundWithinUptoRow.laid) (((Rows.OpenSpec.upto Rows.boundWithinSpec).at F).post enc Tryz.prog Tryz.f4 false true false false) := by
  obtain ⟨places, hx⟩ := reads os enc
  refine returnsInHanded_of_row (C := Tryz.checked) (s := Rows.OpenSpec.upto Rows.boundWithinSpec) own started (by kernel_rfl) Tryz.func4
    (witness_row_atRef (enc := enc) (C := Tryz.checked) false (laidWorld os) #[.agg #[.slice none 0 0, .int .i64 0, .slice none 0 0]] rfl (by kernel_rfl) (by kernel_rfl) (by kernel_rfl)
      (OpenSpec.preRow_of_cond 8 hx (by kernel_rfl) (fun k hk => by cases hk; kernel_rfl) (by kernel_rfl) (laid_met os))) ?_
  intro W base args ds gs before hval hW _ hcond _ hL _ _
  exact contract H enc W base args ds gs before hval hW (hcond _ rfl) hL

theorem saidUpto : Rows.BoundWithinUptoSaid :=
  OpenClaim.holds_of_cond 4 Tryz.f4 rfl rfl rfl rfl rfl rfl rfl ⟨rfl, rfl, rfl, rfl, rfl⟩ rfl rfl rfl rfl rfl (by kernel_rfl) Tryz.func4 (by kernel_rfl)
    (of_decide_eq_true (by kernel_rfl)) (by unfold Func.isWrapper; first | (rw [if_pos (by decide +kernel)]; kernel_rfl) | (rw [if_neg (by decide +kernel)]; exact ⟨rfl, rfl⟩))
    (fun os started H enc _ F => by rw [OpenClaim.pre_eq_preRow]; exact lifted os started H enc F)

theorem plain (f : FuncId) (fn : Func) (hf : Tryz.pinned.checked.prog.funcNamed "racetree/racetreelaw07.BoundWithin" = some f) (hfn : Tryz.pinned.checked.prog.funcs[f]? = some fn) :
    true = Tryz.pinned.checked.prog.looks [] ∧ ∀ (j : Nat) t, fn.params[j]? = some t → Tryz.pinned.checked.prog.wantsStandIn t = false := by
  obtain rfl : f = 4 := Option.some.inj ((show Tryz.prog.funcNamed "racetree/racetreelaw07.BoundWithin" = some 4 by kernel_rfl).symm.trans hf) |>.symm
  obtain rfl : fn = Tryz.f4 := (Option.some.inj (Tryz.func4.symm.trans hfn)).symm
  refine ⟨by kernel_rfl, fun j t ht => ?_⟩
  rw [Tryz.params4] at ht
  obtain rfl : t = 25 := by simpa using Array.mem_of_getElem? ht
  exact (show Tryz.prog.wantsStandIn 25 = false by kernel_rfl)

/-- the card -/
theorem cardUpto : Rows.BoundWithinUptoCardSaid :=
  Claim7.holds_tied_plain_at .later [] _ _ _ _ saidUpto (fun _ h => by cases h) (by kernel_rfl) (fun _ h => by cases h) boundWithinUpto_row_tie rfl ⟨rfl, rfl⟩ (by kernel_rfl) rfl plain (by kernel_rfl)
end Go.Proofs.YtbkkpcignmcjnaaGreatDoor.lawBoundWithin

/- Layer 7: numbers in base ten, compared as texts. -/
namespace Go.Proofs.YtbkkpcignmcjnaaGreatDoor
open Go.RowKit
set_option linter.unusedVariables false
set_option linter.unusedSimpArgs false
set_option linter.unnecessarySimpa false

theorem less_snoc (a b : UInt8) : ∀ (l1 l2 : List UInt8), l1.length = l2.length → ((l1 ++ [a] < l2 ++ [b]) ↔ (l1 < l2 ∨ (l1 = l2 ∧ a < b)))
  | [], [], _ => by simp [List.cons_lt_cons_iff]
  | [], _ :: _, h => by simp at h
  | _ :: _, [], h => by simp at h
  | x :: l1, y :: l2, h => by
    have ih := less_snoc a b l1 l2 (by simpa using h)
    simp only [List.cons_append, List.cons_lt_cons_iff, ih]
    constructor
    · rintro (h1 | ⟨rfl, h1 | ⟨rfl, h1⟩⟩)
      · exact .inl (.inl h1)
      · exact .inl (.inr ⟨rfl, h1⟩)
      · exact .inr ⟨rfl, h1⟩
    · rintro ((h1 | ⟨rfl, h1⟩) | ⟨h0, h1⟩)
      · exact .inl h1
      · exact .inr ⟨rfl, .inl h1⟩
      · injection h0 with h2 h3
        exact .inr ⟨h2, .inr ⟨h3, h1⟩⟩
theorem dec_digit {a b : Nat} (ha : a < 10) (hb : b < 10) : UInt8.ofNat (48 + a) < UInt8.ofNat (48 + b) ↔ a < b := by
  rw [UInt8.lt_iff_toNat_lt]
  simp only [UInt8.toNat_ofNat']
  omega
theorem decL_mono (n : Nat) : ∀ m, m ≤ n → (decL m).length ≤ (decL n).length := by
  induction n using Nat.strongRecOn with
  | _ n ih =>
    intro m hm
    by_cases h : m / 10 = 0
    · rw [decL_small (u := m) (by omega)]
      exact decL_pos n
    · have h2 : ¬ n / 10 = 0 := by omega
      rw [decL_step h, decL_step h2]
      have := ih (n / 10) (by omega) (m / 10) (by omega)
      simpa using this
theorem decL_lt (n : Nat) : ∀ m, (decL m).length = (decL n).length → ((decL m < decL n) ↔ m < n) := by
  induction n using Nat.strongRecOn with
  | _ n ih =>
    intro m hl
    by_cases h : m / 10 = 0
    · have h2 : n / 10 = 0 := by
        rcases Nat.eq_zero_or_pos (n / 10) with h2 | h2
        · exact h2
        · rw [decL_small (u := m) (by omega), decL_step (n := n) (by omega)] at hl
          have := decL_pos (n / 10)
          simp only [List.length_append, List.length_singleton] at hl; omega
      rw [decL_small (u := m) (by omega), decL_small (u := n) (by omega)]
      simp only [List.cons_lt_cons_iff]
      rw [dec_digit (by omega) (by omega)]
      simp
    · have h2 : ¬ n / 10 = 0 := by
        intro h2
        rw [decL_small (u := n) (by omega), decL_step (n := m) (by omega)] at hl
        have := decL_pos (m / 10)
        simp only [List.length_append, List.length_singleton] at hl; omega
      rw [decL_step h, decL_step h2] at hl ⊢
      have hl' : (decL (m / 10)).length = (decL (n / 10)).length := by simpa using hl
      rw [less_snoc _ _ _ _ hl', ih (n / 10) (by omega) (m / 10) hl', dec_digit (Nat.mod_lt _ (by decide)) (Nat.mod_lt _ (by decide))]
      have hj : decL (m / 10) = decL (n / 10) → m / 10 = n / 10 := by
        intro e
        have a1 := ih (n / 10) (by omega) (m / 10) hl'
        rw [e] at a1
        have a2 := ih (n / 10) (by omega) (n / 10) rfl
        rcases Nat.lt_trichotomy (m / 10) (n / 10) with q | q | q
        · exact absurd (a2.1 (a1.2 q)) (Nat.lt_irrefl _)
        · exact q
        · have a3 := ih (m / 10)
          exfalso
          have a4 := (List.lt_irrefl (decL (n / 10)))
          by_cases hm : m / 10 < n
          · have := (ih (m / 10) hm (n / 10) hl'.symm).2 q
            rw [e] at this
            exact a4 this
          · -- m / 10 ≥ n: then it has more digits than n / 10
            have b1 := decL_mono (m / 10) n (by omega)
            rw [decL_step h2, hl'] at b1
            simp at b1
            omega
      constructor
      · rintro (q | ⟨e, q⟩)
        · omega
        · have := hj e; omega
      · intro q
        by_cases e : m / 10 = n / 10
        · exact .inr ⟨by rw [e], by omega⟩
        · exact .inl (by omega)
/-- is a text above another one? -/
def aboveB (a b : ByteArray) : Bool := if a.size = b.size then !(Op.bytesLess a.toList b.toList || a.toList == b.toList) else decide (b.size < a.size)
theorem tell_size (n : Nat) : (tell true n).size = (decL n).length := by
  unfold tell; simp [ByteArray.size]
theorem tell_list (n : Nat) : (tell true n).toList = decL n := by
  unfold tell; simp [Lib.toList_data]
theorem decL_inj {m n : Nat} (h : decL m = decL n) : m = n := by
  have a1 := decL_lt n m (by rw [h])
  have a2 := decL_lt m n (by rw [h])
  rw [h] at a1 a2
  rcases Nat.lt_trichotomy m n with q | q | q
  · exact absurd (a1.2 q) (List.lt_irrefl _)
  · exact q
  · exact absurd (a2.2 q) (List.lt_irrefl _)
theorem above_tell (m n : Nat) : aboveB (tell true m) (tell true n) = decide (n < m) := by
  unfold aboveB
  rw [tell_size, tell_size, tell_list, tell_list, Proofs.bytesLess_eq]
  by_cases hl : (decL m).length = (decL n).length
  · rw [if_pos hl]
    have a1 := decL_lt n m hl
    by_cases q : m < n
    · have := a1.2 q
      simp [this]; omega
    · have hn : ¬ decL m < decL n := fun h => q (a1.1 h)
      by_cases e : m = n
      · subst e; simp
      · have he : ¬ decL m = decL n := fun h => e (decL_inj h)
        have hb : (decL m == decL n) = false := by simpa using he
        have hlt : n < m := by omega
        simp [hn, hb, hlt]
  · rw [if_neg hl]
    congr 1
    apply propext
    constructor
    · intro q
      rcases Nat.lt_or_ge n m with h | h
      · exact h
      · have := decL_mono n m h; omega
    · intro q
      have := decL_mono m n (by omega)
      omega
set_option maxRecDepth 8000 in
set_option maxHeartbeats 2000000 in
theorem above_law (a b : ByteArray) (w : World) : Calls Tryz.prog 15 #[.string a, .string b] w fun e w' => e = .returned (.bool (aboveB a b)) ∧ Keeps NoBlk w w' := by
  by_cases h : a.size = b.size
  · have e : aboveB a b = !(Op.bytesLess a.toList b.toList || a.toList == b.toList) := by unfold aboveB; rw [if_pos h]
    rw [e]
    clear e
    have h1 : ((a.size : Int) = (b.size : Int)) := by rw [h]
    go_enter Tryz.func15, Tryz.ntmps15
    go_wp2
    all_goals go_ret
    all_goals exact ⟨by simp, Keeps.refl _ _⟩
  · have e : aboveB a b = decide (b.size < a.size) := by unfold aboveB; rw [if_neg h]
    rw [e]
    clear e
    have h1 : ¬ ((a.size : Int) = (b.size : Int)) := by omega
    go_enter Tryz.func15, Tryz.ntmps15
    go_wp2
    all_goals go_ret
    all_goals first | (exact ⟨rfl, Keeps.refl _ _⟩) | skip
end Go.Proofs.YtbkkpcignmcjnaaGreatDoor
