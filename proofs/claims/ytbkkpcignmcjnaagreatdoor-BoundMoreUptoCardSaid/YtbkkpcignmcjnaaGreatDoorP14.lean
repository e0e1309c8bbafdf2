/- Layer 3: is a text a name, and must it be one? -/
import Derived.Test.YtbkkpcignmcjnaaGreatDoorP13
import Derived.Maps.Own
import Derived.Maps.OwnSet
namespace Go.Proofs.YtbkkpcignmcjnaaGreatDoor
open Go.RowKit
set_option linter.unusedVariables false
set_option linter.unusedSimpArgs false
set_option linter.unnecessarySimpa false

set_option maxRecDepth 8000 in
theorem isName_e (w : World) : Calls Tryz.prog 71 #[.string { data := #[] }] w fun e w' => e = .returned (.bool false) ∧ Keeps NoBlk w w' := by
  go_enter Tryz.func71, Tryz.ntmps71
  go_wp2_with (go_at_call 91; refine (tokens_e _).mono ?_; rintro e w2 ⟨⟨ad, c, rfl⟩, g1⟩; have G1 := Lib.hid g1; clear g1)
  go_ret
  exact ⟨rfl, G1.out.alloc _⟩
set_option maxRecDepth 8000 in
theorem isName_x (w : World) : Calls Tryz.prog 71 #[.string { data := #[120] }] w fun e w' => e = .returned (.bool true) ∧ Keeps NoBlk w w' := by
  go_enter Tryz.func71, Tryz.ntmps71
  go_upto_region 4 with (go_at_call 91; refine (tokens_x _).mono ?_; rintro e w2 ⟨⟨ad, c, rfl, ho⟩, g1⟩; have G1 := Lib.hid g1; have HO := Lib.hid ho; clear g1 ho)
  obtain ⟨g, cap, hv, _, _⟩ := HO.out.form (by decide)
  have hv2 : ad = some ⟨g, 0, none⟩ ∧ c = cap := by simpa using hv
  obtain ⟨rfl, rfl⟩ := hv2
  have hr := RowAt.ofOwns HO.out
  obtain ⟨b4, hb4⟩ : ∃ z, z = w2.heap.size := ⟨_, rfl⟩
  have r4 : RowAt (w2.alloc (.cells #[.int .i64 0, .int .i64 0, .string { data := #[] }] 132)) b4 [.int .i64 0, .int .i64 0, .string { data := #[] }] := by rw [hb4]; exact RowAt.ofBlock (heap_alloc_new w2 _)
  have k3 : Keeps NoBlk w (w2.alloc (.cells #[.int .i64 0, .int .i64 0, .string { data := #[] }] 132)) := G1.out.alloc _
  have hr3 := hr.alloc (.cells #[.int .i64 0, .int .i64 0, .string { data := #[] }] 132)
  rw [← hb4]
  generalize w2.alloc (.cells #[.int .i64 0, .int .i64 0, .string { data := #[] }] 132) = w3 at r4 k3 hr3 ⊢
  obtain ⟨d0, d1, d2⟩ := r4.three
  have c0 := hr3.cell (k := 0) (v := .int .i64 1) rfl
  have c1 := hr3.cell (k := 1) (v := .string { data := #[120] }) rfl
  have K3 := Lib.hid k3
  clear hr hr3 r4 k3 hb4 hv HO G1
  go_wp2_with fail
  go_ret
  exact ⟨rfl, K3.out⟩
theorem isName_any (s : ByteArray) (hs : s = xNm ∨ s = noNm) (w : World) : Calls Tryz.prog 71 #[.string s] w fun e w' => e = .returned (.bool (isNm s)) ∧ Keeps NoBlk w w' := by
  rcases hs with rfl | rfl
  · exact isName_x w
  · exact isName_e w
theorem xNm_no : noName xNm = false := rfl
theorem is_any (s : ByteArray) (hs : s = xNm ∨ s = noNm) (must : Bool) (w : World) : Calls Tryz.prog 93 #[.string s, .bool must] w fun e w' => e = .returned (.bool (isMust s must)) ∧ Keeps NoBlk w w' := by
  have HI := Lib.hid (isName_any s hs)
  obtain ⟨q, hq⟩ : ∃ q, q = isNm s := ⟨_, rfl⟩
  have hm : isMust s must = (must && q || !must && noName s) := by rw [hq]; rfl
  rw [← hq] at HI
  rw [hm]
  clear hm hq
  cases must
  · cases hn : noName s
    · have h1 := noName_F hn
      have h2 := noName_F' hn
      go_enter Tryz.func93, Tryz.ntmps93
      go_wp2_with fail
      go_ret
      exact ⟨rfl, Keeps.refl _ _⟩
    · have h1 := noName_T hn
      go_enter Tryz.func93, Tryz.ntmps93
      go_wp2_with fail
      go_ret
      exact ⟨rfl, Keeps.refl _ _⟩
  · cases q
    · go_enter Tryz.func93, Tryz.ntmps93
      go_wp2_with (go_at_call 71; refine (HI.out _).mono ?_; rintro e w1 ⟨rfl, g1⟩; have G1 := Lib.hid g1; clear g1)
      go_ret
      exact ⟨rfl, G1.out⟩
    · go_enter Tryz.func93, Tryz.ntmps93
      go_wp2_with (go_at_call 71; refine (HI.out _).mono ?_; rintro e w1 ⟨rfl, g1⟩; have G1 := Lib.hid g1; clear g1)
      go_ret
      exact ⟨rfl, G1.out⟩
end Go.Proofs.YtbkkpcignmcjnaaGreatDoor

/- Layer 3: the shapes of statements, a map. Printed by gensh.py. -/
namespace Go.Proofs.YtbkkpcignmcjnaaGreatDoor
open Go.RowKit Go.WideMaps Go.Maps
set_option linter.unusedVariables false
set_option linter.unusedSimpArgs false
set_option linter.unnecessarySimpa false

def flA (f : Fl) : Value := .agg #[.bool f.reg, .bool f.name, .bool f.ex, .bool f.count, .bool f.thn, .bool f.els]
def flD (f : Fl) : DataW Unit := .agg [.lit (.bool f.reg), .lit (.bool f.name), .lit (.bool f.ex), .lit (.bool f.count), .lit (.bool f.thn), .lit (.bool f.els)]
def shElem : Value → Option (DataW Unit × List MemPlace)
  | .agg cs => match cs.toList with
    | [.bool a, .bool b, .bool c, .bool d, .bool e, .bool f] => some (.agg [.lit (.bool a), .lit (.bool b), .lit (.bool c), .lit (.bool d), .lit (.bool e), .lit (.bool f)], [])
    | _ => none
  | _ => none
theorem shElem_mk (f : Fl) : shElem (flA f) = some (flD f, []) := rfl
theorem shElem_inv {v : Value} {f : Fl} {ps : List MemPlace} (h : shElem v = some (flD f, ps)) : v = flA f := by
  unfold shElem at h
  split at h
  · rename_i cs
    split at h
    · rename_i a b c d e g hl
      simp only [flD, Option.some.injEq, Prod.mk.injEq, DataW.agg.injEq, List.cons.injEq, DataW.lit.injEq, Lit.bool.injEq, and_true] at h
      obtain ⟨⟨rfl, rfl, rfl, rfl, rfl, rfl⟩, _⟩ := h
      obtain ⟨l⟩ := cs
      simp only at hl
      subst hl
      rfl
    · cases h
  · cases h
theorem shKey : Keyed Tryz.prog 3 := int_keyed Tryz.underlying3
theorem key_ok (k : Int) (h : -9223372036854775808 ≤ k ∧ k < 9223372036854775808) : keyOf Tryz.prog 3 (.int .i64 k) = some (.int .i64 k) :=
  keyOf_int_mk Tryz.underlying3 (by simp [Lit.wf, IntKind.min, IntKind.max, IntKind.signed, IntKind.bits]; omega)
/-- the map after so many -/
def shD : Nat → DataW Unit
  | 0 => .map []
  | n + 1 => (shD n).put (.int .i64 (n + 1)) (flD (fields (n + 1)))
theorem shD_has_else (k : Int) (hk : ¬ (1 ≤ k ∧ k ≤ 11)) : ∀ n, n ≤ 11 → Maps.has (shD n) (.int .i64 k) = false
  | 0, _ => rfl
  | n + 1, hn => by
    show Maps.has ((shD n).put _ _) _ = false
    rw [Maps.has_put_other (by intro e; simp only [Lit.int.injEq, true_and] at e; omega)]
    exact shD_has_else k hk n (by omega)
theorem shD_at_else (k : Int) (hk : ¬ (1 ≤ k ∧ k ≤ 11)) (z : DataW Unit) : ∀ n, n ≤ 11 → (shD n).atKey (.int .i64 k) z = z
  | 0, _ => rfl
  | n + 1, hn => by
    show ((shD n).put _ _).atKey _ _ = z
    rw [Maps.atKey_put_other (by intro e; simp only [Lit.int.injEq, true_and] at e; omega)]
    exact shD_at_else k hk z n (by omega)
theorem shD_isMap : ∀ n, Maps.IsMap (shD n)
  | 0 => ⟨_, rfl⟩
  | n + 1 => by
    obtain ⟨es, e⟩ := shD_isMap n
    show Maps.IsMap ((shD n).put _ _)
    rw [e]
    exact ⟨_, rfl⟩
theorem isKey (k : Int) : WideAt.IsKeyLit (.int .i64 k) := by
  unfold WideAt.IsKeyLit; trivial
theorem shD_in (j : Nat) (hj : 1 ≤ j) (z : DataW Unit) : ∀ n, j ≤ n → n ≤ 11 → Maps.has (shD n) (.int .i64 j) = true ∧ (shD n).atKey (.int .i64 j) z = flD (fields j)
  | 0, h, _ => by omega
  | n + 1, h, hn => by
    by_cases e : j = n + 1
    · subst e
      show Maps.has ((shD n).put (.int .i64 (n + 1)) _) (.int .i64 (n + 1)) = true ∧ ((shD n).put (.int .i64 (n + 1)) (flD (fields (n + 1)))).atKey (.int .i64 (n + 1)) z = flD (fields (n + 1))
      exact ⟨Maps.has_put_same (shD_isMap n) (isKey _) _, Maps.atKey_put_same (shD_isMap n) (isKey _) _ _⟩
    · have h2 := shD_in j hj z n (by omega) (by omega)
      have hne : Lit.int .i64 (j : Int) ≠ .int .i64 ((n : Int) + 1) := by intro e2; simp only [Lit.int.injEq, true_and] at e2; omega
      show Maps.has ((shD n).put (.int .i64 (n + 1)) _) _ = true ∧ ((shD n).put (.int .i64 (n + 1)) _).atKey _ z = _
      rw [Maps.has_put_other hne, Maps.atKey_put_other hne]
      exact h2
theorem shD_all (k : Int) : Maps.has (shD 11) (.int .i64 k) = decide (1 ≤ k ∧ k ≤ 11) ∧ (shD 11).atKey (.int .i64 k) (flD ⟨false, false, false, false, false, false⟩) = flD (fields k) := by
  by_cases hk : 1 ≤ k ∧ k ≤ 11
  · obtain ⟨j, rfl⟩ : ∃ j : Nat, k = j := ⟨k.toNat, by omega⟩
    rw [decide_eq_true hk]
    exact shD_in j (by omega) _ 11 (by omega) (by omega)
  · rw [decide_eq_false hk, fields_in hk]
    exact ⟨shD_has_else k hk 11 (by omega), shD_at_else k hk _ 11 (by omega)⟩
set_option maxRecDepth 8000 in
set_option maxHeartbeats 1000000 in
theorem shapes_any (w : World) : Calls Tryz.prog 92 #[] w fun e w' => ∃ b, e = .returned (.map (some b)) ∧ w'.ownsMap Tryz.prog 3 shElem b 11 (shD 11) ∧ Keeps NoBlk w w' := by
  have hmm := @run_makeMap Tryz.prog
  go_enter Tryz.func92, Tryz.ntmps92
  go_upto_region 2 with fail
  obtain ⟨b1, hb1⟩ : ∃ z, z = w.heap.size := ⟨_, rfl⟩
  have hr1 : RowAt (w.alloc (.cells #[.bool false, .bool true, .bool false, .bool false, .bool false, .bool false] 138)) b1 [.bool false, .bool true, .bool false, .bool false, .bool false, .bool false] := by rw [hb1]; exact RowAt.ofBlock (heap_alloc_new w _)
  have hk1 : Keeps NoBlk w (w.alloc (.cells #[.bool false, .bool true, .bool false, .bool false, .bool false, .bool false] 138)) := (Keeps.refl _ _).alloc _
  rw [← hb1]
  generalize w.alloc (.cells #[.bool false, .bool true, .bool false, .bool false, .bool false, .bool false] 138) = w1 at hr1 hk1 ⊢
  have R1 := Lib.hid hr1
  have K1 := Lib.hid hk1
  have hlt : b1 < w1.heap.size := hr1.lt (by simp)
  clear hr1 hk1 hb1
  have h0 : (w1.alloc (.map #[] 0)).ownsMap Tryz.prog 3 shElem w1.heap.size 0 (shD 0) := World.ownsMap_made _ _ _ _
  have k0 : Keeps (fun q => q = w1.heap.size) w1 (w1.alloc (.map #[] 0)) := ((Keeps.refl _ _).alloc _)
  obtain ⟨W1, e1, h1, g1⟩ := h0.update shKey Tryz.underlying140 (by unfold maxLen; omega) (key_ok 1 (by omega)) (show shElem (.agg #[.bool true, .bool false, .bool true, .bool false, .bool false, .bool false]) = some (flD (fields 1), []) from rfl)
  have k1 : Keeps (fun q => q = w1.heap.size) w1 W1 := k0.grown g1 (fun k e _ => by cases e; rfl)
  clear g1
  obtain ⟨W2, e2, h2, g2⟩ := h1.update shKey Tryz.underlying140 (by unfold maxLen; omega) (key_ok 2 (by omega)) (show shElem (.agg #[.bool true, .bool true, .bool false, .bool false, .bool false, .bool false]) = some (flD (fields 2), []) from rfl)
  have k2 : Keeps (fun q => q = w1.heap.size) w1 W2 := k1.grown g2 (fun k e _ => by cases e; rfl)
  clear g2
  obtain ⟨W3, e3, h3, g3⟩ := h2.update shKey Tryz.underlying140 (by unfold maxLen; omega) (key_ok 3 (by omega)) (show shElem (.agg #[.bool false, .bool true, .bool true, .bool false, .bool false, .bool false]) = some (flD (fields 3), []) from rfl)
  have k3 : Keeps (fun q => q = w1.heap.size) w1 W3 := k2.grown g3 (fun k e _ => by cases e; rfl)
  clear g3
  obtain ⟨W4, e4, h4, g4⟩ := h3.update shKey Tryz.underlying140 (by unfold maxLen; omega) (key_ok 4 (by omega)) (show shElem (.agg #[.bool true, .bool true, .bool true, .bool false, .bool false, .bool false]) = some (flD (fields 4), []) from rfl)
  have k4 : Keeps (fun q => q = w1.heap.size) w1 W4 := k3.grown g4 (fun k e _ => by cases e; rfl)
  clear g4
  have r4 := R1.out.keeps k4 (fun e => by have e' : b1 = w1.heap.size := e; omega)
  have c40 := r4.cell (k := 0) (v := .bool false) rfl
  have c41 := r4.cell (k := 1) (v := .bool true) rfl
  have c42 := r4.cell (k := 2) (v := .bool false) rfl
  have c43 := r4.cell (k := 3) (v := .bool false) rfl
  have c44 := r4.cell (k := 4) (v := .bool false) rfl
  have c45 := r4.cell (k := 5) (v := .bool false) rfl
  clear r4
  obtain ⟨W5, e5, h5, g5⟩ := h4.update shKey Tryz.underlying140 (by unfold maxLen; omega) (key_ok 5 (by omega)) (show shElem (.agg #[.bool false, .bool true, .bool false, .bool false, .bool false, .bool false]) = some (flD (fields 5), []) from rfl)
  have k5 : Keeps (fun q => q = w1.heap.size) w1 W5 := k4.grown g5 (fun k e _ => by cases e; rfl)
  clear g5
  have r5 := R1.out.keeps k5 (fun e => by have e' : b1 = w1.heap.size := e; omega)
  have c50 := r5.cell (k := 0) (v := .bool false) rfl
  have c51 := r5.cell (k := 1) (v := .bool true) rfl
  have c52 := r5.cell (k := 2) (v := .bool false) rfl
  have c53 := r5.cell (k := 3) (v := .bool false) rfl
  have c54 := r5.cell (k := 4) (v := .bool false) rfl
  have c55 := r5.cell (k := 5) (v := .bool false) rfl
  clear r5
  obtain ⟨W6, e6, h6, g6⟩ := h5.update shKey Tryz.underlying140 (by unfold maxLen; omega) (key_ok 6 (by omega)) (show shElem (.agg #[.bool false, .bool true, .bool false, .bool false, .bool false, .bool false]) = some (flD (fields 6), []) from rfl)
  have k6 : Keeps (fun q => q = w1.heap.size) w1 W6 := k5.grown g6 (fun k e _ => by cases e; rfl)
  clear g6
  have r6 := R1.out.keeps k6 (fun e => by have e' : b1 = w1.heap.size := e; omega)
  have c60 := r6.cell (k := 0) (v := .bool false) rfl
  have c61 := r6.cell (k := 1) (v := .bool true) rfl
  have c62 := r6.cell (k := 2) (v := .bool false) rfl
  have c63 := r6.cell (k := 3) (v := .bool false) rfl
  have c64 := r6.cell (k := 4) (v := .bool false) rfl
  have c65 := r6.cell (k := 5) (v := .bool false) rfl
  clear r6
  obtain ⟨W7, e7, h7, g7⟩ := h6.update shKey Tryz.underlying140 (by unfold maxLen; omega) (key_ok 7 (by omega)) (show shElem (.agg #[.bool false, .bool true, .bool false, .bool false, .bool false, .bool false]) = some (flD (fields 7), []) from rfl)
  have k7 : Keeps (fun q => q = w1.heap.size) w1 W7 := k6.grown g7 (fun k e _ => by cases e; rfl)
  clear g7
  have r7 := R1.out.keeps k7 (fun e => by have e' : b1 = w1.heap.size := e; omega)
  have c70 := r7.cell (k := 0) (v := .bool false) rfl
  have c71 := r7.cell (k := 1) (v := .bool true) rfl
  have c72 := r7.cell (k := 2) (v := .bool false) rfl
  have c73 := r7.cell (k := 3) (v := .bool false) rfl
  have c74 := r7.cell (k := 4) (v := .bool false) rfl
  have c75 := r7.cell (k := 5) (v := .bool false) rfl
  clear r7
  obtain ⟨W8, e8, h8, g8⟩ := h7.update shKey Tryz.underlying140 (by unfold maxLen; omega) (key_ok 8 (by omega)) (show shElem (.agg #[.bool false, .bool true, .bool false, .bool false, .bool false, .bool false]) = some (flD (fields 8), []) from rfl)
  have k8 : Keeps (fun q => q = w1.heap.size) w1 W8 := k7.grown g8 (fun k e _ => by cases e; rfl)
  clear g8
  obtain ⟨W9, e9, h9, g9⟩ := h8.update shKey Tryz.underlying140 (by unfold maxLen; omega) (key_ok 9 (by omega)) (show shElem (.agg #[.bool false, .bool false, .bool true, .bool false, .bool false, .bool false]) = some (flD (fields 9), []) from rfl)
  have k9 : Keeps (fun q => q = w1.heap.size) w1 W9 := k8.grown g9 (fun k e _ => by cases e; rfl)
  clear g9
  obtain ⟨W10, e10, h10, g10⟩ := h9.update shKey Tryz.underlying140 (by unfold maxLen; omega) (key_ok 10 (by omega)) (show shElem (.agg #[.bool false, .bool false, .bool true, .bool false, .bool true, .bool true]) = some (flD (fields 10), []) from rfl)
  have k10 : Keeps (fun q => q = w1.heap.size) w1 W10 := k9.grown g10 (fun k e _ => by cases e; rfl)
  clear g10
  obtain ⟨W11, e11, h11, g11⟩ := h10.update shKey Tryz.underlying140 (by unfold maxLen; omega) (key_ok 11 (by omega)) (show shElem (.agg #[.bool false, .bool false, .bool false, .bool true, .bool true, .bool false]) = some (flD (fields 11), []) from rfl)
  have k11 : Keeps (fun q => q = w1.heap.size) w1 W11 := k10.grown g11 (fun k e _ => by cases e; rfl)
  clear g11
  have HE : Hid (W11.ownsMap Tryz.prog 3 shElem w1.heap.size 11 (shD 11)) := h11
  have KE : Hid (Keeps NoBlk w W11) := K1.out.trans (k11.mono (S := fun q => w1.heap.size ≤ q) (fun q _ e => by have e' : q = w1.heap.size := e; omega)) (fun q hq e => by have := K1.out.size; omega)
  clear h0 h1 h2 h3 h4 h5 h6 h7 h8 h9 h10 h11 k0 k1 k2 k3 k4 k5 k6 k7 k8 k9 k10 k11
  go_wp2_with fail
  go_ret
  exact ⟨_, rfl, HE.out, KE.out⟩
end Go.Proofs.YtbkkpcignmcjnaaGreatDoor
