/- SameInts, SameState. -/
import Derived.Test.YtmkfpkficmmlgaaK24
namespace Go.Proofs.Ytmkfpkficmmlgaa
open Go.RowKit
set_option linter.unusedVariables false
set_option linter.unusedSimpArgs false
set_option linter.unnecessarySimpa false

theorem SrcAt.ints {w : World} {v : Value} {xs : List Int} (h : SrcAt w v xs.length (ints xs)) : ∃ ad cap, v = .slice ad xs.length cap ∧ ∀ k, k < xs.length → ∃ g o, ad = some ⟨g, o, none⟩ ∧ w.cell? ⟨g, o + k, none⟩ = some (.int .i64 (xs.getD k 0)) := by
  obtain ⟨ad, cap, e, h1⟩ := h
  refine ⟨ad, cap, e, fun k hk => ?_⟩
  obtain ⟨g, o, e1, h2⟩ := h1 (by omega)
  exact ⟨g, o, e1, h2 k _ (ints_get xs k hk)⟩
theorem SrcAt.keeps0 {w w' : World} {v : Value} {n : Nat} {cs : List Value} (h : SrcAt w v n cs) (hk : Keeps NoBlk w w') : SrcAt w' v n cs := h.keeps hk (fun _ _ h => h)
theorem list_ext {xs ys : List Int} (hl : xs.length = ys.length) (h : ∀ j, j < xs.length → xs.getD j 0 = ys.getD j 0) : xs = ys := by
  apply List.ext_getElem hl
  intro j h1 h2
  have := h j h1
  simpa [List.getD, h1, h2] using this

set_option maxRecDepth 8000 in
set_option maxHeartbeats 1000000 in
theorem sameInts_any (w : World) (v1 v2 : Value) (xs ys : List Int) (h1 : SrcAt w v1 xs.length (ints xs)) (h2 : SrcAt w v2 ys.length (ints ys)) (hm : xs.length ≤ 1000) :
    Calls Try.prog 45 #[v1, v2] w fun e w' => e = .returned (.bool (decide (xs = ys))) ∧ Keeps NoBlk w w' := by
  have H1 := Lib.hid h1
  have H2 := Lib.hid h2
  obtain ⟨a1, c1, rfl, k1⟩ := h1.ints
  obtain ⟨a2, c2, rfl, k2⟩ := h2.ints
  clear h1 h2
  by_cases hl : xs.length = ys.length
  · have HL := Lib.hid hl
    rw [← hl]
    have hb : ((xs.length : Int) != xs.length) = false := by simp
    obtain ⟨n, hn⟩ : ∃ n, n = xs.length := ⟨_, rfl⟩
    have HN := Lib.hid hn
    rw [← hn] at hm ⊢
    clear k1 k2 hl hn hb
    go_enter Try.func45, Try.ntmps45
    go_wp2_with fail
    go_loopw [5] (fun i wr => ∃ k : Nat, k ≤ n ∧ i = .int .i64 k ∧ Hid (∀ j, j < k → xs.getD j 0 = ys.getD j 0) ∧ Hid (Keeps NoBlk w wr)) (fun i _ => n - (intOf i).toNat)
    case atStart => exact ⟨0, Nat.zero_le _, rfl, fun j hj => absurd hj (Nat.not_lt_zero _), Keeps.refl _ _⟩
    case round =>
      obtain ⟨k, hk, rfl, hag, hkp⟩ := hrel
      by_cases hlt : k < n
      · obtain ⟨ad, cap, e1, q1⟩ := (H1.out.keeps0 hkp.out).ints
        obtain ⟨ad', cap', e2, q2⟩ := (H2.out.keeps0 hkp.out).ints
        obtain ⟨g1, o1, e3, d1⟩ := q1 k (by rw [← HN.out]; exact hlt)
        obtain ⟨g2, o2, e4, d2⟩ := q2 k (by rw [← HL.out, ← HN.out]; exact hlt)
        cases e1
        cases e2
        subst e3 e4
        have i1 : (0 : Int) ≤ k := by omega
        have i2 : (k : Int) < n := by omega
        clear q1 q2 hk
        by_cases he : xs.getD k 0 = ys.getD k 0
        · have hb : (xs.getD k 0 != ys.getD k 0) = false := by rw [he]; simp
          have HA : Hid (∀ j, j < k + 1 → xs.getD j 0 = ys.getD j 0) := fun j hj => by
            by_cases e : j = k
            · subst e; exact he
            · exact hag.out j (by omega)
          generalize xs.getD k 0 = u1 at d1 he hb
          generalize ys.getD k 0 = u2 at d2 he hb
          clear he hag
          go_wp2_with fail
          go_region
          all_goals (
            go_wp2_with fail
            first
            | exact ⟨⟨k + 1, by omega, by go_num, HA, hkp.out.drew⟩, by simp [intOf]; omega⟩
            | trace_state)
        · have hb : (xs.getD k 0 != ys.getD k 0) = true := bne_iff_ne.2 he
          have HNE : Hid (decide (xs = ys) = false) := decide_eq_false (fun e => he (by rw [e]))
          generalize xs.getD k 0 = u1 at d1 he hb
          generalize ys.getD k 0 = u2 at d2 he hb
          clear he hag
          go_wp2_with fail
          go_region
          all_goals (
            go_wp2_with fail
            go_ret
            exact ⟨congrArg (fun b => Ending.returned (.bool b)) HNE.out.symm, hkp.out.drew⟩)
      · have hkn : k = n := by omega
        subst hkn
        clear hlt
        have HE : Hid (decide (xs = ys) = true) := decide_eq_true (list_ext HL.out (fun j hj => hag.out j (by rw [HN.out]; exact hj)))
        go_wp2_with fail
        go_ret
        exact ⟨congrArg (fun b => Ending.returned (.bool b)) HE.out.symm, hkp.out⟩
  · have hb : ((xs.length : Int) != ys.length) = true := by rw [bne_iff_ne]; omega
    have HNE : Hid (decide (xs = ys) = false) := decide_eq_false (fun e => hl (by rw [e]))
    clear k1 k2
    generalize xs.length = n1 at hb hl
    generalize ys.length = n2 at hb hl
    clear hl
    go_enter Try.func45, Try.ntmps45
    go_wp2_with fail
    go_ret
    exact ⟨congrArg (fun b => Ending.returned (.bool b)) HNE.out.symm, Keeps.refl _ _⟩

set_option maxHeartbeats 400000 in
theorem SameInts_any (w : World) (v1 v2 : Value) (xs ys : List Int) (h1 : SrcAt w v1 xs.length (ints xs)) (h2 : SrcAt w v2 ys.length (ints ys)) (hm : xs.length ≤ 1000) :
    Calls Try.prog 26 #[v1, v2] w fun e w' => e = .returned (.bool (decide (xs = ys))) ∧ Keeps NoBlk w w' := by
  have HC := Lib.hid (sameInts_any w v1 v2 xs ys h1 h2 hm)
  clear h1 h2
  go_enter Try.func26, Try.ntmps26
  go_wp2_with (go_at_call 45; refine HC.out.mono ?_; rintro e w1 ⟨rfl, g1⟩; have G1 := Lib.hid g1; clear g1)
  go_ret
  exact ⟨rfl, G1.out⟩

theorem SrcAt.acts {w : World} {v : Value} {ps : List (Int × Int)} (h : SrcAt w v ps.length (ps.flatMap actC)) : ∃ ad cap, v = .slice ad ps.length cap ∧ ∀ k p, ps[k]? = some p → ∃ g o, ad = some ⟨g, o, none⟩ ∧ w.cell? ⟨g, o + k * 2, none⟩ = some (.int .i64 p.1) ∧ w.cell? ⟨g, o + k * 2 + 1, none⟩ = some (.int .i64 p.2) := by
  obtain ⟨ad, cap, e, h1⟩ := h
  refine ⟨ad, cap, e, fun k p hk => ?_⟩
  have hlt := (List.getElem?_eq_some_iff.1 hk).1
  obtain ⟨g, o, e1, h2⟩ := h1 (by omega)
  refine ⟨g, o, e1, ?_, ?_⟩
  · exact h2 (k * 2) _ (by have := get_cells actC 2 (fun _ => rfl) ps k 0 (by decide); rw [hk] at this; simpa [actC] using this)
  · have := h2 (k * 2 + 1) (.int .i64 p.2) (by have := get_cells actC 2 (fun _ => rfl) ps k 1 (by decide); rw [hk] at this; simpa [actC] using this)
    rw [Nat.add_assoc]
    exact this

/-- a state's cells, whoever made them -/
structure StaSrc (w : World) (c1 c2 c3 c4 : Value) (xs ys ss : List Int) (ps : List (Int × Int)) : Prop where
  cells : SrcAt w c1 xs.length (ints xs)
  owners : SrcAt w c2 ys.length (ints ys)
  sts : SrcAt w c3 ss.length (ints ss)
  next : SrcAt w c4 ps.length (ps.flatMap actC)
theorem StaSrc.keeps {w w' : World} {c1 c2 c3 c4 : Value} {xs ys ss : List Int} {ps : List (Int × Int)} (h : StaSrc w c1 c2 c3 c4 xs ys ss ps) (hk : Keeps NoBlk w w') : StaSrc w' c1 c2 c3 c4 xs ys ss ps :=
  ⟨h.cells.keeps0 hk, h.owners.keeps0 hk, h.sts.keeps0 hk, h.next.keeps0 hk⟩

set_option maxRecDepth 8000 in
set_option maxHeartbeats 2000000 in
theorem sameState_any (w : World) (c1 c2 c3 c4 d1 d2 d3 d4 : Value) (xs ys ss : List Int) (ps : List (Int × Int)) (hc : StaSrc w c1 c2 c3 c4 xs ys ss ps) (hd : StaSrc w d1 d2 d3 d4 xs ys ss ps) (hx : xs.length ≤ 1000) (hy : ys.length ≤ 1000) (hs : ss.length ≤ 1000) (hp : ps.length ≤ 1000) :
    Calls Try.prog 28 #[.agg #[c1, c2, c3, c4], .agg #[d1, d2, d3, d4]] w fun e w' => e = .returned (.bool true) ∧ Keeps NoBlk w w' := by
  have HC := Lib.hid hc
  have HD := Lib.hid hd
  have H1 : Hid (∀ W, Keeps NoBlk w W → Calls Try.prog 45 #[c1, d1] W fun e w' => e = .returned (.bool true) ∧ Keeps NoBlk W w') := fun W hk => by
    have := sameInts_any W c1 d1 xs xs (hc.keeps hk).cells (hd.keeps hk).cells hx
    rwa [decide_eq_true rfl] at this
  have H2 : Hid (∀ W, Keeps NoBlk w W → Calls Try.prog 45 #[c2, d2] W fun e w' => e = .returned (.bool true) ∧ Keeps NoBlk W w') := fun W hk => by
    have := sameInts_any W c2 d2 ys ys (hc.keeps hk).owners (hd.keeps hk).owners hy
    rwa [decide_eq_true rfl] at this
  have H3 : Hid (∀ W, Keeps NoBlk w W → Calls Try.prog 45 #[c3, d3] W fun e w' => e = .returned (.bool true) ∧ Keeps NoBlk W w') := fun W hk => by
    have := sameInts_any W c3 d3 ss ss (hc.keeps hk).sts (hd.keeps hk).sts hs
    rwa [decide_eq_true rfl] at this
  obtain ⟨p4, q4, rfl, _⟩ := hc.next.acts
  obtain ⟨r4, s4, rfl, _⟩ := hd.next.acts
  obtain ⟨p1, n1, q1, rfl⟩ : ∃ a n c, c1 = .slice a n c := by obtain ⟨a, c, e, _⟩ := hc.cells; exact ⟨a, _, c, e⟩
  obtain ⟨p2, n2, q2, rfl⟩ : ∃ a n c, c2 = .slice a n c := by obtain ⟨a, c, e, _⟩ := hc.owners; exact ⟨a, _, c, e⟩
  obtain ⟨p3, n3, q3, rfl⟩ : ∃ a n c, c3 = .slice a n c := by obtain ⟨a, c, e, _⟩ := hc.sts; exact ⟨a, _, c, e⟩
  obtain ⟨r1, m1, s1, rfl⟩ : ∃ a n c, d1 = .slice a n c := by obtain ⟨a, c, e, _⟩ := hd.cells; exact ⟨a, _, c, e⟩
  obtain ⟨r2, m2, s2, rfl⟩ : ∃ a n c, d2 = .slice a n c := by obtain ⟨a, c, e, _⟩ := hd.owners; exact ⟨a, _, c, e⟩
  obtain ⟨r3, m3, s3, rfl⟩ : ∃ a n c, d3 = .slice a n c := by obtain ⟨a, c, e, _⟩ := hd.sts; exact ⟨a, _, c, e⟩
  obtain ⟨n, hn⟩ : ∃ n, n = ps.length := ⟨_, rfl⟩
  have HN := Lib.hid hn
  rw [← hn] at hp HC HD ⊢
  clear hc hd hx hy hs hn
  go_enter Try.func28, Try.ntmps28
  go_upto_region 1 with fail
  obtain ⟨ba, hba⟩ : ∃ y, y = w.heap.size := ⟨_, rfl⟩
  obtain ⟨bb, hbb⟩ : ∃ y, y = w.heap.size + 1 := ⟨_, rfl⟩
  have hra : RowAt ((w.alloc (.cells #[.slice p1 n1 q1, .slice p2 n2 q2, .slice p3 n3 q3, .slice p4 n q4] 54)).alloc (.cells #[.slice r1 m1 s1, .slice r2 m2 s2, .slice r3 m3 s3, .slice r4 n s4] 54)) ba [.slice p1 n1 q1, .slice p2 n2 q2, .slice p3 n3 q3, .slice p4 n q4] := by rw [hba]; exact (RowAt.ofBlock (heap_alloc_new w _)).alloc _
  have hrb : RowAt ((w.alloc (.cells #[.slice p1 n1 q1, .slice p2 n2 q2, .slice p3 n3 q3, .slice p4 n q4] 54)).alloc (.cells #[.slice r1 m1 s1, .slice r2 m2 s2, .slice r3 m3 s3, .slice r4 n s4] 54)) bb [.slice r1 m1 s1, .slice r2 m2 s2, .slice r3 m3 s3, .slice r4 n s4] := by rw [hbb]; exact RowAt.ofBlock (heap_alloc2 w _ _)
  have hk0 : Keeps NoBlk w ((w.alloc (.cells #[.slice p1 n1 q1, .slice p2 n2 q2, .slice p3 n3 q3, .slice p4 n q4] 54)).alloc (.cells #[.slice r1 m1 s1, .slice r2 m2 s2, .slice r3 m3 s3, .slice r4 n s4] 54)) := ((Keeps.refl _ _).alloc _).alloc _
  rw [← hbb, ← hba]
  generalize ((w.alloc (.cells #[.slice p1 n1 q1, .slice p2 n2 q2, .slice p3 n3 q3, .slice p4 n q4] 54)).alloc (.cells #[.slice r1 m1 s1, .slice r2 m2 s2, .slice r3 m3 s3, .slice r4 n s4] 54)) = w0 at hra hrb hk0 ⊢
  have HRA := Lib.hid hra
  have HRB := Lib.hid hrb
  have HK0 := Lib.hid hk0
  have x0 := hra.cell (k := 0) (v := .slice p1 n1 q1) rfl
  have y0 := hrb.cell (k := 0) (v := .slice r1 m1 s1) rfl
  clear hra hrb hk0 hba hbb
  go_upto_region 2 with (go_at_call 45; refine (H1.out _ HK0.out).mono ?_; rintro e w1 ⟨rfl, g1⟩; have K1 : Hid (Keeps NoBlk w0 w1) := g1; have x1 := (HRA.out.keeps g1 (fun h => h)).cell (k := 1) (v := .slice p2 n2 q2) rfl; have y1 := (HRB.out.keeps g1 (fun h => h)).cell (k := 1) (v := .slice r2 m2 s2) rfl; clear g1)
  go_upto_region 3 with (go_at_call 45; refine (H2.out _ (HK0.out.trans0 K1.out)).mono ?_; rintro e w2 ⟨rfl, g1⟩; have K2 : Hid (Keeps NoBlk w0 w2) := K1.out.trans0 g1; have x2 := (HRA.out.keeps K2.out (fun h => h)).cell (k := 2) (v := .slice p3 n3 q3) rfl; have y2 := (HRB.out.keeps K2.out (fun h => h)).cell (k := 2) (v := .slice r3 m3 s3) rfl; clear g1)
  go_upto_region 4 with (go_at_call 45; refine (H3.out _ (HK0.out.trans0 K2.out)).mono ?_; rintro e w3 ⟨rfl, g1⟩; have K3 : Hid (Keeps NoBlk w0 w3) := K2.out.trans0 g1; have x3 := (HRA.out.keeps K3.out (fun h => h)).cell (k := 3) (v := .slice p4 n q4) rfl; have y3 := (HRB.out.keeps K3.out (fun h => h)).cell (k := 3) (v := .slice r4 n s4) rfl; clear g1)
  clear x0 y0 x1 y1 x2 y2 H1 H2 H3
  go_wp2_with fail
  go_loopw [8] (fun i wr => ∃ k : Nat, k ≤ n ∧ i = .int .i64 k ∧ Hid (Keeps NoBlk w3 wr)) (fun i _ => n - (intOf i).toNat)
  case atStart => exact ⟨0, Nat.zero_le _, rfl, Keeps.refl _ _⟩
  case round =>
    obtain ⟨k, hk, rfl, hkp⟩ := hrel
    have KR : Hid (Keeps NoBlk w wr) := (HK0.out.trans0 K3.out).trans0 hkp.out
    have x3' := hkp.out.cell (p := ⟨ba, 3, none⟩) (fun h => h) x3
    have y3' := hkp.out.cell (p := ⟨bb, 3, none⟩) (fun h => h) y3
    by_cases hlt : k < n
    · obtain ⟨p, hp⟩ : ∃ p, ps[k]? = some p := ⟨_, List.getElem?_eq_getElem (by rw [← HN.out]; exact hlt)⟩
      have hcn := (HC.out.keeps KR.out).next
      have hdn := (HD.out.keeps KR.out).next
      rw [HN.out] at hcn hdn
      obtain ⟨ad, cap, e1, f1⟩ := hcn.acts
      obtain ⟨ad', cap', e2, f2⟩ := hdn.acts
      obtain ⟨g1, o1, e3, d1, d1'⟩ := f1 k p hp
      obtain ⟨g2, o2, e4, d2, d2'⟩ := f2 k p hp
      cases e1
      cases e2
      subst e3 e4
      have i1 : (0 : Int) ≤ k := by omega
      have i2 : (k : Int) < n := by omega
      clear f1 f2 hk hcn hdn hp
      go_wp2_with fail
      go_quiet (fail)
      go_wp2_with fail
      exact ⟨⟨k + 1, by omega, by go_num, hkp.out.drewN nq⟩, by simp [intOf]; omega⟩
    · have hkn : k = n := by omega
      subst hkn
      clear hlt
      go_wp2_with fail
      go_ret
      exact ⟨rfl, KR.out⟩
end Go.Proofs.Ytmkfpkficmmlgaa

/- asm: numberIs, operations. -/
namespace Go.Proofs.Ytmkfpkficmmlgaa
open Go.RowKit
set_option linter.unusedVariables false
set_option linter.unusedSimpArgs false
set_option linter.unnecessarySimpa false

theorem numberIs_any (w : World) (n : Int) :
    Calls Try.prog 42 #[.int .i64 n] w fun e w' => e = .returned (.bool (numN' n)) ∧ Keeps NoBlk w w' := by
  by_cases h1 : -2147483647 ≤ n
  · have b1 : decide (-2147483647 ≤ n) = true := decide_eq_true h1
    have HN : Hid (numN' n = decide (n ≤ 2147483647)) := by show _ = _; simp [numN', h1]
    clear h1
    go_enter Try.func42, Try.ntmps42
    go_wp2_with fail
    go_ret
    exact ⟨congrArg (fun b => Ending.returned (.bool b)) HN.out.symm, Keeps.refl _ _⟩
  · have b1 : decide (-2147483647 ≤ n) = false := decide_eq_false h1
    have HN : Hid (numN' n = false) := by show _ = _; simp [numN', h1]
    clear h1
    go_enter Try.func42, Try.ntmps42
    go_wp2_with fail
    go_ret
    exact ⟨congrArg (fun b => Ending.returned (.bool b)) HN.out.symm, Keeps.refl _ _⟩

/-- the operations' words and what their numbers are, as bytes -/
def opsTab : List (List UInt8 × List UInt8) :=
  [([], []),
   ([99, 111, 110, 115, 116], [82, 78]),
   ([109, 111, 118, 101], [82, 82]),
   ([110, 101, 103], [82, 82]),
   ([110, 111, 116], [82, 82]),
   ([97, 100, 100], [82, 82, 82]),
   ([115, 117, 98], [82, 82, 82]),
   ([109, 117, 108], [82, 82, 82]),
   ([100, 105, 118], [82, 82, 82]),
   ([114, 101, 109], [82, 82, 82]),
   ([101, 113], [82, 82, 82]),
   ([110, 101], [82, 82, 82]),
   ([108, 116], [82, 82, 82]),
   ([108, 101], [82, 82, 82]),
   ([103, 116], [82, 82, 82]),
   ([103, 101], [82, 82, 82]),
   ([97, 110, 100], [82, 82, 82]),
   ([111, 114], [82, 82, 82]),
   ([106, 117, 109, 112], [73]),
   ([117, 110, 108, 101, 115, 115], [82, 73]),
   ([97, 103, 97, 105, 110], [82, 73]),
   ([114, 101, 97, 100], [82, 99]),
   ([119, 114, 105, 116, 101], [99, 82]),
   ([102, 101, 116, 99, 104], [82, 99, 82]),
   ([108, 111, 99, 107], [109]),
   ([117, 110, 108, 111, 99, 107], [109]),
   ([115, 116, 97, 114, 116], [116]),
   ([106, 111, 105, 110], [116]),
   ([97, 115, 115, 101, 114, 116], [82]),
   ([101, 110, 100], [])]
def strV (l : List UInt8) : Value := .string ⟨l.toArray⟩
def tabC (p : List UInt8 × List UInt8) : List Value := [strV p.1, strV p.2]
def opsCells : List Value := opsTab.flatMap tabC
set_option maxRecDepth 20000 in
set_option maxHeartbeats 2000000 in
theorem operations_any (w : World) :
    Calls Try.prog 51 #[] w fun e w' => e = .returned (.slice (some ⟨w.heap.size, 0, none⟩) 30 30) ∧ w' = w.alloc (.cells opsCells.toArray 98) := by
  go_enter Try.func51, Try.ntmps51
  go_wp2_with fail
  go_ret
  exact ⟨rfl, rfl⟩
/-- a kind's letter -/
def codeB (k : Nat) : UInt8 := if k = 1 then 78 else if k = 2 then 82 else if k = 3 then 73 else if k = 4 then 99 else if k = 5 then 109 else 116
def ks1 (l : List UInt8) (i k : Nat) : Bool := decide (k ≤ 6) && ((decide (k = 0) && decide (l.length ≤ i)) || (decide (k ≠ 0) && decide (l[i]? = some (codeB k))))
def ksB (l : List UInt8) (kd : Nat × Nat × Nat) : Bool := decide (l.length ≤ 3) && ks1 l 0 kd.1 && ks1 l 1 kd.2.1 && ks1 l 2 kd.2.2
theorem ops_ok : ((List.range 30).all fun k => decide (k = 0) || ((opsTab[k]?).map fun p => !p.1.isEmpty && ksB p.2 (kindsN (k : Int))).getD false) = true := by kernel_rfl
theorem ops_at {k : Nat} (h1 : 1 ≤ k) (h2 : k ≤ 29) : ∃ p, opsTab[k]? = some p ∧ p.1 ≠ [] ∧ ksB p.2 (kindsN (k : Int)) = true := by
  have h := List.all_eq_true.1 ops_ok k (List.mem_range.2 (by omega))
  simp only [Bool.or_eq_true, decide_eq_true_eq] at h
  rcases h with h | h
  · omega
  · cases e : opsTab[k]? with
    | none => rw [e] at h; simp at h
    | some p =>
      rw [e] at h
      simp only [Option.map_some, Option.getD_some, Bool.and_eq_true, Bool.not_eq_true', List.isEmpty_eq_false_iff] at h
      exact ⟨p, rfl, h.1, h.2⟩
end Go.Proofs.Ytmkfpkficmmlgaa
