/- The law's shown. -/
import Derived.Test.YtmkfpkficmmlgaaK36
namespace Go.Proofs.Ytmkfpkficmmlgaa
open Go.RowKit
set_option linter.unusedVariables false
set_option linter.unusedSimpArgs false
set_option linter.unnecessarySimpa false

def noTags : Tags := fun _ => none
set_option maxRecDepth 20000 in
set_option maxHeartbeats 4000000 in
theorem shown_any (w : World) : Calls Try.prog 5 #[] w fun e w' => e = .returned (.bool true) ∧ Keeps NoBlk w w' := by
  go_enter Try.func5, Try.ntmps5
  go_upto_region 2 with fail
  have hk : Keeps NoBlk w ((((w.alloc (.cells #[.int .i64 5] 3)).alloc (.cells #[.int .i64 23, .int .i64 0, .int .i64 0, .int .i64 0, .int .i64 23, .int .i64 0, .int .i64 0, .int .i64 0, .int .i64 29, .int .i64 0, .int .i64 0, .int .i64 0] 48)).alloc (.cells #[.int .i64 1, .slice (some ⟨w.heap.size + 1, 0, none⟩) 3 3] 51)).alloc (.cells #[.slice (some ⟨w.heap.size, 0, none⟩) 1 1, .int .i64 0, .slice (some ⟨w.heap.size + 1 + 1, 0, none⟩) 1 1] 25)) := ((((Keeps.refl _ _).alloc _).alloc _).alloc _).alloc _
  have r0 : RowAt ((((w.alloc (.cells #[.int .i64 5] 3)).alloc (.cells #[.int .i64 23, .int .i64 0, .int .i64 0, .int .i64 0, .int .i64 23, .int .i64 0, .int .i64 0, .int .i64 0, .int .i64 29, .int .i64 0, .int .i64 0, .int .i64 0] 48)).alloc (.cells #[.int .i64 1, .slice (some ⟨w.heap.size + 1, 0, none⟩) 3 3] 51)).alloc (.cells #[.slice (some ⟨w.heap.size, 0, none⟩) 1 1, .int .i64 0, .slice (some ⟨w.heap.size + 1 + 1, 0, none⟩) 1 1] 25)) w.heap.size [.int .i64 5] := (((RowAt.ofBlock (heap_alloc_new w _)).alloc _).alloc _).alloc _
  have r1 : RowAt ((((w.alloc (.cells #[.int .i64 5] 3)).alloc (.cells #[.int .i64 23, .int .i64 0, .int .i64 0, .int .i64 0, .int .i64 23, .int .i64 0, .int .i64 0, .int .i64 0, .int .i64 29, .int .i64 0, .int .i64 0, .int .i64 0] 48)).alloc (.cells #[.int .i64 1, .slice (some ⟨w.heap.size + 1, 0, none⟩) 3 3] 51)).alloc (.cells #[.slice (some ⟨w.heap.size, 0, none⟩) 1 1, .int .i64 0, .slice (some ⟨w.heap.size + 1 + 1, 0, none⟩) 1 1] 25)) (w.heap.size + 1) (insCells [⟨23, 0, 0, 0⟩, ⟨23, 0, 0, 0⟩, ⟨29, 0, 0, 0⟩]) := ((RowAt.ofBlock (heap_alloc2 w _ _)).alloc _).alloc _
  have r2 : RowAt ((((w.alloc (.cells #[.int .i64 5] 3)).alloc (.cells #[.int .i64 23, .int .i64 0, .int .i64 0, .int .i64 0, .int .i64 23, .int .i64 0, .int .i64 0, .int .i64 0, .int .i64 29, .int .i64 0, .int .i64 0, .int .i64 0] 48)).alloc (.cells #[.int .i64 1, .slice (some ⟨w.heap.size + 1, 0, none⟩) 3 3] 51)).alloc (.cells #[.slice (some ⟨w.heap.size, 0, none⟩) 1 1, .int .i64 0, .slice (some ⟨w.heap.size + 1 + 1, 0, none⟩) 1 1] 25)) (w.heap.size + 1 + 1) [.int .i64 1, .slice (some ⟨w.heap.size + 1, 0, none⟩) 3 3] := (RowAt.ofBlock (by have h := heap_alloc2 (w.alloc (.cells #[.int .i64 5] 3)) (.cells #[.int .i64 23, .int .i64 0, .int .i64 0, .int .i64 0, .int .i64 23, .int .i64 0, .int .i64 0, .int .i64 0, .int .i64 29, .int .i64 0, .int .i64 0, .int .i64 0] 48) (.cells #[.int .i64 1, .slice (some ⟨w.heap.size + 1, 0, none⟩) 3 3] 51); simpa using h)).alloc _
  have r3 : RowAt ((((w.alloc (.cells #[.int .i64 5] 3)).alloc (.cells #[.int .i64 23, .int .i64 0, .int .i64 0, .int .i64 0, .int .i64 23, .int .i64 0, .int .i64 0, .int .i64 0, .int .i64 29, .int .i64 0, .int .i64 0, .int .i64 0] 48)).alloc (.cells #[.int .i64 1, .slice (some ⟨w.heap.size + 1, 0, none⟩) 3 3] 51)).alloc (.cells #[.slice (some ⟨w.heap.size, 0, none⟩) 1 1, .int .i64 0, .slice (some ⟨w.heap.size + 1 + 1, 0, none⟩) 1 1] 25)) (w.heap.size + 1 + 1 + 1) [.slice (some ⟨w.heap.size, 0, none⟩) 1 1, .int .i64 0, .slice (some ⟨w.heap.size + 1 + 1, 0, none⟩) 1 1] := RowAt.ofBlock (by have h := heap_alloc_new (((w.alloc (.cells #[.int .i64 5] 3)).alloc (.cells #[.int .i64 23, .int .i64 0, .int .i64 0, .int .i64 0, .int .i64 23, .int .i64 0, .int .i64 0, .int .i64 0, .int .i64 29, .int .i64 0, .int .i64 0, .int .i64 0] 48)).alloc (.cells #[.int .i64 1, .slice (some ⟨w.heap.size + 1, 0, none⟩) 3 3] 51)) (.cells #[.slice (some ⟨w.heap.size, 0, none⟩) 1 1, .int .i64 0, .slice (some ⟨w.heap.size + 1 + 1, 0, none⟩) 1 1] 25); simpa using h)
  generalize ((((w.alloc (.cells #[.int .i64 5] 3)).alloc (.cells #[.int .i64 23, .int .i64 0, .int .i64 0, .int .i64 0, .int .i64 23, .int .i64 0, .int .i64 0, .int .i64 0, .int .i64 29, .int .i64 0, .int .i64 0, .int .i64 0] 48)).alloc (.cells #[.int .i64 1, .slice (some ⟨w.heap.size + 1, 0, none⟩) 3 3] 51)).alloc (.cells #[.slice (some ⟨w.heap.size, 0, none⟩) 1 1, .int .i64 0, .slice (some ⟨w.heap.size + 1 + 1, 0, none⟩) 1 1] 25)) = G at hk r0 r1 r2 r3 ⊢
  generalize w.heap.size + 1 + 1 + 1 = z3 at r3 ⊢
  generalize w.heap.size + 1 + 1 = z2 at r2 r3 ⊢
  generalize w.heap.size + 1 = z1 at r1 r2 ⊢
  generalize w.heap.size = z0 at r0 r3 ⊢
  have HK := Lib.hid hk
  have HI : ImgR G (.slice (some ⟨z0, 0, none⟩) 1 1) (.slice (some ⟨z2, 0, none⟩) 1 1) shownX := by
    refine ⟨⟨_, 1, rfl, fun _ => ⟨z0, 0, rfl, r0.rng⟩⟩, _, 1, rfl, fun i hi => ?_⟩
    have hi0 : i = 0 := by have : i < 1 := hi; omega
    subst hi0
    exact ⟨z2, 0, .slice (some ⟨z1, 0, none⟩) 3 3, rfl, r2.cell (k := 0) rfl, r2.cell (k := 1) rfl, _, 3, rfl, fun _ => ⟨z1, 0, rfl, r1.rng⟩⟩
  have HNEW := Lib.hid (vnew_ok G noTags 0 _ _ shownX HI shown_right (fun k y e => by cases e) (fun k y e => by cases e))
  have x0 := r3.cell (k := 0) (v := .slice (some ⟨z0, 0, none⟩) 1 1) rfl
  have x1 := r3.cell (k := 1) (v := .int .i64 0) rfl
  have x2 := r3.cell (k := 2) (v := .slice (some ⟨z2, 0, none⟩) 1 1) rfl
  clear hk r0 r1 r2 r3 HI
  go_upto_region 5 with (go_at_call 8; refine HNEW.out.mono ?_; rintro e w1 ⟨b, gf, cf, T', rfl, hv, hx, hk⟩; have HV := Lib.hid hv; have HX := Lib.hid hx; have K1 := Lib.hid hk; clear hv hx hk)
  have hg0 := newN_good shown_right
  have HV0 : Hid (VmAt w1 T' 0 b gf cf shownX shown0) := by show VmAt _ _ _ _ _ _ _ _; rw [← shown_new]; exact HV.out
  have HG0 : Hid (VGood shownX shown0) := by show VGood _ _; rw [← shown_new]; exact hg0
  have HG1 : Hid (VGood shownX shown1) := by have h := stepR_good 0 HG0.out; rw [shown_step0] at h; exact h
  have HG2 : Hid (VGood shownX shown2) := by have h := stepR_good 0 HG1.out; rw [shown_step1] at h; exact h
  have KO : Hid (∀ (W W' : World), G.heap.size ≤ W.heap.size → Keeps (Own T' 0) W W' → Keeps (fun q => G.heap.size ≤ q) W W') := fun W W' _ h => h.mono (fun q _ hq => by
    obtain ⟨t, e, _⟩ := hq
    rcases HX.out.2 q _ e with h1 | h1
    · cases h1
    · exact h1.1)
  have ST0 : Hid (∀ W, VmAt W T' 0 b gf cf shownX shown0 → Calls Try.prog 14 #[.pointer (some ⟨b, 0, none⟩), .int .i64 0] W fun e w' => e = .returned (.tuple #[.agg #[.int .i64 0, .int .i64 3, .int .i64 0, .int .i64 5, .int .i64 0], .int .i64 0]) ∧ VmAt w' T' 0 b gf cf shownX shown1 ∧ Keeps (Own T' 0) W w') := fun W hW => by
    have h := vstep_any W T' 0 b gf cf shownX shown0 0 hW HG0.out
    rw [shown_step0] at h
    exact h
  have ST1 : Hid (∀ W, VmAt W T' 0 b gf cf shownX shown1 → Calls Try.prog 14 #[.pointer (some ⟨b, 0, none⟩), .int .i64 0] W fun e w' => e = .returned (.tuple #[.agg #[.int .i64 0, .int .i64 3, .int .i64 0, .int .i64 5, .int .i64 0], .int .i64 0]) ∧ VmAt w' T' 0 b gf cf shownX shown2 ∧ Keeps (Own T' 0) W w') := fun W hW => by
    have h := vstep_any W T' 0 b gf cf shownX shown1 0 hW HG1.out
    rw [shown_step1] at h
    exact h
  have ST2 : Hid (∀ W, VmAt W T' 0 b gf cf shownX shown2 → Calls Try.prog 14 #[.pointer (some ⟨b, 0, none⟩), .int .i64 1] W fun e w' => e = .returned (.tuple #[.agg #[.int .i64 0, .int .i64 0, .int .i64 0, .int .i64 0, .int .i64 0], .int .i64 2]) ∧ VmAt w' T' 0 b gf cf shownX shown2 ∧ Keeps (Own T' 0) W w') := fun W hW => by
    have h := vstep_any W T' 0 b gf cf shownX shown2 1 hW HG2.out
    rw [shown_step2] at h
    exact h
  have VS : Hid (∀ W, VmAt W T' 0 b gf cf shownX shown2 → Calls Try.prog 17 #[.pointer (some ⟨b, 0, none⟩)] W (StaEnd W shownX shown2)) := fun W hW => vstate_any W T' 0 b gf cf shownX shown2 hW HG2.out
  clear HNEW hg0 x0 x1 x2 HV
  go_upto_region 6 with (go_at_call 14; refine (ST0.out _ HV0.out).mono ?_; rintro e w2 ⟨rfl, hv, hk⟩; have HV1 := Lib.hid hv; have K2 := Lib.hid hk; clear hv hk)
  have L2 : Hid (Keeps (fun q => G.heap.size ≤ q) G w2) := (K1.out.mono (fun _ _ h => h.elim)).trans (KO.out _ _ K1.out.size K2.out) (fun _ _ h => h)
  generalize hWA : w2.alloc (.cells #[.int .i64 0, .int .i64 3, .int .i64 0, .int .i64 5, .int .i64 0] 40) = wA
  have KA : Hid (Keeps NoBlk w2 wA) := by rw [← hWA]; exact (Keeps.refl _ _).alloc _
  have K2S : Hid (w1.heap.size ≤ w2.heap.size) := K2.out.size
  clear hWA K2
  go_upto_region 7 with (go_at_call 14; refine (ST1.out _ (HV1.out.keeps KA.out (fun _ _ h => h))).mono ?_; rintro e w3 ⟨rfl, hv, hk⟩; have HV2 := Lib.hid hv; have K3 := Lib.hid hk; clear hv hk)
  obtain ⟨y6, hy6⟩ : ∃ z, z = w3.heap.size := ⟨_, rfl⟩
  have L3 : Hid (Keeps (fun q => G.heap.size ≤ q) G w3) := (L2.out.trans (KA.out.mono (S := fun q => G.heap.size ≤ q) (fun _ _ h => h.elim)) (fun _ _ h => h)).trans (KO.out _ _ (Nat.le_trans L2.out.size KA.out.size) K3.out) (fun _ _ h => h)
  have HTB : Hid (∀ q, Own T' 0 q → q < w1.heap.size) := fun q hq => by obtain ⟨t, e, _⟩ := hq; exact HV0.out.ok q _ e
  have h16 : w1.heap.size ≤ w3.heap.size := by have h1 := K3.out.size; have h2 := KA.out.size; have h3 := HV1.out.ok; have h4 := K2S.out; omega
  have HY6 : Hid (w1.heap.size ≤ y6) := by show _ ≤ _; rw [hy6]; exact h16
  have hr6 : RowAt (w3.alloc (.cells #[.int .i64 0, .int .i64 3, .int .i64 0, .int .i64 5, .int .i64 0] 40)) y6 [.int .i64 0, .int .i64 3, .int .i64 0, .int .i64 5, .int .i64 0] := by rw [hy6]; exact RowAt.ofBlock (heap_alloc_new w3 _)
  have hkB : Keeps NoBlk w3 (w3.alloc (.cells #[.int .i64 0, .int .i64 3, .int .i64 0, .int .i64 5, .int .i64 0] 40)) := (Keeps.refl _ _).alloc _
  rw [← hy6]
  generalize w3.alloc (.cells #[.int .i64 0, .int .i64 3, .int .i64 0, .int .i64 5, .int .i64 0] 40) = wB at hr6 hkB ⊢
  have R6 := Lib.hid hr6
  have KB := Lib.hid hkB
  clear hr6 hkB hy6 h16
  go_upto_region 8 with (go_at_call 17; refine (VS.out _ (HV2.out.keeps KB.out (fun _ _ h => h))).mono ?_; rintro e w4 ⟨t1, t2, d3, d4, rfl, hs⟩; have S4 := Lib.hid hs; obtain ⟨t3, u3, e3⟩ := hs.sts.form; obtain ⟨t4, u4, e4⟩ := hs.next.form; subst e3 e4; clear hs)
  obtain ⟨y8, hy8⟩ : ∃ z, z = w4.heap.size := ⟨_, rfl⟩
  have hc4 : ∃ g, t1 = some ⟨g, 0, none⟩ ∧ wB.heap.size ≤ g ∧ w4.cell? ⟨g, 0, none⟩ = some (.int .i64 10) := by
    obtain ⟨ad, cap, e, _, _, h1⟩ := S4.out.cells
    cases e
    obtain ⟨g, e, h2, h3⟩ := h1 (by decide)
    exact ⟨g, e, h2, h3.cell (k := 0) rfl⟩
  obtain ⟨g8, rfl, hg8, hc8⟩ := hc4
  have hr8 : RowAt (w4.alloc (.cells #[.slice (some ⟨g8, 0, none⟩) 1 1, .slice t2 0 0, .slice t3 1 u3, .slice t4 1 u4] 54)) y8 [.slice (some ⟨g8, 0, none⟩) 1 1, .slice t2 0 0, .slice t3 1 u3, .slice t4 1 u4] := by rw [hy8]; exact RowAt.ofBlock (heap_alloc_new w4 _)
  have hk8 : Keeps NoBlk w4 (w4.alloc (.cells #[.slice (some ⟨g8, 0, none⟩) 1 1, .slice t2 0 0, .slice t3 1 u3, .slice t4 1 u4] 54)) := (Keeps.refl _ _).alloc _
  change Code.wp _ _ _ _ (w4.alloc (.cells #[.slice (some ⟨g8, 0, none⟩) 1 1, .slice t2 0 0, .slice t3 1 u3, .slice t4 1 u4] 54))
  rw [← hy8]
  generalize w4.alloc (.cells #[.slice (some ⟨g8, 0, none⟩) 1 1, .slice t2 0 0, .slice t3 1 u3, .slice t4 1 u4] 54) = wC at hr8 hk8 ⊢
  have KC : Hid (Keeps NoBlk wB wC) := S4.out.keeps.trans0 hk8
  have hbB : w1.heap.size ≤ wB.heap.size := by have h1 := HY6.out; have h2 := R6.out.lt (by simp); omega
  have R6C := Lib.hid (R6.out.keeps KC.out (fun h => h))
  have R8 := Lib.hid hr8
  have HC8 : Hid (wC.cell? ⟨g8, 0, none⟩ = some (.int .i64 10)) := hk8.cell (p := ⟨g8, 0, none⟩) (fun h => h) hc8
  have HN8 : Hid (w1.heap.size ≤ y8 ∧ w1.heap.size ≤ g8) := ⟨by have h1 := S4.out.keeps.size; omega, by omega⟩
  clear hr8 hk8 hy8 hg8 hc8 hbB S4 R6
  go_upto_region 9 with (go_at_call 14; refine (ST2.out _ ((HV2.out.keeps KB.out (fun _ _ h => h)).keeps KC.out (fun _ _ h => h))).mono ?_; rintro e w5 ⟨rfl, _, hk⟩; have K5 := Lib.hid hk; clear hk)
  have hn : ∀ q, w1.heap.size ≤ q → ¬ Own T' 0 q := fun q hq ho => by have := HTB.out q ho; omega
  have k5 : Keeps (Own T' 0) wC (w5.alloc (.cells #[.int .i64 0, .int .i64 0, .int .i64 0, .int .i64 0, .int .i64 0] 40)) := K5.out.alloc _
  have hfin : Keeps NoBlk w (w5.alloc (.cells #[.int .i64 0, .int .i64 0, .int .i64 0, .int .i64 0, .int .i64 0] 40)) := by
    refine HK.out.trans (S' := fun q => G.heap.size ≤ q) ?_ (fun q hq e => by have h1 := HK.out.size; have e' : G.heap.size ≤ q := e; omega)
    refine ((L3.out.trans ((KB.out.trans0 KC.out).mono (S := fun q => G.heap.size ≤ q) (fun _ _ h => h.elim)) (fun _ _ h => h)).trans (KO.out _ _ (Nat.le_trans L3.out.size (KB.out.trans0 KC.out).size) K5.out) (fun _ _ h => h)).alloc _
  change Code.wp _ _ _ _ (w5.alloc (.cells #[.int .i64 0, .int .i64 0, .int .i64 0, .int .i64 0, .int .i64 0] 40))
  generalize w5.alloc (.cells #[.int .i64 0, .int .i64 0, .int .i64 0, .int .i64 0, .int .i64 0] 40) = wD at k5 hfin ⊢
  have HF := Lib.hid hfin
  have r6 := R6C.out.keeps k5 (hn y6 HY6.out)
  have e0 := r6.cell (k := 0) (v := .int .i64 0) rfl
  have e1 := r6.cell (k := 1) (v := .int .i64 3) rfl
  have e2 := r6.cell (k := 2) (v := .int .i64 0) rfl
  have e3 := r6.cell (k := 3) (v := .int .i64 5) rfl
  have e4 := r6.cell (k := 4) (v := .int .i64 0) rfl
  have f0 := (R8.out.keeps k5 (hn y8 HN8.out.1)).cell (k := 0) (v := .slice (some ⟨g8, 0, none⟩) 1 1) rfl
  have f1 := k5.cell (p := ⟨g8, 0, none⟩) (hn g8 HN8.out.2) HC8.out
  clear hn k5 hfin r6
  go_wp2_with fail
  go_ret
  exact ⟨rfl, HF.out⟩
end Go.Proofs.Ytmkfpkficmmlgaa

/- The law's copied: what its loop holds; an image of its owner's. -/
namespace Go.Proofs.Ytmkfpkficmmlgaa
open Go.RowKit
set_option linter.unusedVariables false
set_option linter.unusedSimpArgs false
set_option linter.unnecessarySimpa false

def thrCells (cs : List Cod) (us : List Value) : List Value := (cs.zip us).flatMap fun p => [.int .i64 p.1.regs, p.2]
/-- an owned row of instructions -/
def OIns (w : World) (T : Tags) (id j : Nat) (u : Value) (l : List Ins) : Prop :=
  ∃ ad cap, u = .slice ad l.length cap ∧ (l.length ≠ 0 → ∃ g, ad = some ⟨g, 0, none⟩ ∧ T g = some (id, .regs j) ∧ RowAt w g (insCells l))
theorem OIns.keeps {S : Nat → Prop} {w w' : World} {T : Tags} {id j : Nat} {u : Value} {l : List Ins} (h : OIns w T id j u l) (hk : Keeps S w w') (hS : ∀ k, T k = some (id, .regs j) → ¬ S k) : OIns w' T id j u l := by
  obtain ⟨ad, cap, e, h1⟩ := h
  refine ⟨ad, cap, e, fun hn => ?_⟩
  obtain ⟨g, e1, e2, e3⟩ := h1 hn
  exact ⟨g, e1, e2, e3.keeps hk (hS g e2)⟩
theorem OIns.ext {w : World} {T T' : Tags} {id j : Nat} {u : Value} {l : List Ins} (h : OIns w T id j u l) (hT : Ext T T') : OIns w T' id j u l := by
  obtain ⟨ad, cap, e, h1⟩ := h
  refine ⟨ad, cap, e, fun hn => ?_⟩
  obtain ⟨g, e1, e2, e3⟩ := h1 hn
  exact ⟨g, e1, hT _ _ e2, e3⟩
structure CpI (w wr : World) (T T' : Tags) (id y : Nat) (x : Img) (c : Value) (k : Nat) (us : List Value) (tv : Value) : Prop where
  ext : ExtI T T' id w
  tok : TOk T' wr
  yfree : T' y = none
  row : RowAt wr y [c, .int .i64 x.mutexes, tv]
  cells : IRow wr T' id .cells c x.cells
  town : wr.ownsRow 0 51 2 tv k (thrCells (x.threads.take k) us)
  ttag : ∀ kb, tv.ownBlock = some kb → T' kb = some (id, .frames)
  tnew : ∀ kb, tv.ownBlock = some kb → w.heap.size ≤ kb
  ulen : us.length = k
  ins : ∀ j u, us[j]? = some u → OIns wr T' id j u (x.cod j).ins
  keep : Keeps (fun q => q = y) w wr
section
variable {w wr : World} {T T' : Tags} {id y : Nat} {x : Img} {c : Value} {k : Nat} {us : List Value} {tv : Value}
theorem CpI.keeps (h : CpI w wr T T' id y x c k us tv) {S : Nat → Prop} {W : World} (hk : Keeps S wr W) (hS : ∀ q, S q → T' q = none ∧ q ≠ y ∧ w.heap.size ≤ q) : CpI w W T T' id y x c k us tv := by
  have hn : ∀ q z, T' q = some z → ¬ S q := fun q z e e' => by rw [(hS q e').1] at e; cases e
  refine ⟨h.ext, h.tok.keeps hk, h.yfree, h.row.keeps hk (fun e => (hS y e).2.1 rfl), h.cells.keeps hk (fun q e => hn q _ e), ownsRow_keeps h.town hk (fun q e => hn q _ (h.ttag q e)), h.ttag, h.tnew, h.ulen, fun j u e => (h.ins j u e).keeps hk (fun q e => hn q _ e), h.keep.trans hk (fun q hq e => ?_)⟩
  have := (hS q e).2.2
  omega
theorem CpI.step (h : CpI w wr T T' id y x c k us tv) (hkx : k < x.threads.length) {S : Nat → Prop} {W w2 : World} {u : Value} {ad : Option Addr} {cap : Nat} (hk : Keeps S wr W) (hS : ∀ q, S q → T' q = none ∧ q ≠ y ∧ w.heap.size ≤ q)
    (hu : FRow W wr.heap.size u (x.cod k).ins.length (insCells (x.cod k).ins)) (hub : ∀ kb, u.ownBlock = some kb → wr.heap.size ≤ kb ∧ kb < W.heap.size)
    (hout : AppOut W 0 51 2 tv (k + 1) (thrCells (x.threads.take k) us ++ [.int .i64 (x.cod k).regs, u]) ad cap w2) :
    ∃ T2, CpI w (w2.setCell ⟨y, 2, none⟩ (.slice ad (k + 1) cap)) T T2 id y x c (k + 1) (us ++ [u]) (.slice ad (k + 1) cap) := by
  have hW := h.keeps hk hS
  have hyl : y < wr.heap.size := h.row.lt (by simp)
  have hws : w.heap.size ≤ wr.heap.size := h.keep.size
  have hnt : NewTag T' id (.regs k) u wr.heap.size := fun kb e => .inr ⟨h.tok.free (hub kb e).1, (hub kb e).1⟩
  have hx1 := tagV_ext (w := wr) hnt
  obtain ⟨T1, hT1⟩ : ∃ T1, T1 = tagV T' id (.regs k) u := ⟨_, rfl⟩
  rw [← hT1] at hx1
  have hut : ∀ kb, u.ownBlock = some kb → T1 kb = some (id, .regs k) := fun kb e => by rw [hT1]; exact tagV_own e
  have hok1 : TOk T1 W := by rw [hT1]; exact tagV_ok hW.tok (fun kb e => (hub kb e).2)
  have hy1 : T1 y = none := by
    rw [hT1]
    unfold tagV
    rw [if_neg (fun e => by have := (hub y e).1; omega)]
    exact h.yfree
  have hnt2 : NewTag T1 id .frames (.slice ad (k + 1) cap) W.heap.size := fun kb e => by
    rcases hout.2.2 kb e with h1 | h1
    · exact .inl (hx1.1 _ _ (h.ttag kb h1))
    · rw [h1]; exact .inr ⟨hok1.free (Nat.le_refl _), Nat.le_refl _⟩
  have hx2 := tagV_ext (w := W) hnt2
  obtain ⟨T2, hT2⟩ : ∃ T2, T2 = tagV T1 id .frames (.slice ad (k + 1) cap) := ⟨_, rfl⟩
  rw [← hT2] at hx2
  have hft : ∀ kb, (Value.slice ad (k + 1) cap).ownBlock = some kb → T2 kb = some (id, .frames) := fun kb e => by rw [hT2]; exact tagV_own e
  have hy2 : T2 y = none := by
    rw [hT2]
    unfold tagV
    rw [if_neg]
    · exact hy1
    · intro e
      rcases hout.2.2 y e with h3 | h3
      · have := h.ttag y h3; rw [h.yfree] at this; cases this
      · have := hk.size; omega
  have k2 : Keeps (fun q => tv.ownBlock = some q) W w2 := hout.keeps (Keeps.refl _ _) (fun q e _ => e)
  have k3 : Keeps (fun q => tv.ownBlock = some q ∨ q = y) W (w2.setCell ⟨y, 2, none⟩ (.slice ad (k + 1) cap)) := (k2.mono (fun _ _ e => .inl e)).setCell (p := ⟨y, 2, none⟩) (fun _ => .inr rfl) _
  have hok2 : TOk T2 w2 := by rw [hT2]; exact tagV_ok (hok1.keeps k2) (fun kb e => ownsRow_lt hout.1 e)
  have hx := hx1.1.trans hx2.1
  have hS1 : ∀ q z, T1 q = some z → z.2 ≠ .frames → ¬ (tv.ownBlock = some q ∨ q = y) := fun q z e hz e' => by
    rcases e' with e' | e'
    · rw [hx1.1 _ _ (h.ttag q e')] at e; cases e; exact hz rfl
    · rw [e', hy1] at e; cases e
  refine ⟨T2, h.ext.trans ((hx1.later hws).trans (hx2.later hW.keep.size)), hok2.keeps (Keeps.setCell (S := fun q => q = y) (p := ⟨y, 2, none⟩) (Keeps.refl _ _) (fun _ => rfl) _), hy2, ?_, ?_, ?_, hft, ?_, by simp [h.ulen], ?_, ?_⟩
  · exact (hW.row.keeps k2 (fun e => by have := h.ttag y e; rw [h.yfree] at this; cases this)).set 2 (by simp) _
  · exact ((hW.cells.ext hx1.1).keeps k3 (fun q e => hS1 q _ e (by simp))).ext hx2.1
  · have e : thrCells (x.threads.take (k + 1)) (us ++ [u]) = thrCells (x.threads.take k) us ++ [.int .i64 (x.cod k).regs, u] := by
      have e1 : x.threads.take (k + 1) = x.threads.take k ++ [x.cod k] := by
        rw [List.take_add_one]
        simp [Img.cod, List.getD, hkx]
      unfold thrCells
      rw [e1, List.zip_append (by simp [h.ulen]; omega)]
      simp
    rw [e]
    refine ownsRow_keeps hout.1 (Keeps.setCell (S := fun q => q = y) (p := ⟨y, 2, none⟩) (Keeps.refl _ _) (fun _ => rfl) _) (fun q e e' => ?_)
    have e2 : q = y := e'
    have := hft q e
    rw [e2, hy2] at this
    cases this
  · intro kb e
    rcases hout.2.2 kb e with h3 | h3
    · exact h.tnew kb h3
    · rw [h3]; exact hW.keep.size
  · intro j u' e
    by_cases ej : j < k
    · rw [List.getElem?_append_left (by rw [h.ulen]; exact ej)] at e
      exact (((hW.ins j u' e).ext hx1.1).keeps k3 (fun q e => hS1 q _ e (by simp))).ext hx2.1
    · rw [List.getElem?_append_right (by rw [h.ulen]; omega)] at e
      have hj : j = k := by
        have := (List.getElem?_eq_some_iff.1 e).1
        simp [h.ulen] at this
        omega
      subst hj
      rw [h.ulen, Nat.sub_self] at e
      simp at e
      subst e
      obtain ⟨uad, uc, rfl, _, _, h2⟩ := (show FRow _ _ _ _ _ from hu)
      refine ⟨uad, uc, rfl, fun hn => ?_⟩
      obtain ⟨g, rfl, hg1, hg2⟩ := h2 hn
      exact ⟨g, rfl, hx2.1 _ _ (hut g rfl), hg2.keeps k3 (hS1 g _ (hut g rfl) (by simp))⟩
  · refine hW.keep.trans k3 (fun q hq e => ?_)
    rcases e with e | e
    · have := h.tnew q e; omega
    · exact e
end
/-- an image in memory of its owner's, who may write over it -/
structure OwnImg (w : World) (T : Tags) (id : Nat) (c tv : Value) (x : Img) : Prop where
  tok : TOk T w
  cells : IRow w T id .cells c x.cells
  thr : ∃ us : List Value, us.length = x.threads.length ∧ FRow w 0 tv x.threads.length (thrCells x.threads us) ∧ (∀ kb, tv.ownBlock = some kb → T kb = some (id, .frames)) ∧ ∀ j u, us[j]? = some u → OIns w T id j u (x.cod j).ins
theorem thr_len (cs : List Cod) (us : List Value) (h : us.length = cs.length) : (thrCells cs us).length = cs.length * 2 := by
  unfold thrCells
  rw [length_cells _ 2 (fun _ => rfl)]
  simp [h]
theorem thr_get (cs : List Cod) (us : List Value) (i : Nat) (c : Cod) (u : Value) (hc : cs[i]? = some c) (hu : us[i]? = some u) : (thrCells cs us)[i * 2]? = some (.int .i64 c.regs) ∧ (thrCells cs us)[i * 2 + 1]? = some u := by
  unfold thrCells
  have hz : (cs.zip us)[i]? = some (c, u) := by rw [List.getElem?_zip_eq_some]; exact ⟨hc, hu⟩
  have h0 := get_cells (fun p : Cod × Value => [Value.int .i64 p.1.regs, p.2]) 2 (fun _ => rfl) (cs.zip us) i 0 (by decide)
  have h1 := get_cells (fun p : Cod × Value => [Value.int .i64 p.1.regs, p.2]) 2 (fun _ => rfl) (cs.zip us) i 1 (by decide)
  rw [hz] at h0 h1
  exact ⟨h0, h1⟩
theorem OwnImg.read {w : World} {T : Tags} {id : Nat} {c tv : Value} {x : Img} (h : OwnImg w T id c tv x) : ImgR w c tv x := by
  refine ⟨h.cells.src, ?_⟩
  obtain ⟨us, hl, hf, _, hi⟩ := h.thr
  obtain ⟨ad, cap, e, _, _, h1⟩ := hf
  refine ⟨ad, cap, e, fun i hi' => ?_⟩
  obtain ⟨g, e1, _, hr⟩ := h1 (by omega)
  have hu : us[i]? = some us[i] := List.getElem?_eq_getElem (by omega)
  have hc : x.threads[i]? = some x.threads[i] := List.getElem?_eq_getElem hi'
  obtain ⟨c0, c1⟩ := thr_get x.threads us i _ _ hc hu
  have eg : x.threads.getD i ⟨0, []⟩ = x.threads[i] := by simp [List.getD, hi']
  refine ⟨g, 0, us[i], e1, ?_, ?_, ?_⟩
  · rw [Nat.zero_add, eg]; exact hr.cell c0
  · rw [Nat.zero_add]; exact hr.cell c1
  · obtain ⟨ad', cap', e', h2⟩ := hi i _ hu
    refine ⟨ad', cap', e', fun hn => ?_⟩
    obtain ⟨g', e2, _, hr'⟩ := h2 hn
    exact ⟨g', 0, e2, hr'.rng⟩
theorem CpI.done {w wr : World} {T T' : Tags} {id y : Nat} {x : Img} {c : Value} {us : List Value} {tv : Value} (h : CpI w wr T T' id y x c x.threads.length us tv) : OwnImg wr T' id c tv x := by
  refine ⟨h.tok, h.cells, us, h.ulen, ?_, h.ttag, h.ins⟩
  have := h.town
  rw [List.take_length] at this
  exact FRow.of this (fun _ _ => Nat.zero_le _)
theorem OwnImg.keeps0 {w w' : World} {T : Tags} {id : Nat} {c tv : Value} {x : Img} (h : OwnImg w T id c tv x) (hk : Keeps NoBlk w w') : OwnImg w' T id c tv x := by
  obtain ⟨us, hl, hf, ht, hi⟩ := h.thr
  exact ⟨h.tok.keeps hk, h.cells.keeps hk (fun _ _ h => h), us, hl, hf.keeps0 hk, ht, fun j u e => (hi j u e).keeps hk (fun _ _ h => h)⟩
theorem OwnImg.ext {w : World} {T T' : Tags} {id : Nat} {c tv : Value} {x : Img} (h : OwnImg w T id c tv x) (hT : Ext T T') (hok : TOk T' w) : OwnImg w T' id c tv x := by
  obtain ⟨us, hl, hf, ht, hi⟩ := h.thr
  exact ⟨hok, h.cells.ext hT, us, hl, hf, fun kb e => hT _ _ (ht kb e), fun j u e => (hi j u e).ext hT⟩
end Go.Proofs.Ytmkfpkficmmlgaa
