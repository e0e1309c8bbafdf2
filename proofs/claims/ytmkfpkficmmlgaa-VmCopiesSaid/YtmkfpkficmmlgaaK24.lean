/- The document's machine: State. -/
import Derived.Test.YtmkfpkficmmlgaaK23
namespace Go.Proofs.Ytmkfpkficmmlgaa
open Go.RowKit
set_option linter.unusedVariables false
set_option linter.unusedSimpArgs false
set_option linter.unnecessarySimpa false

def RStaEnd (w : World) (x : Img) (m : Mach) (e : Ending) (w' : World) : Prop :=
  ∃ c1 c2 c3 c4, e = .returned (.agg #[c1, c2, c3, c4]) ∧ StaOut w x m c1 c2 c3 c4 w'

/-- what the operations of a round's first append leave -/
def StaH (b z gf cf n k : Nat) (v3 : Value) (st : Int) (j : Nat) (v : Value) (W : World) : Prop :=
  match j with
  | 0 => v = .pointer (some ⟨z, 2, none⟩)
  | 1 => v = v3
  | 2 => v = .pointer (some ⟨b, 0, none⟩)
  | 3 => v = .pointer (some ⟨b, 0, none⟩)
  | 4 => v = .pointer (some ⟨b, 5, none⟩)
  | 5 => v = .slice (some ⟨gf, 0, none⟩) n cf
  | 6 => v = .int .i64 k
  | 7 => v = .pointer (some ⟨gf, k * 3, none⟩)
  | 8 => v = .pointer (some ⟨gf, k * 3, none⟩)
  | 9 => v = .int .i64 st
  | 10 => ∃ g, v = .slice (some ⟨g, 0, none⟩) 1 1 ∧ RowAt W g [.int .i64 st]
  | _ => True
theorem StaH.st {b z gf cf n k : Nat} {v3 : Value} {s : Int} (j : Nat) (v : Value) (W W' : World) (h : StaH b z gf cf n k v3 s j v W) (hk : Keeps NoBlk W W') : StaH b z gf cf n k v3 s j v W' := by
  unfold StaH at *
  split at h
  case h_11 => obtain ⟨g, e, h1⟩ := h; exact ⟨g, e, h1.keeps hk (fun h => h)⟩
  all_goals first | exact h | trivial

set_option maxRecDepth 8000 in
set_option maxHeartbeats 2000000 in
theorem rstate_any (w : World) (T : Tags) (id b gf cf : Nat) (x : Img) (m : Mach) (h : RmAt w T id b gf cf x m) (hg : VGood x m) :
    Calls Try.prog 27 #[.pointer (some ⟨b, 0, none⟩)] w (RStaEnd w x m) := by
  obtain ⟨xc, xt, cv, ov, hb, hcore, hthr⟩ := h.ex
  have k3 := hb.cell (k := 3) (v := cv) rfl
  have k4 := hb.cell (k := 4) (v := ov) rfl
  have k5 := hb.cell (k := 5) (v := .slice (some ⟨gf, 0, none⟩) m.fr.length cf) rfl
  have hmc : m.cells.length ≤ 8 := by rw [hg.ok.cells]; exact (right_parts hg.right).2.1
  have hmo : m.owners.length ≤ 8 := by have := hg.ok.owners; have := (right_parts hg.right).2.2.1; omega
  obtain ⟨xs, hxs⟩ : ∃ xs, xs = m.cells := ⟨_, rfl⟩
  obtain ⟨ys, hys⟩ : ∃ ys, ys = m.owners := ⟨_, rfl⟩
  have HC0 : Hid (∀ W, Keeps NoBlk w W → SrcAt W cv xs.length (ints xs)) := fun W hk => by rw [hxs]; exact (hcore.cells.keeps hk (fun _ _ h => h)).src
  have HC1 : Hid (∀ W, Keeps NoBlk w W → SrcAt W ov ys.length (ints ys)) := fun W hk => by rw [hys]; exact (hcore.owners.keeps hk (fun _ _ h => h)).src
  rw [← hxs] at hmc
  rw [← hys] at hmo
  obtain ⟨i0, hi0, hz0, hz1, hz2⟩ := info_parts infoInt
  obtain ⟨j0, hj0, hy0, hy1, hy2⟩ := info_parts infoAct
  have HV := Lib.hid h
  have HG := Lib.hid hg
  have HX : Hid (xs = m.cells) := hxs
  have HY : Hid (ys = m.owners) := hys
  obtain ⟨n, hn⟩ : ∃ n, n = m.fr.length := ⟨_, rfl⟩
  have hn8 : n ≤ 8 := by rw [hn, HG.out.len]; exact (right_parts HG.out.right).1.2
  have HN : Hid (n = m.fr.length) := hn
  rw [← hn] at k5
  obtain ⟨ca, cn, cc, hcv⟩ : ∃ ca cn cc, cv = .slice ca cn cc := by obtain ⟨a, c, e, _⟩ := hcore.cells; exact ⟨a, _, c, e⟩
  obtain ⟨oa, on, oc, hov⟩ : ∃ ca cn cc, ov = .slice ca cn cc := by obtain ⟨a, c, e, _⟩ := hcore.owners; exact ⟨a, _, c, e⟩
  clear h hg hb hcore hthr hxs hys hn
  subst hcv hov
  go_enter Try.func27, Try.ntmps27
  go_upto_region 2 with fail
  obtain ⟨y, hy⟩ : ∃ y, y = w.heap.size := ⟨_, rfl⟩
  obtain ⟨z, hz⟩ : ∃ z, z = w.heap.size + 1 := ⟨_, rfl⟩
  have HYY : Hid (y = w.heap.size) := hy
  have HZZ : Hid (z = w.heap.size + 1) := hz
  have hRY : RowAt ((w.alloc (.cells #[.slice none 0 0, .slice none 0 0, .slice none 0 0, .slice none 0 0] 54)).alloc (.cells #[.slice none 0 0, .slice none 0 0, .slice none 0 0, .slice none 0 0] 54)) y [nilV, nilV, nilV, nilV] := by rw [hy]; exact (RowAt.ofBlock (heap_alloc_new w _)).alloc _
  have hRZ : RowAt ((w.alloc (.cells #[.slice none 0 0, .slice none 0 0, .slice none 0 0, .slice none 0 0] 54)).alloc (.cells #[.slice none 0 0, .slice none 0 0, .slice none 0 0, .slice none 0 0] 54)) z [nilV, nilV, nilV, nilV] := by rw [hz]; exact RowAt.ofBlock (heap_alloc2 w _ _)
  have hK : Keeps NoBlk w ((w.alloc (.cells #[.slice none 0 0, .slice none 0 0, .slice none 0 0, .slice none 0 0] 54)).alloc (.cells #[.slice none 0 0, .slice none 0 0, .slice none 0 0, .slice none 0 0] 54)) := ((Keeps.refl _ _).alloc _).alloc _
  have hL : ((w.alloc (.cells #[.slice none 0 0, .slice none 0 0, .slice none 0 0, .slice none 0 0] 54)).alloc (.cells #[.slice none 0 0, .slice none 0 0, .slice none 0 0, .slice none 0 0] 54)).heap.size = w.heap.size + 2 := by simp
  rw [← hz, ← hy]
  generalize (w.alloc (.cells #[.slice none 0 0, .slice none 0 0, .slice none 0 0, .slice none 0 0] 54)).alloc (.cells #[.slice none 0 0, .slice none 0 0, .slice none 0 0, .slice none 0 0] 54) = w0 at hRY hRZ hK hL ⊢
  have HRY := Lib.hid hRY
  have HRZ := Lib.hid hRZ
  have HK := Lib.hid hK
  have HL := Lib.hid hL
  have k3' := hK.cell (p := ⟨b, 3, none⟩) (fun h => h) k3
  have z0 := hRZ.cell (k := 0) (v := nilV) rfl
  clear hRY hRZ hK hy hz hL
  refine wp_region_still_tail 6 (by kernel_rfl) (by kernel_rfl) ?_
  simp only [List.take_succ_cons, List.take_zero, List.drop_succ_cons, List.drop_zero]
  change wpStill _ _ w0.drew _ _ _
  iterate 6 still_step
  refine wpStill_nil ?_
  change wpList _ _ _ _ _ w0.drew
  go_upto_region 3 with (at_builtin; refine wpList_append_src _ (by rfl) _ _ 22 (by rfl) 0 3 i0 _ 1 8 Try.underlying22 hi0 hz0 hz1 hz2 rfl (by decide) (.slice none 0 0) 0 [] (by rfl) (World.ownsRow_nil _ _ _ _) (.slice ca cn cc) xs.length (ints xs) (by rfl) (HC0.out _ HK.out.drew) (by rw [ints_len, Nat.mul_one]) (ints_one xs) (by unfold maxLen; omega) (by omega) (Nat.zero_le _) ?_; intro a1 q1 w1 hout; have HO := Lib.hid hout; have HK1 : Hid (Keeps NoBlk w0 w1) := hout.keeps ((Keeps.refl _ _).drew) (fun q e _ => by simp [Value.ownBlock] at e); have HR1 : Hid (RowAt w1 z [nilV, nilV, nilV, nilV]) := HRZ.out.keeps HK1.out (fun h => h); have zr1 := HR1.out.cell (k := 0) (v := nilV) rfl; have zf1 := HR1.out.free (k := 0) (by simp); clear hout)
  have hrA : RowAt (w1.setCell ⟨z, 0, none⟩ (.slice a1 xs.length q1)) z [.slice a1 xs.length q1, nilV, nilV, nilV] := HR1.out.set 0 (by simp) _
  have hkA : Keeps (fun q => q = z) w1 (w1.setCell ⟨z, 0, none⟩ (.slice a1 xs.length q1)) := Keeps.setCell (S := fun q => q = z) (p := ⟨z, 0, none⟩) (Keeps.refl _ _) (fun _ => rfl) _
  have hfA : FRow w1 (w.heap.size + 2) (.slice a1 xs.length q1) xs.length (ints xs) := by
    have h1 := HO.out.1
    rw [Nat.zero_add, List.nil_append] at h1
    refine FRow.of h1 (fun kb e => ?_)
    rcases HO.out.2.2 kb (by rw [Nat.zero_add]; exact e) with h2 | h2
    · simp [Value.ownBlock] at h2
    · have h3 := HL.out
      have h4 : w0.drew.heap.size = w0.heap.size := rfl
      omega
  have hfA' := hfA.keeps hkA (fun q hq e => by have e' : q = z := e; have h1 := HZZ.out; omega)
  generalize w1.setCell ⟨z, 0, none⟩ (.slice a1 xs.length q1) = wA at hrA hkA hfA' ⊢
  have HRA := Lib.hid hrA
  have HFA := Lib.hid hfA'
  have HKA : Hid (Keeps (fun q => q = z) w0 wA) := (HK1.out.mono (fun _ _ h => h.elim)).trans hkA (fun _ _ h => h)
  have HKA' : Hid (Keeps NoBlk w wA) := HK.out.trans HKA.out (fun q hq e => by have e' : q = z := e; have h1 := HZZ.out; omega)
  have k4' := HKA'.out.cell (p := ⟨b, 4, none⟩) (fun h => h) k4
  have z1 := hrA.cell (k := 1) (v := nilV) rfl
  clear hrA hkA hfA' hfA HO HK1 HR1 zr1 zf1 z0 k3' k3
  refine wp_region_still_tail 6 (by kernel_rfl) (by kernel_rfl) ?_
  simp only [List.take_succ_cons, List.take_zero, List.drop_succ_cons, List.drop_zero]
  change wpStill _ _ wA.drew _ _ _
  iterate 6 still_step
  refine wpStill_nil ?_
  change wpList _ _ _ _ _ wA.drew
  go_upto_region 4 with (at_builtin; refine wpList_append_src _ (by rfl) _ _ 22 (by rfl) 0 3 i0 _ 1 8 Try.underlying22 hi0 hz0 hz1 hz2 rfl (by decide) (.slice none 0 0) 0 [] (by rfl) (World.ownsRow_nil _ _ _ _) (.slice oa on oc) ys.length (ints ys) (by rfl) (HC1.out _ HKA'.out.drew) (by rw [ints_len, Nat.mul_one]) (ints_one ys) (by unfold maxLen; omega) (by omega) (Nat.zero_le _) ?_; intro a2 q2 w2 hout; have HO := Lib.hid hout; have HK1 : Hid (Keeps NoBlk wA w2) := hout.keeps ((Keeps.refl _ _).drew) (fun q e _ => by simp [Value.ownBlock] at e); have HR1 : Hid (RowAt w2 z [.slice a1 xs.length q1, nilV, nilV, nilV]) := HRA.out.keeps HK1.out (fun h => h); have zr1 := HR1.out.cell (k := 1) (v := nilV) rfl; have zf1 := HR1.out.free (k := 1) (by simp); clear hout)
  have hrS : RowAt (w2.setCell ⟨z, 1, none⟩ (.slice a2 ys.length q2)) z [.slice a1 xs.length q1, .slice a2 ys.length q2, nilV, nilV] := HR1.out.set 1 (by simp) _
  have hkS : Keeps (fun q => q = z) w2 (w2.setCell ⟨z, 1, none⟩ (.slice a2 ys.length q2)) := Keeps.setCell (S := fun q => q = z) (p := ⟨z, 1, none⟩) (Keeps.refl _ _) (fun _ => rfl) _
  have hzne : ∀ q, w.heap.size + 2 ≤ q → ¬ (fun q => q = z) q := fun q hq e => by have e' : q = z := e; have h1 := HZZ.out; omega
  have hf2 : FRow w2 (w.heap.size + 2) (.slice a2 ys.length q2) ys.length (ints ys) := by
    have h1 := HO.out.1
    rw [Nat.zero_add, List.nil_append] at h1
    refine FRow.of h1 (fun kb e => ?_)
    rcases HO.out.2.2 kb (by rw [Nat.zero_add]; exact e) with h2 | h2
    · simp [Value.ownBlock] at h2
    · have h3 := HL.out
      have h4 : wA.drew.heap.size = wA.heap.size := rfl
      have h5 := HKA.out.size
      omega
  have hf2' := hf2.keeps hkS hzne
  have hf1' := (HFA.out.keeps0 HK1.out).keeps hkS hzne
  generalize w2.setCell ⟨z, 1, none⟩ (.slice a2 ys.length q2) = wS at hrS hkS hf2' hf1' ⊢
  obtain ⟨c1, hc1⟩ : ∃ c, c = Value.slice a1 xs.length q1 := ⟨_, rfl⟩
  obtain ⟨c2, hc2⟩ : ∃ c, c = Value.slice a2 ys.length q2 := ⟨_, rfl⟩
  have HCE1 : Hid (c1 = Value.slice a1 xs.length q1) := hc1
  have HCE2 : Hid (c2 = Value.slice a2 ys.length q2) := hc2
  rw [← hc1] at hrS hf1'
  rw [← hc2] at hrS hf2'
  have HRW : Hid (RowAt wS z [c1, c2, nilV, nilV]) := hrS
  have HF1 := Lib.hid hf1'
  have HF2 := Lib.hid hf2'
  have HKS0 : Hid (Keeps (fun q => q = z) w0 wS) := (HKA.out.trans HK1.out (fun _ _ h => h.elim)).trans hkS (fun _ _ h => h)
  have HKS : Hid (Keeps NoBlk w wS) := HK.out.trans HKS0.out (fun q hq e => by have e' : q = z := e; have h1 := HZZ.out; omega)
  have HY0 : Hid (RowAt wS y [nilV, nilV, nilV, nilV]) := HRY.out.keeps HKS0.out (fun e => by have e' : y = z := e; have h1 := HZZ.out; have h2 := HYY.out; omega)
  obtain ⟨B2, hB2⟩ : ∃ B, B = wS.heap.size := ⟨_, rfl⟩
  have HB2 : Hid (B2 = wS.heap.size) := hB2
  clear hrS hkS hf2 hf2' hf1' hzne HO HK1 HR1 zr1 zf1 z1 k4' k4 HRA HFA HKA HKA' HRY HRZ HK HC0 HC1 hc1 hc2 hB2 HKS0
  go_wp2_with fail
  go_loopw [4] (fun kv wr => ∃ k a3 q3 a4 q4, k ≤ n ∧ kv = .int .i64 (k : Nat) ∧ Hid (StL w wS x m z B2 c1 c2 k (.slice a3 k q3) (.slice a4 k q4) wr)) (fun kv _ => n - (intOf kv).toNat)
  case atStart => exact ⟨0, none, 0, none, 0, Nat.zero_le _, rfl, ⟨HRW.out, World.ownsRow_nil _ _ _ _, World.ownsRow_nil _ _ _ _, fun kb e => by simp [Value.ownBlock] at e, fun kb e => by simp [Value.ownBlock] at e, fun kb e => by simp [Value.ownBlock] at e, Keeps.refl _ _⟩⟩
  case round =>
    obtain ⟨k, a3, q3, a4, q4, hk, rfl, hS⟩ := hrel
    have HKR : Hid (Keeps NoBlk w wr) := HKS.out.trans hS.out.keep (fun q hq e => by have h1 := HKS.out.size; have h2 := HB2.out; have h3 := HZZ.out; rcases e with e | e <;> omega)
    have k5' := HKR.out.cell (p := ⟨b, 5, none⟩) (fun h => h) k5
    by_cases hlt : k < n
    · have hkf : k < m.fr.length := by rw [← HN.out]; exact hlt
      have hf : m.fr[k]? = some m.fr[k] := List.getElem?_eq_getElem hkf
      obtain ⟨f, ef⟩ : ∃ f, f = m.fr[k] := ⟨_, rfl⟩
      rw [← ef] at hf
      clear ef
      have HF := Lib.hid hf
      have HNX := Lib.hid (stsN_next hf)
      have HA : Hid (Calls Try.prog 32 #[.pointer (some ⟨b, 0, none⟩), .int .i64 k] wr fun e w' => e = .returned (.agg #[.int .i64 (actN x m k).1, .int .i64 (actN x m k).2]) ∧ Keeps NoBlk wr w') := raction_any wr T id b gf cf k x m f (HV.out.keeps HKR.out (fun _ _ h => h)) hf HG.out
      obtain ⟨p, hp⟩ : ∃ p, p = actN x m k := ⟨_, rfl⟩
      have HP : Hid (nextC x m (k + 1) = nextC x m k ++ actC p) := by rw [hp]; exact nextC_next x m k
      rw [← hp] at HA
      have t0 : w.cell? ⟨gf, k * 3, none⟩ = some (.int .i64 f.st) := (HV.out.cells5 hf).2.1
      clear hf hkf hp
      have i1 : (0 : Int) ≤ k := by omega
      have i2 : (k : Int) < n := by omega
      have LZ : Hid (z < B2) := by have := HRW.out.lt (by simp); rw [HB2.out]; exact this
      clear hk
      go_upto_region 8 with (go_at_call 32; refine HA.out.mono ?_; rintro e W1 ⟨rfl, g1⟩; have G1 := Lib.hid g1; clear g1)
      obtain ⟨fb, hfb⟩ : ∃ z, z = W1.heap.size := ⟨_, rfl⟩
      have hrf : RowAt (W1.alloc (.cells #[.int .i64 p.1, .int .i64 p.2] 75)) fb (actC p) := by rw [hfb]; exact RowAt.ofBlock (heap_alloc_new W1 _)
      have hk8 : Keeps NoBlk wr (W1.alloc (.cells #[.int .i64 p.1, .int .i64 p.2] 75)) := G1.out.alloc _
      rw [← hfb]
      generalize W1.alloc (.cells #[.int .i64 p.1, .int .i64 p.2] 75) = W8 at hrf hk8 ⊢
      have HFB : Hid (wr.heap.size ≤ fb ∧ fb < W8.heap.size) := ⟨by have := G1.out.size; omega, hrf.lt (by simp [actC])⟩
      clear hfb
      have HRF := Lib.hid hrf
      have HK8 := Lib.hid hk8
      have HKW : Hid (Keeps NoBlk w W8) := HKR.out.trans0 hk8
      have m5 := HKW.out.cell (p := ⟨b, 5, none⟩) (fun h => h) k5
      have mt := HKW.out.cell (p := ⟨gf, k * 3, none⟩) (fun h => h) t0
      have mz := (hS.out.row.keeps hk8 (fun h => h)).cell (k := 2) (v := .slice a3 k q3) rfl
      clear hrf hk8 t0 k5'
      refine wp_region_table 11 (by kernel_rfl) (by kernel_rfl) (Keeps NoBlk) (Keeps.refl NoBlk) (fun a b c h h' => Keeps.trans0 h h') (StaH b z gf cf n k (.slice a3 k q3) f.st) StaH.st ?_ ?_
      · intro i o hi ho vs W Q' hR hd hK
        have HR : Keeps NoBlk W8 W := ((Keeps.refl NoBlk W8).drew).trans0 hR
        have m5' := HR.cell (p := ⟨b, 5, none⟩) (fun h => h) m5
        have mt' := HR.cell (p := ⟨gf, k * 3, none⟩) (fun h => h) mt
        have mz' := HR.cell (p := ⟨z, 2, none⟩) (fun h => h) mz
        rcases (show i = 0 ∨ i = 1 ∨ i = 2 ∨ i = 3 ∨ i = 4 ∨ i = 5 ∨ i = 6 ∨ i = 7 ∨ i = 8 ∨ i = 9 ∨ i = 10 by omega) with rfl | rfl | rfl | rfl | rfl | rfl | rfl | rfl | rfl | rfl | rfl
        all_goals (simp only [List.getElem?_cons_zero, List.getElem?_cons_succ, Option.some.injEq] at ho; subst ho; simp only [putsTo, List.getElem?_cons_zero, List.getElem?_cons_succ, Option.bind_some, Option.bind, Act.put, List.setIfInBounds_toArray, List.set_cons_zero, List.set_cons_succ] at hK ⊢; clear hi)
        · clear hd
          go_wp2_with fail
          exact hK _ _ (Keeps.refl _ _) rfl
        · have e0 : vs 0 = _ := hd 0 (by kernel_rfl)
          rw [e0] at hK ⊢
          clear hd
          go_wp2_with fail
          exact hK _ _ (Keeps.refl _ _) rfl
        · clear hd
          go_wp2_with fail
          exact hK _ _ (Keeps.refl _ _) rfl
        · have e2 : vs 2 = _ := hd 2 (by kernel_rfl)
          rw [e2] at hK ⊢
          clear hd
          go_wp2_with fail
          exact hK _ _ (Keeps.refl _ _) rfl
        · have e3 : vs 3 = _ := hd 3 (by kernel_rfl)
          rw [e3] at hK ⊢
          clear hd
          go_wp2_with fail
          exact hK _ _ (Keeps.refl _ _) rfl
        · have e4 : vs 4 = _ := hd 4 (by kernel_rfl)
          rw [e4] at hK ⊢
          clear hd
          go_wp2_with fail
          exact hK _ _ (Keeps.refl _ _) rfl
        · clear hd
          go_wp2_with fail
          exact hK _ _ (Keeps.refl _ _) rfl
        · have e5 : vs 5 = _ := hd 5 (by kernel_rfl)
          have e6 : vs 6 = _ := hd 6 (by kernel_rfl)
          rw [e5, e6] at hK ⊢
          clear hd
          go_wp2_with fail
          exact hK _ _ (Keeps.refl _ _) rfl
        · have e7 : vs 7 = _ := hd 7 (by kernel_rfl)
          rw [e7] at hK ⊢
          clear hd
          go_wp2_with fail
          exact hK _ _ (Keeps.refl _ _) rfl
        · have e8 : vs 8 = _ := hd 8 (by kernel_rfl)
          rw [e8] at hK ⊢
          clear hd
          go_wp2_with fail
          exact hK _ _ (Keeps.refl _ _) rfl
        · have e9 : vs 9 = _ := hd 9 (by kernel_rfl)
          rw [e9] at hK ⊢
          clear hd
          go_wp2_with fail
          exact hK _ _ ((Keeps.refl _ _).alloc _) ⟨_, rfl, RowAt.ofBlock (heap_alloc_new W _)⟩
      · intro vs W hR hF
        have HR : Keeps NoBlk W8 W := ((Keeps.refl NoBlk W8).drew).trans0 hR
        have e1 : vs 1 = _ := hF 1 (by decide)
        obtain ⟨g, e10, h5⟩ := (hF 10 (by decide) : ∃ g, vs 10 = .slice (some ⟨g, 0, none⟩) 1 1 ∧ RowAt W g [.int .i64 f.st])
        simp only [putsTo, List.getElem?_cons_zero, List.getElem?_cons_succ, Option.bind_some, Option.bind, Act.put, List.setIfInBounds_toArray, List.set_cons_zero, List.set_cons_succ, List.drop_succ_cons, List.drop_zero]
        rw [e1, e10]
        clear hF e1 e10
        generalize vs 0 = y0
        generalize vs 2 = y2
        generalize vs 3 = y3
        generalize vs 4 = y4
        generalize vs 5 = y5
        generalize vs 6 = y6
        generalize vs 7 = y7
        generalize vs 8 = y8
        generalize vs 9 = y9
        have H5 := Lib.hid h5
        have HRK := Lib.hid HR
        have hl8 : k + 1 ≤ 8 := by omega
        have HK9 : Hid (Keeps NoBlk wr W) := HK8.out.trans0 HR
        have RF9 : Hid (RowAt W fb (actC p)) := HRF.out.keeps HR (fun h => h)
        clear h5 HR hR HA m5 mt mz
        go_upto_region 9 with (at_builtin; refine wpList_append_src _ (by rfl) _ _ 22 (by rfl) 0 3 i0 _ 1 8 Try.underlying22 hi0 hz0 hz1 hz2 rfl (by decide) (.slice a3 k q3) k (ints (stsN m k)) (by rfl) (ownsRow_keeps hS.out.own3 HK9.out (fun _ _ h => h)) (.slice (some ⟨g, 0, none⟩) 1 1) 1 [.int .i64 f.st] (by rfl) (RowAt.src H5.out) rfl (by simp [Value.oneCell']) (by unfold maxLen; omega) (by omega) (Nat.zero_le _) ?_; intro a3' q3' w6 hout; have HO := Lib.hid hout; have HK6 : Hid (Keeps (fun q => (Value.slice a3 k q3).ownBlock = some q) wr w6) := hout.keeps (HK9.out.mono (fun _ _ h => h.elim)) (fun q e _ => e); have HR6 : Hid (RowAt w6 z [c1, c2, .slice a3 k q3, .slice a4 k q4]) := hS.out.row.keeps HK6.out (fun e => by have h1 := hS.out.new3 z e; have h2 := LZ.out; omega); have zr6 := HR6.out.cell (k := 2) (v := .slice a3 k q3) rfl; have zf6 := HR6.out.free (k := 2) (by simp); have RF6 : Hid (RowAt w6 fb (actC p)) := RF9.out.keeps (hout.keeps (S := fun q => (Value.slice a3 k q3).ownBlock = some q) (Keeps.refl _ W) (fun q e _ => e)) (fun e => by have h1 := ownsRow_lt hS.out.own3 e; have h2 := HFB.out; omega); clear hout)
        have hm1 : RowAt (w6.setCell ⟨z, 2, none⟩ (.slice a3' (k + 1) q3')) z [c1, c2, .slice a3' (k + 1) q3', .slice a4 k q4] := HR6.out.set 2 (by simp) _
        have hnz3 : ∀ kb, (Value.slice a3' (k + 1) q3').ownBlock = some kb → B2 ≤ kb := fun kb e => by
          rcases HO.out.2.2 kb e with h1 | h1
          · exact hS.out.new3 kb h1
          · have h2 := hS.out.keep.size; have h3 := HB2.out; have h4 := HK9.out.size; omega
        have hK7 : Keeps (fun q => q = z ∨ B2 ≤ q) wS (w6.setCell ⟨z, 2, none⟩ (.slice a3' (k + 1) q3')) := (hS.out.keep.trans HK6.out (fun q _ e => .inr (hS.out.new3 q e))).setCell (p := ⟨z, 2, none⟩) (fun _ => .inl rfl) _
        have hm2 : (w6.setCell ⟨z, 2, none⟩ (.slice a3' (k + 1) q3')).ownsRow 0 3 1 (.slice a3' (k + 1) q3') (k + 1) (ints (stsN m (k + 1))) := by
          rw [HNX.out]
          exact ownsRow_keeps HO.out.1 (Keeps.setCell (S := fun q => q = z) (p := ⟨z, 2, none⟩) (Keeps.refl _ _) (fun _ => rfl) _) (fun q e e' => by have h1 := hnz3 q e; have h2 := LZ.out; have e'' : q = z := e'; omega)
        have hm3 : (w6.setCell ⟨z, 2, none⟩ (.slice a3' (k + 1) q3')).ownsRow 0 75 2 (.slice a4 k q4) k (nextC x m k) := by
          refine ownsRow_keeps (ownsRow_keeps hS.out.own4 HK6.out (fun q e e' => hS.out.ne q e' e)) (Keeps.setCell (S := fun q => q = z) (p := ⟨z, 2, none⟩) (Keeps.refl _ _) (fun _ => rfl) _) (fun q e e' => by have h1 := hS.out.new4 q e; have h2 := LZ.out; have e'' : q = z := e'; omega)
        have hne : ∀ kb, (Value.slice a3' (k + 1) q3').ownBlock = some kb → (Value.slice a4 k q4).ownBlock ≠ some kb := fun kb e e' => by
          rcases HO.out.2.2 kb e with h1 | h1
          · exact hS.out.ne kb h1 e'
          · have h2 := ownsRow_lt hS.out.own4 e'
            have h4 := HK9.out.size
            omega
        have hrf : RowAt (w6.setCell ⟨z, 2, none⟩ (.slice a3' (k + 1) q3')) fb (actC p) := RF6.out.other (p := ⟨z, 2, none⟩) (fun e => by have e' : z = fb := e; have h1 := HFB.out; have h2 := LZ.out; have h3 := hS.out.keep.size; have h4 := HB2.out; omega) _
        generalize w6.setCell ⟨z, 2, none⟩ (.slice a3' (k + 1) q3') = w7 at hm1 hm2 hm3 hK7 hrf ⊢
        have HM1 := Lib.hid hm1
        have HM2 := Lib.hid hm2
        have HM3 := Lib.hid hm3
        have HNZ3 := Lib.hid hnz3
        have HNE := Lib.hid hne
        have HK7 := Lib.hid hK7
        have fb0 := hrf.cell (k := 0) (v := .int .i64 p.1) rfl
        have fb1 := hrf.cell (k := 1) (v := .int .i64 p.2) rfl
        have z3 := hm1.cell (k := 3) (v := .slice a4 k q4) rfl
        have zf3 := hm1.free (k := 3) (by simp)
        have lf7 : fb < w7.heap.size := hrf.lt (by simp [actC])
        have lz7 : z < w7.heap.size := hm1.lt (by simp)
        clear hm1 hm2 hm3 hnz3 hne hK7 hrf zr6 zf6 HR6 HO HK6 RF6 RF9 HNX HF HRK
        go_wp2_with (at_builtin; refine wpList_append_src _ (by rfl) _ _ 52 (by rfl) 0 75 j0 _ 2 16 Try.underlying52 hj0 hy0 hy1 hy2 rfl (by decide) (.slice a4 k q4) k (nextC x m k) (by rfl) (ownsRow_keeps HM3.out ((Keeps.refl NoBlk _).alloc _) (fun _ _ h => h)) (.slice (some ⟨w7.heap.size, 0, none⟩) 1 1) 1 (actC p) (by rfl) (RowAt.src (RowAt.ofBlock (heap_alloc_new _ _))) rfl (by simp [actC, Value.oneCell']) (by unfold maxLen; omega) (by omega) (Nat.zero_le _) ?_; intro a4' q4' w8 hout; have HO := Lib.hid hout; have HK8' : Hid (Keeps (fun q => (Value.slice a4 k q4).ownBlock = some q) w7 w8) := hout.keeps ((Keeps.refl _ _).alloc _) (fun q e _ => e); have HR8 : Hid (RowAt w8 z [c1, c2, .slice a3' (k + 1) q3', .slice a4 k q4]) := HM1.out.keeps HK8'.out (fun e => by have h1 := hS.out.new4 z e; have h2 := LZ.out; omega); have zr8 := HR8.out.cell (k := 3) (v := .slice a4 k q4) rfl; have zf8 := HR8.out.free (k := 3) (by simp); clear hout)
        refine ⟨⟨k + 1, a3', q3', a4', q4', by omega, by go_num, ?_⟩, by simp [intOf]; omega⟩
        have hB : B2 ≤ w7.heap.size := by have h1 := HK7.out.size; have h3 := HB2.out; omega
        have hn4 : ∀ kb, (Value.slice a4' (k + 1) q4').ownBlock = some kb → B2 ≤ kb := fun kb e => by
          rcases HO.out.2.2 kb e with h1 | h1
          · exact hS.out.new4 kb h1
          · simp at h1; omega
        have hzz : ∀ (v : Value) (q : Nat), (∀ kb, v.ownBlock = some kb → B2 ≤ kb) → v.ownBlock = some q → ¬ (q = z) := fun v q h e e' => by have h1 := h q e; have h2 := LZ.out; omega
        refine ⟨HR8.out.set 3 (by simp) _, ?_, ?_, HNZ3.out, hn4, fun kb e e' => ?_, (HK7.out.trans HK8'.out (fun q _ e => .inr (hS.out.new4 q e))).setCell (p := ⟨z, 3, none⟩) (fun _ => .inl rfl) _⟩
        · exact ownsRow_keeps (ownsRow_keeps HM2.out HK8'.out (fun q e e' => HNE.out q e e')) (Keeps.setCell (S := fun q => q = z) (p := ⟨z, 3, none⟩) (Keeps.refl _ _) (fun _ => rfl) _) (fun q e => hzz _ q HNZ3.out e)
        · rw [HP.out]
          exact ownsRow_keeps HO.out.1 (Keeps.setCell (S := fun q => q = z) (p := ⟨z, 3, none⟩) (Keeps.refl _ _) (fun _ => rfl) _) (fun q e => hzz _ q hn4 e)
        · rcases HO.out.2.2 kb e' with h1 | h1
          · exact HNE.out kb e h1
          · have h2 := ownsRow_lt HM2.out e
            simp at h1
            omega
    · have hkn : k = n := by omega
      subst hkn
      clear hlt
      have HK := HKR
      have hY : RowAt wr y [nilV, nilV, nilV, nilV] := HY0.out.keeps hS.out.keep (fun e => by have h1 := HY0.out.lt (by simp); have h2 := HB2.out; have h3 := HZZ.out; have h4 := HYY.out; rcases e with e | e <;> omega)
      have HY1 := Lib.hid hY
      have y0 := hY.cell (k := 0) (v := nilV) rfl
      have y1 := hY.cell (k := 1) (v := nilV) rfl
      have y2 := hY.cell (k := 2) (v := nilV) rfl
      have y3 := hY.cell (k := 3) (v := nilV) rfl
      have g0 := hY.free (k := 0) (by decide)
      have g1 := hY.free (k := 1) (by decide)
      have g2 := hY.free (k := 2) (by decide)
      have g3 := hY.free (k := 3) (by decide)
      have hz := hS.out.row
      have x0 := hz.cell (k := 0) (v := c1) rfl
      have x1 := hz.cell (k := 1) (v := c2) rfl
      have x2 := hz.cell (k := 2) (v := .slice a3 k q3) rfl
      have x3 := hz.cell (k := 3) (v := .slice a4 k q4) rfl
      have HFF1 : Hid (FRow wr (w.heap.size + 2) (.slice a1 xs.length q1) xs.length (ints xs)) := by
        rw [← HCE1.out]
        obtain ⟨ad, cap, e0, e1, e2, h1⟩ := HF1.out
        refine ⟨ad, cap, e0, e1, e2, fun hn => ?_⟩
        obtain ⟨g, h2, h3, h4⟩ := h1 hn
        exact ⟨g, h2, h3, h4.keeps hS.out.keep (fun e => by have h5 := h4.lt (fun e => hn (by simpa [ints] using e)); have h6 := HB2.out; have h7 := HZZ.out; rcases e with e | e <;> omega)⟩
      have HFF2 : Hid (FRow wr (w.heap.size + 2) (.slice a2 ys.length q2) ys.length (ints ys)) := by
        rw [← HCE2.out]
        obtain ⟨ad, cap, e0, e1, e2, h1⟩ := HF2.out
        refine ⟨ad, cap, e0, e1, e2, fun hn => ?_⟩
        obtain ⟨g, h2, h3, h4⟩ := h1 hn
        exact ⟨g, h2, h3, h4.keeps hS.out.keep (fun e => by have h5 := h4.lt (fun e => hn (by simpa [ints] using e)); have h6 := HB2.out; have h7 := HZZ.out; rcases e with e | e <;> omega)⟩
      have hB : w.heap.size + 2 ≤ B2 := by have h1 := HRW.out.lt (by simp); have h2 := HB2.out; have h3 := HZZ.out; omega
      have HFF3 : Hid (FRow wr (w.heap.size + 2) (.slice a3 k q3) k (ints (stsN m k))) := FRow.of hS.out.own3 (fun kb e => by have := hS.out.new3 kb e; omega)
      have HFF4 : Hid (FRow wr (w.heap.size + 2) (.slice a4 k q4) k (nextC x m k)) := FRow.of hS.out.own4 (fun kb e => by have := hS.out.new4 kb e; omega)
      rw [HCE1.out] at x0
      rw [HCE2.out] at x1
      clear hY hz hB HF1 HF2 hS
      go_wp2_with fail
      have hrow : RowAt ((((wr.setCell ⟨y, 0, none⟩ (.slice a1 xs.length q1)).setCell ⟨y, 1, none⟩ (.slice a2 ys.length q2)).setCell ⟨y, 2, none⟩ (.slice a3 k q3)).setCell ⟨y, 3, none⟩ (.slice a4 k q4)) y [.slice a1 xs.length q1, .slice a2 ys.length q2, .slice a3 k q3, .slice a4 k q4] := (((HY1.out.set 0 (by simp) _).set 1 (by simp) _).set 2 (by simp) _).set 3 (by simp) _
      have hks : Keeps (fun q => q = y) wr ((((wr.setCell ⟨y, 0, none⟩ (.slice a1 xs.length q1)).setCell ⟨y, 1, none⟩ (.slice a2 ys.length q2)).setCell ⟨y, 2, none⟩ (.slice a3 k q3)).setCell ⟨y, 3, none⟩ (.slice a4 k q4)) :=
        ((((Keeps.refl (fun q => q = y) wr).setCell (p := ⟨y, 0, none⟩) (fun _ => rfl) _).setCell (p := ⟨y, 1, none⟩) (fun _ => rfl) _).setCell (p := ⟨y, 2, none⟩) (fun _ => rfl) _).setCell (p := ⟨y, 3, none⟩) (fun _ => rfl) _
      generalize (((wr.setCell ⟨y, 0, none⟩ (.slice a1 xs.length q1)).setCell ⟨y, 1, none⟩ (.slice a2 ys.length q2)).setCell ⟨y, 2, none⟩ (.slice a3 k q3)).setCell ⟨y, 3, none⟩ (.slice a4 k q4) = wE at hrow hks ⊢
      have hfr : ∀ (v : Value) (n : Nat) (cs : List Value), FRow wr (w.heap.size + 2) v n cs → FRow wE w.heap.size v n cs := fun v n cs h => (h.keeps hks (fun q hq e => by have e' : q = y := e; have h1 := HYY.out; omega)).mono (by omega)
      refine bodyPost_ret (v := .agg #[.slice a1 xs.length q1, .slice a2 ys.length q2, .slice a3 k q3, .slice a4 k q4]) (by simp [results, Try.results27, go_sem, hrow.cell (k := 0) rfl, hrow.cell (k := 1) rfl, hrow.cell (k := 2) rfl, hrow.cell (k := 3) rfl]) rfl ?_
      have e1 := HX.out
      have e2 := HY.out
      have e3 := HN.out
      subst e1 e2
      rw [e3] at HFF3 HFF4 ⊢
      exact ⟨_, _, _, _, rfl, HK.out.trans hks (fun q hq e => by have e' : q = y := e; have h1 := HYY.out; omega), hfr _ _ _ HFF1.out, hfr _ _ _ HFF2.out, hfr _ _ _ HFF3.out, hfr _ _ _ HFF4.out⟩
end Go.Proofs.Ytmkfpkficmmlgaa
