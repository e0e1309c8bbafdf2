/- The walk of StackLeft. -/
import Derived.Test.YtjfbiganijldfaaDoorLeftLaw
namespace Go.Proofs.YtjfbiganijldfaaDoor
open Go.RowKit
set_option linter.unusedVariables false
set_option linter.unusedSimpArgs false
set_option linter.unnecessarySimpa false

theorem TabOK.below' {w0 w : World} (h : TabOK w0) (hb : Below w0.heap.size w0 w) : TabOK w := fun j hj =>
  (hb.cell (p := ⟨1, j, none⟩) (World.block_lt_of_cell? w0 _ (h j hj))).trans (h j hj)

def LeftRel (w0 : World) (bs : Nat) (w : World) : Prop := ∃ v L, OnceInv w0.heap.size w bs v (.slice none 0 0) L [] ∧ Below w0.heap.size w0 w

set_option maxHeartbeats 2000000 in
theorem left_walk (w0 : World) (sv : Value) (n : Nat) (ss : Nat → Stp) (hs : ScriptAt w0 sv n ss) (hT : TabOK w0) :
    Calls Tryd.prog 4 #[sv] w0 fun e w' => e = .returned (.bool true) ∧ Below w0.heap.size w0 w' := by
  obtain ⟨ad, cap, rfl, hnm, hcell⟩ := hs
  unfold maxLen at hnm
  have HT := Lib.hid hT
  have HA := Lib.hid (awake_any w0 hT)
  have HC := Lib.hid hcell
  clear hT hcell
  go_enter Tryd.func4, Tryd.ntmps4
  go_wp2_with (first | (go_at_call 6; refine HA.out.mono ?_; rintro e w1 ⟨rfl, h1⟩; have H1 := Lib.hid h1; clear h1) | (go_at_call 7; refine (stkNew_any _).mono ?_; rintro e w2 ⟨rfl, hw2⟩; have H2 := Lib.hid hw2; clear hw2))
  have HR : Hid (LeftRel w0 w1.heap.size w2) := by
    have h1 := H1.out
    have hk2 : Keeps NoBlk w1 w2 := by rw [H2.out]; exact (Keeps.refl _ _).alloc _
    have hst : StackAt w2 w1.heap.size (.slice none 0 0) [] := by rw [H2.out]; exact StackAt.fresh w1
    have hb := (h1.trans hk2 (fun _ _ h => h)).below (B := w0.heap.size) (fun _ _ h => h.elim) (Nat.le_refl _)
    refine ⟨_, [], ⟨hst, tidy_nil, ⟨World.ownsRow_nil _ _ _ _, fun k e => by simp [Value.ownBlock] at e, fun p hp => by simp at hp⟩, hb.size, ?_, fun k e => by simp [Value.ownBlock] at e⟩, hb⟩
    rintro k (rfl | e)
    · exact h1.size
    · simp [Value.ownBlock] at e
  clear H1 H2 HA
  generalize w1.heap.size = bs at *
  go_loopw [5] (fun i wr => ∃ k : Nat, k ≤ n ∧ i = .int .i64 k ∧ Hid (LeftRel w0 bs wr)) (fun i _ => n - (intOf i).toNat)
  case atStart => exact ⟨0, Nat.zero_le _, rfl, HR⟩
  case round =>
    obtain ⟨k, hk, rfl, hR⟩ := hrel
    clear HR
    obtain ⟨v, L, hI, hB⟩ := hR.out
    have hBH := Lib.hid hB
    by_cases hlt : k < n
    · obtain ⟨hok, g, o, e, k0, k1, k2, k3⟩ := HC.out k hlt
      subst e
      have HD0 := fun w3 (h3 : OnceInv w0.heap.size w3 bs v (.slice none 0 0) L []) (hb3 : Below w0.heap.size w0 w3) => do_any w3 bs v L (ss k).d (ss k).i (ss k).a (ss k).b h3.stk h3.tidy.ok (HT.out.below' hb3) hok.1 hok.2
      have ht0 := left_do hI.tidy (ss k).d (ss k).i (ss k).a (ss k).b
      obtain ⟨⟨d, i, a, b⟩, hx⟩ : ∃ x : Stp, x = ss k := ⟨_, rfl⟩
      rw [← hx] at k0 k1 k2 k3 HD0 ht0
      dsimp only at k0 k1 k2 k3 HD0 ht0
      obtain ⟨r, er⟩ : ∃ r, r = (doN L d i a b).1 := ⟨_, rfl⟩
      obtain ⟨L', eL⟩ : ∃ L', L' = (doN L d i a b).2 := ⟨_, rfl⟩
      rw [← er, ← eL] at HD0 ht0
      have HD := Lib.hid HD0
      obtain ⟨t1, t2, t3⟩ := ht0
      have HT2 := Lib.hid t3
      have HA := Lib.hid (left_any wr bs v L hI.stk hI.tidy.ok)
      have q1 : g < w0.heap.size := World.block_lt_of_cell? w0 _ k0
      have c0 := (hB.cell (p := ⟨g, o + k * 4, none⟩) q1).trans k0
      have c1 := (hB.cell (p := ⟨g, o + k * 4 + 1, none⟩) q1).trans k1
      have c2 := (hB.cell (p := ⟨g, o + k * 4 + 2, none⟩) q1).trans k2
      have c3 := (hB.cell (p := ⟨g, o + k * 4 + 3, none⟩) q1).trans k3
      have i1 : (0 : Int) ≤ k := by omega
      have i2 : (k : Int) < (n : Int) := by omega
      have HI := Lib.hid hI
      have hL61 := hI.tidy.len
      have hL61' := t3.len
      have hm1 : (leftN L).length ≤ maxLen := by rw [leftN_len L hL61]; decide
      have hm2 : (leftN L').length ≤ maxLen := by rw [leftN_len L' hL61']; decide
      have hm3 := Lib.hid (show (leftN L').length = (leftN L).length by rw [leftN_len L' hL61', leftN_len L hL61])
      have hm3 := hm3.out
      clear hx er eL HD0 hI hB hR hok HC t3
      by_cases hq : leftN L = leftN L'
      · have HQ : Hid (decide (leftN L = leftN L') = true) := decide_eq_true hq
        have HW : Hid (lessN (leftN L') (leftN L) = false) := by show _ = _; rw [hq]; exact lessN_same _
        have hno : r = false ∨ d = 3 ∨ L' = [] := by
          cases r with
          | false => exact .inl rfl
          | true =>
            by_cases h3 : d = 3
            · exact .inr (.inl h3)
            · by_cases hn : L' = []
              · exact .inr (.inr hn)
              · have := t2 rfl h3 hn; rw [HW.out] at this; cases this
        clear hq t1 t2
        cases r with
        | false =>
          clear hno
          go_wp2_with fail
          refine HA.out.mono ?_
          rintro e w3 ⟨pa, rfl, a1, a2, a3⟩
          obtain ⟨ada, cpa, ea⟩ := a1.len
          rw [leftN_len L hL61] at ea
          subst ea
          have A1 := Lib.hid a1
          have A2 := Lib.hid a2
          have A3 := Lib.hid a3
          have I3 : Hid (OnceInv w0.heap.size w3 bs v (.slice none 0 0) L []) := HI.out.keeps (Keeps.ofBelow a2 _)
          have B3 : Hid (Below w0.heap.size w0 w3) := hBH.out.trans (a2.mono HI.out.base)
          clear a1 a2 a3 c0 c1 c2 c3
          have c0 := (B3.out.cell (p := ⟨g, o + k * 4, none⟩) q1).trans k0
          have c1 := (B3.out.cell (p := ⟨g, o + k * 4 + 1, none⟩) q1).trans k1
          have c2 := (B3.out.cell (p := ⟨g, o + k * 4 + 2, none⟩) q1).trans k2
          have c3 := (B3.out.cell (p := ⟨g, o + k * 4 + 3, none⟩) q1).trans k3
          go_wp2_with fail
          refine (HD.out w3 I3.out B3.out).mono ?_
          rintro e w4 ⟨v', rfl, g1, g2, g3⟩
          have I4 : Hid (OnceInv w0.heap.size w4 bs v' (.slice none 0 0) L' []) := I3.out.call g1 g2 g3 HT2.out
          have B4 : Hid (Below w0.heap.size w0 w4) := B3.out.trans (g2.below (fun k' _ ho => I3.out.own k' ho) I3.out.base)
          have A4 : Hid (IntsAt w4 (.slice ada 61 cpa) (leftN L)) := A1.out.keeps g2 (fun k' e ho => by have h1 := (A3.out k' e).1; have h2 := OwnS.lt HI.out.stk k' ho; omega)
          clear g1 g2 g3 c0 c1 c2 c3
          have c0 := (B4.out.cell (p := ⟨g, o + k * 4, none⟩) q1).trans k0
          go_wp2_with fail
          refine (left_any w4 bs v' L' I4.out.stk I4.out.tidy.ok).mono ?_
          rintro e w5 ⟨pb, rfl, b1, b2, b3⟩
          obtain ⟨adb, cpb, eb⟩ := b1.len
          rw [leftN_len L' hL61'] at eb
          subst eb
          have I5 : Hid (OnceInv w0.heap.size w5 bs v' (.slice none 0 0) L' []) := I4.out.keeps (Keeps.ofBelow b2 _)
          have B5 : Hid (Below w0.heap.size w0 w5) := B4.out.trans (b2.mono I4.out.base)
          have A5 : Hid (IntsAt w5 (.slice ada 61 cpa) (leftN L)) := A4.out.keeps (Keeps.ofBelow b2 NoBlk) (fun _ _ h => h)
          have P5 := Lib.hid b1
          clear b1 b2 b3 c0
          have c0 := (B5.out.cell (p := ⟨g, o + k * 4, none⟩) q1).trans k0
          go_wp2_with fail
          refine (stkLen_any w5 bs v' L' I5.out.stk).mono ?_
          rintro e w' ⟨rfl, rfl⟩
          go_wp2_with fail
          refine (equal_any _ _ _ _ w5 A5.out P5.out hm1 hm2).mono ?_
          rintro e w6 ⟨rfl, c6, hw6⟩
          rw [HQ.out]
          have I6 : Hid (OnceInv w0.heap.size w6 bs v' (.slice none 0 0) L' []) := by rw [hw6]; exact I5.out.keeps ((Keeps.refl NoBlk _).drewN _)
          have B6 : Hid (Below w0.heap.size w0 w6) := by rw [hw6]; exact below_drewN B5.out _
          have A6 : Hid (IntsAt w6 (.slice ada 61 cpa) (leftN L)) := by rw [hw6]; exact A5.out.keeps ((Keeps.refl NoBlk _).drewN _) (fun _ _ h => h)
          have P6 : Hid (IntsAt w6 (.slice adb 61 cpb) (leftN L')) := by rw [hw6]; exact P5.out.keeps ((Keeps.refl NoBlk _).drewN _) (fun _ _ h => h)
          clear hw6 c0
          have c0 := (B6.out.cell (p := ⟨g, o + k * 4, none⟩) q1).trans k0
          go_wp2_with fail
          refine (less_any _ _ _ _ w6 P6.out A6.out hm2 hm3).mono ?_
          rintro e w7 ⟨rfl, c7, hw7⟩
          rw [HW.out]
          have I7 : Hid (OnceInv w0.heap.size w7 bs v' (.slice none 0 0) L' []) := by rw [hw7]; exact I6.out.keeps ((Keeps.refl NoBlk _).drewN _)
          have B7 : Hid (Below w0.heap.size w0 w7) := by rw [hw7]; exact below_drewN B6.out _
          clear hw7 c0
          have c0 := (B7.out.cell (p := ⟨g, o + k * 4, none⟩) q1).trans k0
          go_wp2
          go_roundw
          case rel => exact ⟨k + 1, by omega, by go_num, v', L', I7.out, B7.out⟩
          case measure => simp [intOf]; omega
        | true =>
          by_cases h3 : d = 3
          · have d1 : (d == 3) = true := by rw [h3]; rfl
            have d2 : (d != 3) = false := by rw [h3]; rfl
            clear hno h3
            go_wp2_with fail
            refine HA.out.mono ?_
            rintro e w3 ⟨pa, rfl, a1, a2, a3⟩
            obtain ⟨ada, cpa, ea⟩ := a1.len
            rw [leftN_len L hL61] at ea
            subst ea
            have A1 := Lib.hid a1
            have A2 := Lib.hid a2
            have A3 := Lib.hid a3
            have I3 : Hid (OnceInv w0.heap.size w3 bs v (.slice none 0 0) L []) := HI.out.keeps (Keeps.ofBelow a2 _)
            have B3 : Hid (Below w0.heap.size w0 w3) := hBH.out.trans (a2.mono HI.out.base)
            clear a1 a2 a3 c0 c1 c2 c3
            have c0 := (B3.out.cell (p := ⟨g, o + k * 4, none⟩) q1).trans k0
            have c1 := (B3.out.cell (p := ⟨g, o + k * 4 + 1, none⟩) q1).trans k1
            have c2 := (B3.out.cell (p := ⟨g, o + k * 4 + 2, none⟩) q1).trans k2
            have c3 := (B3.out.cell (p := ⟨g, o + k * 4 + 3, none⟩) q1).trans k3
            go_wp2_with fail
            refine (HD.out w3 I3.out B3.out).mono ?_
            rintro e w4 ⟨v', rfl, g1, g2, g3⟩
            have I4 : Hid (OnceInv w0.heap.size w4 bs v' (.slice none 0 0) L' []) := I3.out.call g1 g2 g3 HT2.out
            have B4 : Hid (Below w0.heap.size w0 w4) := B3.out.trans (g2.below (fun k' _ ho => I3.out.own k' ho) I3.out.base)
            have A4 : Hid (IntsAt w4 (.slice ada 61 cpa) (leftN L)) := A1.out.keeps g2 (fun k' e ho => by have h1 := (A3.out k' e).1; have h2 := OwnS.lt HI.out.stk k' ho; omega)
            clear g1 g2 g3 c0 c1 c2 c3
            have c0 := (B4.out.cell (p := ⟨g, o + k * 4, none⟩) q1).trans k0
            go_wp2_with fail
            refine (left_any w4 bs v' L' I4.out.stk I4.out.tidy.ok).mono ?_
            rintro e w5 ⟨pb, rfl, b1, b2, b3⟩
            obtain ⟨adb, cpb, eb⟩ := b1.len
            rw [leftN_len L' hL61'] at eb
            subst eb
            have I5 : Hid (OnceInv w0.heap.size w5 bs v' (.slice none 0 0) L' []) := I4.out.keeps (Keeps.ofBelow b2 _)
            have B5 : Hid (Below w0.heap.size w0 w5) := B4.out.trans (b2.mono I4.out.base)
            have A5 : Hid (IntsAt w5 (.slice ada 61 cpa) (leftN L)) := A4.out.keeps (Keeps.ofBelow b2 NoBlk) (fun _ _ h => h)
            have P5 := Lib.hid b1
            clear b1 b2 b3 c0
            have c0 := (B5.out.cell (p := ⟨g, o + k * 4, none⟩) q1).trans k0
            go_wp2_with fail
            refine (stkLen_any w5 bs v' L' I5.out.stk).mono ?_
            rintro e w' ⟨rfl, rfl⟩
            go_wp2_with fail
            refine (equal_any _ _ _ _ w5 A5.out P5.out hm1 hm2).mono ?_
            rintro e w6 ⟨rfl, c6, hw6⟩
            rw [HQ.out]
            have I6 : Hid (OnceInv w0.heap.size w6 bs v' (.slice none 0 0) L' []) := by rw [hw6]; exact I5.out.keeps ((Keeps.refl NoBlk _).drewN _)
            have B6 : Hid (Below w0.heap.size w0 w6) := by rw [hw6]; exact below_drewN B5.out _
            have A6 : Hid (IntsAt w6 (.slice ada 61 cpa) (leftN L)) := by rw [hw6]; exact A5.out.keeps ((Keeps.refl NoBlk _).drewN _) (fun _ _ h => h)
            have P6 : Hid (IntsAt w6 (.slice adb 61 cpb) (leftN L')) := by rw [hw6]; exact P5.out.keeps ((Keeps.refl NoBlk _).drewN _) (fun _ _ h => h)
            clear hw6 c0
            have c0 := (B6.out.cell (p := ⟨g, o + k * 4, none⟩) q1).trans k0
            go_wp2_with fail
            refine (less_any _ _ _ _ w6 P6.out A6.out hm2 hm3).mono ?_
            rintro e w7 ⟨rfl, c7, hw7⟩
            rw [HW.out]
            have I7 : Hid (OnceInv w0.heap.size w7 bs v' (.slice none 0 0) L' []) := by rw [hw7]; exact I6.out.keeps ((Keeps.refl NoBlk _).drewN _)
            have B7 : Hid (Below w0.heap.size w0 w7) := by rw [hw7]; exact below_drewN B6.out _
            clear hw7 c0
            have c0 := (B7.out.cell (p := ⟨g, o + k * 4, none⟩) q1).trans k0
            go_wp2
            go_roundw
            case rel => exact ⟨k + 1, by omega, by go_num, v', L', I7.out, B7.out⟩
            case measure => simp [intOf]; omega
          · have d1 : (d == 3) = false := by rw [beq_eq_false_iff_ne]; exact h3
            have d2 : (d != 3) = true := by rw [bne_iff_ne]; exact h3
            have n1 : L' = [] := by
              rcases hno with h | h | h
              · cases h
              · exact absurd h h3
              · exact h
            have n1 : (0 < L'.length) = False := by rw [n1]; simp
            clear hno h3
            go_wp2_with fail
            refine HA.out.mono ?_
            rintro e w3 ⟨pa, rfl, a1, a2, a3⟩
            obtain ⟨ada, cpa, ea⟩ := a1.len
            rw [leftN_len L hL61] at ea
            subst ea
            have A1 := Lib.hid a1
            have A2 := Lib.hid a2
            have A3 := Lib.hid a3
            have I3 : Hid (OnceInv w0.heap.size w3 bs v (.slice none 0 0) L []) := HI.out.keeps (Keeps.ofBelow a2 _)
            have B3 : Hid (Below w0.heap.size w0 w3) := hBH.out.trans (a2.mono HI.out.base)
            clear a1 a2 a3 c0 c1 c2 c3
            have c0 := (B3.out.cell (p := ⟨g, o + k * 4, none⟩) q1).trans k0
            have c1 := (B3.out.cell (p := ⟨g, o + k * 4 + 1, none⟩) q1).trans k1
            have c2 := (B3.out.cell (p := ⟨g, o + k * 4 + 2, none⟩) q1).trans k2
            have c3 := (B3.out.cell (p := ⟨g, o + k * 4 + 3, none⟩) q1).trans k3
            go_wp2_with fail
            refine (HD.out w3 I3.out B3.out).mono ?_
            rintro e w4 ⟨v', rfl, g1, g2, g3⟩
            have I4 : Hid (OnceInv w0.heap.size w4 bs v' (.slice none 0 0) L' []) := I3.out.call g1 g2 g3 HT2.out
            have B4 : Hid (Below w0.heap.size w0 w4) := B3.out.trans (g2.below (fun k' _ ho => I3.out.own k' ho) I3.out.base)
            have A4 : Hid (IntsAt w4 (.slice ada 61 cpa) (leftN L)) := A1.out.keeps g2 (fun k' e ho => by have h1 := (A3.out k' e).1; have h2 := OwnS.lt HI.out.stk k' ho; omega)
            clear g1 g2 g3 c0 c1 c2 c3
            have c0 := (B4.out.cell (p := ⟨g, o + k * 4, none⟩) q1).trans k0
            go_wp2_with fail
            refine (left_any w4 bs v' L' I4.out.stk I4.out.tidy.ok).mono ?_
            rintro e w5 ⟨pb, rfl, b1, b2, b3⟩
            obtain ⟨adb, cpb, eb⟩ := b1.len
            rw [leftN_len L' hL61'] at eb
            subst eb
            have I5 : Hid (OnceInv w0.heap.size w5 bs v' (.slice none 0 0) L' []) := I4.out.keeps (Keeps.ofBelow b2 _)
            have B5 : Hid (Below w0.heap.size w0 w5) := B4.out.trans (b2.mono I4.out.base)
            have A5 : Hid (IntsAt w5 (.slice ada 61 cpa) (leftN L)) := A4.out.keeps (Keeps.ofBelow b2 NoBlk) (fun _ _ h => h)
            have P5 := Lib.hid b1
            clear b1 b2 b3 c0
            have c0 := (B5.out.cell (p := ⟨g, o + k * 4, none⟩) q1).trans k0
            go_wp2_with fail
            refine (stkLen_any w5 bs v' L' I5.out.stk).mono ?_
            rintro e w' ⟨rfl, rfl⟩
            go_wp2_with fail
            refine (equal_any _ _ _ _ w5 A5.out P5.out hm1 hm2).mono ?_
            rintro e w6 ⟨rfl, c6, hw6⟩
            rw [HQ.out]
            have I6 : Hid (OnceInv w0.heap.size w6 bs v' (.slice none 0 0) L' []) := by rw [hw6]; exact I5.out.keeps ((Keeps.refl NoBlk _).drewN _)
            have B6 : Hid (Below w0.heap.size w0 w6) := by rw [hw6]; exact below_drewN B5.out _
            have A6 : Hid (IntsAt w6 (.slice ada 61 cpa) (leftN L)) := by rw [hw6]; exact A5.out.keeps ((Keeps.refl NoBlk _).drewN _) (fun _ _ h => h)
            have P6 : Hid (IntsAt w6 (.slice adb 61 cpb) (leftN L')) := by rw [hw6]; exact P5.out.keeps ((Keeps.refl NoBlk _).drewN _) (fun _ _ h => h)
            clear hw6 c0
            have c0 := (B6.out.cell (p := ⟨g, o + k * 4, none⟩) q1).trans k0
            go_wp2_with fail
            refine (less_any _ _ _ _ w6 P6.out A6.out hm2 hm3).mono ?_
            rintro e w7 ⟨rfl, c7, hw7⟩
            rw [HW.out]
            have I7 : Hid (OnceInv w0.heap.size w7 bs v' (.slice none 0 0) L' []) := by rw [hw7]; exact I6.out.keeps ((Keeps.refl NoBlk _).drewN _)
            have B7 : Hid (Below w0.heap.size w0 w7) := by rw [hw7]; exact below_drewN B6.out _
            clear hw7 c0
            have c0 := (B7.out.cell (p := ⟨g, o + k * 4, none⟩) q1).trans k0
            go_wp2
            go_roundw
            case rel => exact ⟨k + 1, by omega, by go_num, v', L', I7.out, B7.out⟩
            case measure => simp [intOf]; omega
      · have hrd : r = true ∧ d ≠ 3 := by
          cases r with
          | false => exact absurd (t1 (.inl rfl)).symm hq
          | true => exact ⟨rfl, fun h3 => hq (t1 (.inr h3)).symm⟩
        obtain ⟨rfl, h3⟩ := hrd
        have HQ : Hid (decide (leftN L = leftN L') = false) := decide_eq_false hq
        have d1 : (d == 3) = false := by rw [beq_eq_false_iff_ne]; exact h3
        have d2 : (d != 3) = true := by rw [bne_iff_ne]; exact h3
        by_cases hn : L' = []
        · have n1 : (0 < L'.length) = False := by rw [hn]; simp
          obtain ⟨wb, hwb⟩ : ∃ wb, wb = lessN (leftN L') (leftN L) := ⟨_, rfl⟩
          have HW : Hid (lessN (leftN L') (leftN L) = wb) := hwb.symm
          clear hwb hq t1 t2 h3 hn
          go_wp2_with fail
          refine HA.out.mono ?_
          rintro e w3 ⟨pa, rfl, a1, a2, a3⟩
          obtain ⟨ada, cpa, ea⟩ := a1.len
          rw [leftN_len L hL61] at ea
          subst ea
          have A1 := Lib.hid a1
          have A2 := Lib.hid a2
          have A3 := Lib.hid a3
          have I3 : Hid (OnceInv w0.heap.size w3 bs v (.slice none 0 0) L []) := HI.out.keeps (Keeps.ofBelow a2 _)
          have B3 : Hid (Below w0.heap.size w0 w3) := hBH.out.trans (a2.mono HI.out.base)
          clear a1 a2 a3 c0 c1 c2 c3
          have c0 := (B3.out.cell (p := ⟨g, o + k * 4, none⟩) q1).trans k0
          have c1 := (B3.out.cell (p := ⟨g, o + k * 4 + 1, none⟩) q1).trans k1
          have c2 := (B3.out.cell (p := ⟨g, o + k * 4 + 2, none⟩) q1).trans k2
          have c3 := (B3.out.cell (p := ⟨g, o + k * 4 + 3, none⟩) q1).trans k3
          go_wp2_with fail
          refine (HD.out w3 I3.out B3.out).mono ?_
          rintro e w4 ⟨v', rfl, g1, g2, g3⟩
          have I4 : Hid (OnceInv w0.heap.size w4 bs v' (.slice none 0 0) L' []) := I3.out.call g1 g2 g3 HT2.out
          have B4 : Hid (Below w0.heap.size w0 w4) := B3.out.trans (g2.below (fun k' _ ho => I3.out.own k' ho) I3.out.base)
          have A4 : Hid (IntsAt w4 (.slice ada 61 cpa) (leftN L)) := A1.out.keeps g2 (fun k' e ho => by have h1 := (A3.out k' e).1; have h2 := OwnS.lt HI.out.stk k' ho; omega)
          clear g1 g2 g3 c0 c1 c2 c3
          have c0 := (B4.out.cell (p := ⟨g, o + k * 4, none⟩) q1).trans k0
          go_wp2_with fail
          refine (left_any w4 bs v' L' I4.out.stk I4.out.tidy.ok).mono ?_
          rintro e w5 ⟨pb, rfl, b1, b2, b3⟩
          obtain ⟨adb, cpb, eb⟩ := b1.len
          rw [leftN_len L' hL61'] at eb
          subst eb
          have I5 : Hid (OnceInv w0.heap.size w5 bs v' (.slice none 0 0) L' []) := I4.out.keeps (Keeps.ofBelow b2 _)
          have B5 : Hid (Below w0.heap.size w0 w5) := B4.out.trans (b2.mono I4.out.base)
          have A5 : Hid (IntsAt w5 (.slice ada 61 cpa) (leftN L)) := A4.out.keeps (Keeps.ofBelow b2 NoBlk) (fun _ _ h => h)
          have P5 := Lib.hid b1
          clear b1 b2 b3 c0
          have c0 := (B5.out.cell (p := ⟨g, o + k * 4, none⟩) q1).trans k0
          go_wp2_with fail
          refine (stkLen_any w5 bs v' L' I5.out.stk).mono ?_
          rintro e w' ⟨rfl, rfl⟩
          go_wp2_with fail
          refine (equal_any _ _ _ _ w5 A5.out P5.out hm1 hm2).mono ?_
          rintro e w6 ⟨rfl, c6, hw6⟩
          rw [HQ.out]
          have I6 : Hid (OnceInv w0.heap.size w6 bs v' (.slice none 0 0) L' []) := by rw [hw6]; exact I5.out.keeps ((Keeps.refl NoBlk _).drewN _)
          have B6 : Hid (Below w0.heap.size w0 w6) := by rw [hw6]; exact below_drewN B5.out _
          have A6 : Hid (IntsAt w6 (.slice ada 61 cpa) (leftN L)) := by rw [hw6]; exact A5.out.keeps ((Keeps.refl NoBlk _).drewN _) (fun _ _ h => h)
          have P6 : Hid (IntsAt w6 (.slice adb 61 cpb) (leftN L')) := by rw [hw6]; exact P5.out.keeps ((Keeps.refl NoBlk _).drewN _) (fun _ _ h => h)
          clear hw6 c0
          have c0 := (B6.out.cell (p := ⟨g, o + k * 4, none⟩) q1).trans k0
          go_wp2_with fail
          refine (less_any _ _ _ _ w6 P6.out A6.out hm2 hm3).mono ?_
          rintro e w7 ⟨rfl, c7, hw7⟩
          rw [HW.out]
          have I7 : Hid (OnceInv w0.heap.size w7 bs v' (.slice none 0 0) L' []) := by rw [hw7]; exact I6.out.keeps ((Keeps.refl NoBlk _).drewN _)
          have B7 : Hid (Below w0.heap.size w0 w7) := by rw [hw7]; exact below_drewN B6.out _
          clear hw7 c0
          have c0 := (B7.out.cell (p := ⟨g, o + k * 4, none⟩) q1).trans k0
          go_wp2
          go_roundw
          case rel => exact ⟨k + 1, by omega, by go_num, v', L', I7.out, B7.out⟩
          case measure => simp [intOf]; omega
        · have HW : Hid (lessN (leftN L') (leftN L) = true) := t2 rfl h3 hn
          have n1 : (0 < L'.length) = True := eq_true (List.length_pos_iff.2 hn)
          clear hq t1 t2 h3 hn
          go_wp2_with fail
          refine HA.out.mono ?_
          rintro e w3 ⟨pa, rfl, a1, a2, a3⟩
          obtain ⟨ada, cpa, ea⟩ := a1.len
          rw [leftN_len L hL61] at ea
          subst ea
          have A1 := Lib.hid a1
          have A2 := Lib.hid a2
          have A3 := Lib.hid a3
          have I3 : Hid (OnceInv w0.heap.size w3 bs v (.slice none 0 0) L []) := HI.out.keeps (Keeps.ofBelow a2 _)
          have B3 : Hid (Below w0.heap.size w0 w3) := hBH.out.trans (a2.mono HI.out.base)
          clear a1 a2 a3 c0 c1 c2 c3
          have c0 := (B3.out.cell (p := ⟨g, o + k * 4, none⟩) q1).trans k0
          have c1 := (B3.out.cell (p := ⟨g, o + k * 4 + 1, none⟩) q1).trans k1
          have c2 := (B3.out.cell (p := ⟨g, o + k * 4 + 2, none⟩) q1).trans k2
          have c3 := (B3.out.cell (p := ⟨g, o + k * 4 + 3, none⟩) q1).trans k3
          go_wp2_with fail
          refine (HD.out w3 I3.out B3.out).mono ?_
          rintro e w4 ⟨v', rfl, g1, g2, g3⟩
          have I4 : Hid (OnceInv w0.heap.size w4 bs v' (.slice none 0 0) L' []) := I3.out.call g1 g2 g3 HT2.out
          have B4 : Hid (Below w0.heap.size w0 w4) := B3.out.trans (g2.below (fun k' _ ho => I3.out.own k' ho) I3.out.base)
          have A4 : Hid (IntsAt w4 (.slice ada 61 cpa) (leftN L)) := A1.out.keeps g2 (fun k' e ho => by have h1 := (A3.out k' e).1; have h2 := OwnS.lt HI.out.stk k' ho; omega)
          clear g1 g2 g3 c0 c1 c2 c3
          have c0 := (B4.out.cell (p := ⟨g, o + k * 4, none⟩) q1).trans k0
          go_wp2_with fail
          refine (left_any w4 bs v' L' I4.out.stk I4.out.tidy.ok).mono ?_
          rintro e w5 ⟨pb, rfl, b1, b2, b3⟩
          obtain ⟨adb, cpb, eb⟩ := b1.len
          rw [leftN_len L' hL61'] at eb
          subst eb
          have I5 : Hid (OnceInv w0.heap.size w5 bs v' (.slice none 0 0) L' []) := I4.out.keeps (Keeps.ofBelow b2 _)
          have B5 : Hid (Below w0.heap.size w0 w5) := B4.out.trans (b2.mono I4.out.base)
          have A5 : Hid (IntsAt w5 (.slice ada 61 cpa) (leftN L)) := A4.out.keeps (Keeps.ofBelow b2 NoBlk) (fun _ _ h => h)
          have P5 := Lib.hid b1
          clear b1 b2 b3 c0
          have c0 := (B5.out.cell (p := ⟨g, o + k * 4, none⟩) q1).trans k0
          go_wp2_with fail
          refine (stkLen_any w5 bs v' L' I5.out.stk).mono ?_
          rintro e w' ⟨rfl, rfl⟩
          go_wp2_with fail
          refine (equal_any _ _ _ _ w5 A5.out P5.out hm1 hm2).mono ?_
          rintro e w6 ⟨rfl, c6, hw6⟩
          rw [HQ.out]
          have I6 : Hid (OnceInv w0.heap.size w6 bs v' (.slice none 0 0) L' []) := by rw [hw6]; exact I5.out.keeps ((Keeps.refl NoBlk _).drewN _)
          have B6 : Hid (Below w0.heap.size w0 w6) := by rw [hw6]; exact below_drewN B5.out _
          have A6 : Hid (IntsAt w6 (.slice ada 61 cpa) (leftN L)) := by rw [hw6]; exact A5.out.keeps ((Keeps.refl NoBlk _).drewN _) (fun _ _ h => h)
          have P6 : Hid (IntsAt w6 (.slice adb 61 cpb) (leftN L')) := by rw [hw6]; exact P5.out.keeps ((Keeps.refl NoBlk _).drewN _) (fun _ _ h => h)
          clear hw6 c0
          have c0 := (B6.out.cell (p := ⟨g, o + k * 4, none⟩) q1).trans k0
          go_wp2_with fail
          refine (less_any _ _ _ _ w6 P6.out A6.out hm2 hm3).mono ?_
          rintro e w7 ⟨rfl, c7, hw7⟩
          rw [HW.out]
          have I7 : Hid (OnceInv w0.heap.size w7 bs v' (.slice none 0 0) L' []) := by rw [hw7]; exact I6.out.keeps ((Keeps.refl NoBlk _).drewN _)
          have B7 : Hid (Below w0.heap.size w0 w7) := by rw [hw7]; exact below_drewN B6.out _
          clear hw7 c0
          have c0 := (B7.out.cell (p := ⟨g, o + k * 4, none⟩) q1).trans k0
          go_wp2
          go_roundw
          case rel => exact ⟨k + 1, by omega, by go_num, v', L', I7.out, B7.out⟩
          case measure => simp [intOf]; omega
    · have hkn : k = n := by omega
      subst hkn
      clear hlt
      go_wp2
      go_ret
      exact ⟨rfl, hBH.out⟩
end Go.Proofs.YtjfbiganijldfaaDoor
