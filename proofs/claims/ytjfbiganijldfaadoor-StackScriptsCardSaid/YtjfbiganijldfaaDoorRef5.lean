/- The reference's calls on rows of nodes: Insert, Open. -/
import Derived.Test.YtjfbiganijldfaaDoorRef3
namespace Go.Proofs.YtjfbiganijldfaaDoor
open Go.RowKit
set_option linter.unusedVariables false
set_option linter.unusedSimpArgs false
set_option linter.unnecessarySimpa false

section
variable (g n cap i : Nat) (ad : Option Addr) (ini at_ bk sl : Int) (w : World)
set_option maxHeartbeats 400000 in
theorem rins_none (h : at_ < 0 ∨ n ≤ at_) :
    Calls Tryd.prog 21 #[.slice ad n cap, .int .i64 at_, .int .u64 ini] w fun e w' => e = .returned (.bool false) ∧ w' = w := by
  rcases h with h | h
  · go_enter Tryd.func21, Tryd.ntmps21
    go_wp2
    go_ret
    exact ⟨rfl, rfl⟩
  · have h' : ¬ at_ < 0 := by omega
    go_enter Tryd.func21, Tryd.ntmps21
    go_wp2
    go_ret
    exact ⟨rfl, rfl⟩

/-- how the reference's Insert ends at a node that is there -/
def RinsPost (g i : Nat) (ini bk sl : Int) (w : World) (e : Ending) (w' : World) : Prop :=
  (e = .returned (.bool false) ∧ Below w.heap.size w w' ∧ (leastN ini = -1 ∨ ∃ j, j < 8 ∧ (ini.toNat.testBit j && (bk.toNat.testBit j || sl.toNat.testBit j)) = true)) ∨
  (∃ (w2 : World) (m : Nat), e = .returned (.bool true) ∧ Below w.heap.size w w2 ∧ leastN ini = m ∧ m < 8 ∧ (∀ j, j < 8 → (ini.toNat.testBit j && (bk.toNat.testBit j || sl.toNat.testBit j)) = false) ∧ w' = w2.setCell ⟨g, i * 25 + 8 + m, none⟩ (.bool true))

set_option maxHeartbeats 1000000 in
theorem rins_raw (hi : i < n) (hn : n ≤ 61) (hini : 0 ≤ ini ∧ ini < 18446744073709551616)
    (hb : ∀ k, k < 8 → w.cell? ⟨g, i * 25 + 8 + k, none⟩ = some (.bool (bk.toNat.testBit k)))
    (hs : ∀ k, k < 8 → w.cell? ⟨g, i * 25 + k, none⟩ = some (.bool (sl.toNat.testBit k))) (hf : ∀ j, w.frozen? ⟨g, j, none⟩ = false) :
    Calls Tryd.prog 21 #[.slice (some ⟨g, 0, none⟩) n cap, .int .i64 i, .int .u64 ini] w (RinsPost g i ini bk sl w) := by
  have i1 : ¬ (i : Int) < 0 := by omega
  have i2 : ¬ (n : Int) ≤ i := by omega
  have q1 : g < w.heap.size := World.block_lt_of_cell? w _ (hs 0 (by decide))
  obtain ⟨b0, b1, b2, b3, b4, b5, b6, b7, hbits⟩ : ∃ b0 b1 b2 b3 b4 b5 b6 b7, bitsN ini = [b0, b1, b2, b3, b4, b5, b6, b7] := ⟨_, _, _, _, _, _, _, _, rfl⟩
  have HBB : Hid (∀ k, k < 8 → [b0, b1, b2, b3, b4, b5, b6, b7][k]? = some (ini.toNat.testBit k)) := fun k hk => by rw [← hbits]; exact bitsN_get ini k hk
  have HB0 := rbits_any ini w hini
  have HF0 := firstN_bits ini
  rw [hbits] at HB0 HF0
  have HB := Lib.hid HB0
  have HCB := Lib.hid hb
  have HCS := Lib.hid hs
  have HFR := Lib.hid hf
  clear hbits HB0 hb hs hf
  by_cases hm : leastN ini = -1
  · have hm1 : firstN [b0, b1, b2, b3, b4, b5, b6, b7] = -1 := HF0.trans hm
    have HM := Lib.hid hm
    clear hm HF0
    go_enter Tryd.func21, Tryd.ntmps21
    go_wp2_with (first | (go_at_call 30; refine HB.out.mono ?_; rintro e w1 ⟨rfl, hb1⟩; have HB1 := Lib.hid hb1; clear hb1) | (go_at_call 32; refine (rleast_any [b0, b1, b2, b3, b4, b5, b6, b7] _ (by rfl)).mono ?_; rintro e w2 ⟨rfl, hb2⟩; have HB2 := Lib.hid hb2; clear hb2; rw [hm1]))
    go_ret
    refine .inl ⟨rfl, ?_, .inl HM.out⟩
    exact (HB1.out.alloc HB1.out.size _).trans (HB2.out.mono (by have := HB1.out.size; simp; omega))
  · obtain ⟨m, em, hm8⟩ : ∃ m : Nat, leastN ini = m ∧ m < 8 := by
      by_cases h0 : ini % 256 = 0
      · exact absurd (leastN_none ini hini.1 h0) hm
      · obtain ⟨m, h1, h2, _⟩ := leastN_some ini hini.1 h0
        exact ⟨m, h2, h1⟩
    have hm1 : firstN [b0, b1, b2, b3, b4, b5, b6, b7] = m := HF0.trans em
    have hm2 : (0 : Int) ≤ m := by omega
    have hm3 : (m : Int) < 8 := by omega
    have HM := Lib.hid em
    clear hm em HF0
    go_enter Tryd.func21, Tryd.ntmps21
    go_wp2_with (first | (go_at_call 30; refine HB.out.mono ?_; rintro e w1 ⟨rfl, hb1⟩; have HB1 := Lib.hid hb1; clear hb1) | (go_at_call 32; refine (rleast_any [b0, b1, b2, b3, b4, b5, b6, b7] _ (by rfl)).mono ?_; rintro e w2 ⟨rfl, hb2⟩; have HB2 := Lib.hid hb2; clear hb2; rw [hm1]))
    have HON : Hid (∀ k, k < 8 → w2.cell? ⟨w1.heap.size, k, none⟩ = some (.bool (ini.toNat.testBit k))) := fun k hk =>
      (HB2.out.cell (p := ⟨w1.heap.size, k, none⟩) (by simp)).trans (new_cell [b0, b1, b2, b3, b4, b5, b6, b7] w1 59 k _ (HBB.out k hk))
    have HW2 : Hid (Below w.heap.size w w2) := (HB1.out.alloc HB1.out.size _).trans (HB2.out.mono (by have := HB1.out.size; simp; omega))
    have q2 : g < w1.heap.size := by have := HB1.out.size; omega
    clear HB2 HB HBB
    have HB2 := HW2
    clear HW2
    go_loopw [9] (fun i wr => ∃ k : Nat, k ≤ 8 ∧ i = .int .i64 k ∧ Hid (∀ j, j < k → (ini.toNat.testBit j && (bk.toNat.testBit j || sl.toNat.testBit j)) = false) ∧ wr = w2) (fun i _ => 8 - (intOf i).toNat)
    case atStart => exact ⟨0, Nat.zero_le _, rfl, (fun j hj => absurd hj (by omega)), rfl⟩
    case round =>
      obtain ⟨k, hk, rfl, H0, rfl⟩ := hrel
      by_cases hlt : k < 8
      · have j1 : (0 : Int) ≤ k := by omega
        have j3 : (k : Int) < 8 := by omega
        have c0 := HON.out k hlt
        have c1 := (HB2.out.cell (p := ⟨g, i * 25 + 8 + k, none⟩) q1).trans (HCB.out k hlt)
        have c2 := (HB2.out.cell (p := ⟨g, i * 25 + k, none⟩) q1).trans (HCS.out k hlt)
        obtain ⟨x, hx⟩ : ∃ x, ini.toNat.testBit k = x := ⟨_, rfl⟩
        obtain ⟨y, hy⟩ : ∃ y, bk.toNat.testBit k = y := ⟨_, rfl⟩
        obtain ⟨z, hz⟩ : ∃ z, sl.toNat.testBit k = z := ⟨_, rfl⟩
        rw [hx] at c0
        rw [hy] at c1
        rw [hz] at c2
        have HX := Lib.hid hx
        have HY := Lib.hid hy
        have HZ := Lib.hid hz
        clear hx hy hz
        cases x with
        | false =>
          have H1 : Hid (∀ j, j < k + 1 → (ini.toNat.testBit j && (bk.toNat.testBit j || sl.toNat.testBit j)) = false) := fun j hj => by
            rcases Nat.lt_or_ge j k with h | h
            · exact H0.out j h
            · have : j = k := by omega
              rw [this, HX.out, HY.out, HZ.out]; rfl
          go_wp2
          exact ⟨⟨k + 1, by omega, by go_num, H1, trivial⟩, by simp [intOf]; omega⟩
        | true =>
          cases y with
          | true =>
            have H1 : Hid (∃ j, j < 8 ∧ (ini.toNat.testBit j && (bk.toNat.testBit j || sl.toNat.testBit j)) = true) := ⟨k, hlt, by rw [HX.out, HY.out, HZ.out]; rfl⟩
            go_wp2
            go_ret
            exact .inl ⟨rfl, HB2.out, .inr H1.out⟩
          | false =>
            cases z with
            | true =>
              have H1 : Hid (∃ j, j < 8 ∧ (ini.toNat.testBit j && (bk.toNat.testBit j || sl.toNat.testBit j)) = true) := ⟨k, hlt, by rw [HX.out, HY.out, HZ.out]; rfl⟩
              go_wp2
              go_ret
              exact .inl ⟨rfl, HB2.out, .inr H1.out⟩
            | false =>
              have H1 : Hid (∀ j, j < k + 1 → (ini.toNat.testBit j && (bk.toNat.testBit j || sl.toNat.testBit j)) = false) := fun j hj => by
                rcases Nat.lt_or_ge j k with h | h
                · exact H0.out j h
                · have : j = k := by omega
                  rw [this, HX.out, HY.out, HZ.out]; rfl
              go_wp2
              exact ⟨⟨k + 1, by omega, by go_num, H1, trivial⟩, by simp [intOf]; omega⟩
      · have hkn : k = 8 := by omega
        subst hkn
        have c1 := (HB2.out.cell (p := ⟨g, i * 25 + 8 + m, none⟩) q1).trans (HCB.out m hm8)
        have f1 := (HB2.out.frozen (p := ⟨g, i * 25 + 8 + m, none⟩) q1).trans (HFR.out _)
        go_wp2
        go_ret
        exact .inr ⟨_, m, rfl, HB2.out, HM.out, hm8, H0.out, rfl⟩
end
end Go.Proofs.YtjfbiganijldfaaDoor
