/- Contracts of the small functions of sets of threads (package sleep, and of math/bits what they call). -/
import Derived.Test.YtjfbiganijldfaaDoorLib
namespace Go.Proofs.YtjfbiganijldfaaDoor
open Go.RowKit
set_option linter.unusedVariables false
set_option linter.unusedSimpArgs false
set_option linter.unnecessarySimpa false

/-- the set of one thread, as a number -/
def oneN (t : Int) : Int := if t < 0 ∨ 8 ≤ t then 0 else 2 ^ t.toNat

theorem wrap_pow8 (t : Int) (h : t.toNat < 8) : IntKind.u64.wrap (2 ^ t.toNat) = 2 ^ t.toNat := by
  generalize t.toNat = n at h
  match n, h with
  | 0, _ | 1, _ | 2, _ | 3, _ | 4, _ | 5, _ | 6, _ | 7, _ => decide

theorem oneN_bd (t : Int) : 0 ≤ oneN t ∧ oneN t ≤ 128 := by
  unfold oneN
  split
  · omega
  · have h : t.toNat < 8 := by omega
    generalize t.toNat = n at h
    match n, h with
    | 0, _ | 1, _ | 2, _ | 3, _ | 4, _ | 5, _ | 6, _ | 7, _ => decide

set_option maxHeartbeats 400000 in
theorem one_any (t : Int) (w : World) :
    Calls Tryd.prog 39 #[.int .i64 t] w fun e w' => e = .returned (.int .u64 (oneN t)) ∧ w = w' := by
  by_cases h1 : t < 0
  · have e1 : oneN t = 0 := by simp [oneN, h1]
    rw [e1]; clear e1
    go_enter Tryd.func39, Tryd.ntmps39
    go_wp2
    go_ret
    exact ⟨rfl, rfl⟩
  · by_cases h2 : 8 ≤ t
    · have e1 : oneN t = 0 := by simp [oneN, h2]
      rw [e1]; clear e1
      go_enter Tryd.func39, Tryd.ntmps39
      go_wp2
      go_ret
      exact ⟨rfl, rfl⟩
    · have e1 : oneN t = IntKind.u64.wrap (2 ^ t.toNat) := by rw [wrap_pow8 t (by omega)]; simp [oneN, h1, h2]
      rw [e1]; clear e1
      go_enter Tryd.func39, Tryd.ntmps39
      go_wp2
      go_ret
      exact ⟨rfl, rfl⟩

/-- a set with one thread more -/
def putN (s : Int) (t : Int) : Int := bits .or .u64 s (oneN t)

set_option maxHeartbeats 400000 in
theorem put_any (s t : Int) (w : World) :
    Calls Tryd.prog 28 #[.int .u64 s, .int .i64 t] w fun e w' => e = .returned (.int .u64 (putN s t)) ∧ w = w' := by
  go_enter Tryd.func28, Tryd.ntmps28
  go_wp2_with (go_at_call 39; refine (one_any _ _).mono ?_; rintro e w' ⟨rfl, rfl⟩)
  go_ret
  exact ⟨rfl, rfl⟩

/-- how many threads: of a set below 256 -/
def lenN (s : Int) : Int := ((List.range 8).filter fun i => s.toNat.testBit i).length

set_option maxHeartbeats 400000 in
theorem ones64_any (s : Int) (w : World) (hs : 0 ≤ s ∧ s ≤ 255) :
    Calls Tryd.prog 45 #[.int .u64 s] w fun e w' => e = .returned (.int .i64 (lenN s)) ∧ w = w' := by
  go_enter Tryd.func45, Tryd.ntmps45
  go_wp2
  go_ret
  refine ⟨congrArg (fun n => Ending.returned (.int .i64 n)) ?_, rfl⟩
  obtain ⟨k, rfl⟩ : ∃ k : Fin 256, s = (k.val : Int) := ⟨⟨s.toNat, by omega⟩, by simp; omega⟩
  clear hs
  revert k
  decide +kernel

set_option maxHeartbeats 400000 in
theorem ones_any (s : Int) (w : World) (hs : 0 ≤ s ∧ s ≤ 255) :
    Calls Tryd.prog 38 #[.int .u64 s] w fun e w' => e = .returned (.int .i64 (lenN s)) ∧ w = w' := by
  go_enter Tryd.func38, Tryd.ntmps38
  go_wp2_with (go_at_call 45; refine (ones64_any _ _ hs).mono ?_; rintro e w' ⟨rfl, rfl⟩)
  go_ret
  exact ⟨rfl, rfl⟩

/-- what of a number lies below 2^8 -/
theorem and255 (s : Int) (hs : 0 ≤ s ∧ s < 18446744073709551616) : bits .and .u64 s 255 = s % 256 := by
  rw [u64_and s 255 hs.1 hs.2 (by decide) (by decide)]
  rw [show ((255 : Int).toNat) = 255 from rfl, nat_mask8]
  omega

set_option maxHeartbeats 400000 in
theorem len_any (s : Int) (w : World) (hs : 0 ≤ s ∧ s < 18446744073709551616) :
    Calls Tryd.prog 26 #[.int .u64 s] w fun e w' => e = .returned (.int .i64 (lenN (s % 256))) ∧ w = w' := by
  have h := and255 s hs
  have hb : 0 ≤ s % 256 ∧ s % 256 ≤ 255 := by omega
  go_enter Tryd.func26, Tryd.ntmps26
  go_wp2_with (go_at_call 38; refine (ones_any _ _ hb).mono ?_; rintro e w' ⟨rfl, rfl⟩)
  go_ret
  exact ⟨rfl, rfl⟩

/-- the table that TrailingZeros64 reads -/
def tzTab : List Int := [0, 1, 56, 2, 57, 49, 28, 3, 61, 58, 42, 50, 38, 29, 17, 4, 62, 47, 59, 36, 45, 43, 51, 22, 53, 39, 33, 30, 24, 18, 12, 5, 63, 55, 48, 27, 60, 41, 37, 16, 46, 35, 44, 21, 52, 32, 23, 11, 54, 26, 40, 15, 34, 20, 31, 10, 25, 14, 19, 9, 13, 8, 7, 6]
/-- the world holds that table -/
def TabOK (w : World) : Prop := ∀ j, j < 64 → w.cell? ⟨1, j, none⟩ = some (.int .u8 (tzTab.getD j 0))

theorem low_nat (i q n : Nat) (hq : q < 2 ^ n) : (2 ^ (i + 1) * q + 2 ^ i) &&& (2 ^ (i + 1) * (2 ^ n - (q + 1)) + 2 ^ i) = 2 ^ i := by
  have hb : 2 ^ i < 2 ^ (i + 1) := by rw [Nat.pow_succ]; have := Nat.two_pow_pos i; omega
  apply Nat.eq_of_testBit_eq
  intro j
  rw [Nat.testBit_and, Nat.testBit_two_pow_mul_add q hb, Nat.testBit_two_pow_mul_add _ hb]
  split
  · simp
  · rw [Nat.testBit_two_pow_sub_succ hq, Nat.testBit_two_pow]
    have : i ≠ j := by omega
    cases q.testBit (j - (i + 1)) <;> simp [this]

/-- the least bit -/
theorem low_bit (i : Nat) (hi : i < 8) (s : Int) (hs : 0 ≤ s ∧ s < 18446744073709551616) (h : s.toNat % 2 ^ (i + 1) = 2 ^ i) :
    bits .and .u64 s (IntKind.u64.wrap (-s)) = 2 ^ i := by
  obtain ⟨x, rfl⟩ := Int.eq_ofNat_of_zero_le hs.1
  have hx : x < 18446744073709551616 := by omega
  simp only [Int.toNat_natCast] at h
  have h0 : 0 < x := by
    rcases Nat.eq_zero_or_pos x with h0 | h0
    · subst h0; have := Nat.two_pow_pos i; simp at h; omega
    · exact h0
  have e : IntKind.u64.wrap (-(x : Int)) = ((18446744073709551616 - x : Nat) : Int) := by
    rw [IntKind.wrap_u64]; omega
  rw [e, u64_and_nat _ _ hx (by omega)]
  have hq := Nat.div_add_mod x (2 ^ (i + 1))
  rw [h] at hq
  generalize x / 2 ^ (i + 1) = q at hq
  have hp : 2 ^ (i + 1) * 2 ^ (63 - i) = 18446744073709551616 := by rw [← Nat.pow_add, show i + 1 + (63 - i) = 64 by omega]
  have hlt : q < 2 ^ (63 - i) := by
    rcases Nat.lt_or_ge q (2 ^ (63 - i)) with hl | hl
    · exact hl
    · have := Nat.mul_le_mul_left (2 ^ (i + 1)) hl; omega
  have key := low_nat i q (63 - i) hlt
  have e2 : 2 ^ (i + 1) * (2 ^ (63 - i) - (q + 1)) + 2 ^ i = 18446744073709551616 - x := by
    rw [Nat.mul_sub, hp, Nat.mul_add, Nat.mul_one]
    have h2 : 2 ^ (i + 1) = 2 * 2 ^ i := by rw [Nat.pow_succ]; omega
    have h3 : 2 ^ (i + 1) * q + 2 ^ (i + 1) ≤ 18446744073709551616 := by
      have := Nat.mul_le_mul_left (2 ^ (i + 1)) (show q + 1 ≤ 2 ^ (63 - i) by omega)
      rw [Nat.mul_add, Nat.mul_one] at this; omega
    omega
  rw [hq, e2] at key
  rw [key]
  norm_cast

/-- the least thread of a set; -1: none -/
def leastN (s : Int) : Int := match (List.range 8).find? (fun i => s.toNat.testBit i) with | some i => i | none => -1

theorem leastN_mod (s : Int) (hs : 0 ≤ s) : leastN s = leastN (s % 256) := by
  unfold leastN
  have h : ∀ i, i ∈ List.range 8 → (fun i => s.toNat.testBit i) i = (fun i => (s % 256).toNat.testBit i) i := by
    intro i hi
    have hi' : i < 8 := by simpa using hi
    have : (s % 256).toNat = s.toNat % 2 ^ 8 := by omega
    show s.toNat.testBit i = (s % 256).toNat.testBit i
    rw [this, Nat.testBit_mod_two_pow]
    simp [hi']
  have e : (List.range 8).find? (fun i => s.toNat.testBit i) = (List.range 8).find? (fun i => (s % 256).toNat.testBit i) := by
    generalize List.range 8 = l at h
    induction l with
    | nil => rfl
    | cons a l ih =>
      have ha : s.toNat.testBit a = (s % 256).toNat.testBit a := h a (by simp)
      simp only [List.find?_cons]
      rw [ha, ih (fun i hi => h i (by simp [hi]))]
  rw [e]

theorem leastN_fin : ∀ k : Fin 256, (k.val = 0 → leastN k.val = -1) ∧ (k.val ≠ 0 → ∃ i : Fin 8, leastN k.val = i.val ∧ k.val % 2 ^ (i.val + 1) = 2 ^ i.val) := by
  decide +kernel

theorem leastN_none (s : Int) (hs : 0 ≤ s) (h : s % 256 = 0) : leastN s = -1 := by
  rw [leastN_mod s hs, h]; decide

theorem leastN_some (s : Int) (hs : 0 ≤ s) (h : s % 256 ≠ 0) : ∃ i : Nat, i < 8 ∧ leastN s = i ∧ s.toNat % 2 ^ (i + 1) = 2 ^ i := by
  obtain ⟨_, h2⟩ := leastN_fin ⟨(s % 256).toNat, by omega⟩
  obtain ⟨i, h3, h4⟩ := h2 (by show (s % 256).toNat ≠ 0; omega)
  refine ⟨i.val, i.isLt, ?_, ?_⟩
  · rw [leastN_mod s hs]
    have : ((s % 256).toNat : Int) = s % 256 := by omega
    rw [← this]; exact h3
  · have h5 : (s % 256).toNat = s.toNat % 256 := by omega
    rw [← h4]
    show _ = (s % 256).toNat % _
    rw [h5]
    have hd : 2 ^ (i.val + 1) ∣ 256 := by
      rw [show 256 = 2 ^ 8 from rfl]; exact Nat.pow_dvd_pow 2 (by omega)
    rw [Nat.mod_mod_of_dvd _ hd]

/-- where the table is read -/
theorem tz_at (i : Nat) (hi : i < 8) : ∃ j : Nat, j < 64 ∧ IntKind.u64.wrap (2 ^ i * 285870213051353865) / 288230376151711744 = (j : Int) ∧ tzTab.getD j 0 = (i : Int) := by
  match i, hi with
  | 0, _ => exact ⟨0, by decide, by decide, by decide⟩
  | 1, _ => exact ⟨1, by decide, by decide, by decide⟩
  | 2, _ => exact ⟨3, by decide, by decide, by decide⟩
  | 3, _ => exact ⟨7, by decide, by decide, by decide⟩
  | 4, _ => exact ⟨15, by decide, by decide, by decide⟩
  | 5, _ => exact ⟨31, by decide, by decide, by decide⟩
  | 6, _ => exact ⟨63, by decide, by decide, by decide⟩
  | 7, _ => exact ⟨62, by decide, by decide, by decide⟩

set_option maxHeartbeats 400000 in
theorem tz64_any (s : Int) (i : Nat) (hi : i < 8) (w : World) (hs : 0 ≤ s ∧ s < 18446744073709551616) (h : s.toNat % 2 ^ (i + 1) = 2 ^ i) (hT : TabOK w) :
    Calls Tryd.prog 47 #[.int .u64 s] w fun e w' => e = .returned (.int .i64 i) ∧ w = w' := by
  have hl := low_bit i hi s hs h
  have h0 : (s == 0) = false := by
    rw [beq_eq_false_iff_ne]; intro e; subst e; have := Nat.two_pow_pos i; simp at h; omega
  obtain ⟨j, hj, e1, e2⟩ := tz_at i hi
  have hc := hT j hj
  rw [e2] at hc
  clear e2 hT h
  go_enter Tryd.func47, Tryd.ntmps47
  go_wp2
  go_ret
  exact ⟨rfl, rfl⟩

set_option maxHeartbeats 400000 in
theorem tz_any (s : Int) (i : Nat) (hi : i < 8) (w : World) (hs : 0 ≤ s ∧ s < 18446744073709551616) (h : s.toNat % 2 ^ (i + 1) = 2 ^ i) (hT : TabOK w) :
    Calls Tryd.prog 40 #[.int .u64 s] w fun e w' => e = .returned (.int .i64 i) ∧ w = w' := by
  have H := Lib.hid h
  clear h
  go_enter Tryd.func40, Tryd.ntmps40
  go_wp2_with (go_at_call 47; refine (tz64_any _ i hi _ hs H.out hT).mono ?_; rintro e w' ⟨rfl, rfl⟩)
  go_ret
  exact ⟨rfl, rfl⟩

set_option maxHeartbeats 400000 in
theorem least_any (s : Int) (w : World) (hs : 0 ≤ s ∧ s < 18446744073709551616) (hT : TabOK w) :
    Calls Tryd.prog 29 #[.int .u64 s] w fun e w' => e = .returned (.int .i64 (leastN s)) ∧ w = w' := by
  have h := and255 s hs
  by_cases h0 : s % 256 = 0
  · rw [leastN_none s hs.1 h0]
    rw [h0] at h
    clear h0 hT
    go_enter Tryd.func29, Tryd.ntmps29
    go_wp2
    go_ret
    exact ⟨rfl, rfl⟩
  · obtain ⟨i, hi, e, hm⟩ := leastN_some s hs.1 h0
    rw [e]
    have h1 : (s % 256 == 0) = false := by rw [beq_eq_false_iff_ne]; exact h0
    have H := Lib.hid hm
    clear h0 hm e
    go_enter Tryd.func29, Tryd.ntmps29
    go_wp2_with (go_at_call 40; refine (tz_any _ i hi _ hs H.out hT).mono ?_; rintro e w' ⟨rfl, rfl⟩)
    go_ret
    exact ⟨rfl, rfl⟩

theorem len_least_fin : ∀ k : Fin 256, (leastN k.val = -1 → (lenN k.val == 0) = true) ∧ (leastN k.val ≠ -1 → (lenN k.val == 0) = false) := by decide +kernel
theorem len_least (s : Int) (hs : 0 ≤ s) : (leastN s = -1 → (lenN (s % 256) == 0) = true) ∧ (leastN s ≠ -1 → (lenN (s % 256) == 0) = false) := by
  rw [leastN_mod s hs]
  have h := len_least_fin ⟨(s % 256).toNat, by omega⟩
  have e : (((s % 256).toNat : Nat) : Int) = s % 256 := by omega
  simp only [e] at h
  exact h

theorem andNot_bd (a b : Int) (ha : 0 ≤ a ∧ a < 18446744073709551616) (hb : 0 ≤ b ∧ b < 18446744073709551616) : 0 ≤ bits .andNot .u64 a b ∧ bits .andNot .u64 a b ≤ a := by
  rw [u64_andNot a b ha.1 ha.2 hb.1 hb.2]
  have := @Nat.and_le_left a.toNat (18446744073709551615 - b.toNat)
  omega
theorem or_bd (a b : Int) (ha : 0 ≤ a ∧ a < 256) (hb : 0 ≤ b ∧ b < 256) : 0 ≤ bits .or .u64 a b ∧ bits .or .u64 a b < 256 := by
  rw [u64_or a b ha.1 (by omega) hb.1 (by omega)]
  have : a.toNat ||| b.toNat < 2 ^ 8 := Nat.or_lt_two_pow (by omega) (by omega)
  omega
theorem put_bd (a t : Int) (ha : 0 ≤ a ∧ a < 256) : 0 ≤ putN a t ∧ putN a t < 256 := by
  have := oneN_bd t
  exact or_bd a _ ha (by omega)
end Go.Proofs.YtjfbiganijldfaaDoor
