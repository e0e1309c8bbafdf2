/- Contracts of small functions on slices of ints: Equal, less, IndexFunc and DeleteFunc at 'below 0', Repeat of one number. -/
import Derived.Test.YtjfbiganijldfaaDoorLib
namespace Go.Proofs.YtjfbiganijldfaaDoor
open Go.RowKit
set_option linter.unusedVariables false
set_option linter.unusedSimpArgs false
set_option linter.unnecessarySimpa false

/-- are two lists the same: by index -/
theorem list_eq_iff (xs ys : List Int) (hl : xs.length = ys.length) : (∀ i, i < xs.length → xs.getD i 0 = ys.getD i 0) ↔ xs = ys := by
  constructor
  · intro h
    refine List.ext_getElem hl fun i h1 h2 => ?_
    have := h i h1
    simpa [List.getD, h1, h2] using this
  · rintro rfl i _; rfl

set_option maxHeartbeats 400000 in
theorem equal_any (v u : Value) (xs ys : List Int) (w : World) (hx : IntsAt w v xs) (hy : IntsAt w u ys) (h1 : xs.length ≤ maxLen) (h2 : ys.length ≤ maxLen) :
    Calls Tryd.prog 11 #[v, u] w fun e w' => e = .returned (.bool (decide (xs = ys))) ∧ ∃ k, w' = w.drewN k := by
  obtain ⟨ad, cap, rfl, hx1, hx2⟩ := hx
  obtain ⟨ad', cap', rfl, hy1, hy2⟩ := hy
  unfold maxLen at h1 h2
  by_cases hl : xs.length = ys.length
  · have hb : ((xs.length : Int) != ys.length) = false := by rw [hl]; simp
    go_enter Tryd.func11, Tryd.ntmps11
    go_wp2
    go_loopw [5] (fun i wr => ∃ k c : Nat, k ≤ xs.length ∧ i = .int .i64 k ∧ wr = w.drewN c ∧ Hid (∀ j, j < k → xs.getD j 0 = ys.getD j 0)) (fun i _ => xs.length - (intOf i).toNat)
    case atStart => exact ⟨0, 0, Nat.zero_le _, rfl, rfl, fun j hj => absurd hj (Nat.not_lt_zero _)⟩
    case round =>
      obtain ⟨k, c, hk, rfl, rfl, hj⟩ := hrel
      by_cases hlt : k < xs.length
      · have i1 : (0 : Int) ≤ k := by omega
        have i2 : (k : Int) < (xs.length : Int) := by omega
        have i3 : (k : Int) < (ys.length : Int) := by omega
        obtain ⟨g, o, e⟩ : ∃ g o, ad = some ⟨g, o, none⟩ := by
          cases ad with
          | none => have := hx1 rfl; subst this; simp at hlt
          | some a => obtain ⟨g, o, s⟩ := a; have := (hx2 g o s rfl).1; subst this; exact ⟨g, o, rfl⟩
        obtain ⟨g', o', e'⟩ : ∃ g o, ad' = some ⟨g, o, none⟩ := by
          cases ad' with
          | none => have := hy1 rfl; subst this; simp at hl; subst hl; simp at hlt
          | some a => obtain ⟨g, o, s⟩ := a; have := (hy2 g o s rfl).1; subst this; exact ⟨g, o, rfl⟩
        have c1 := (hx2 g o none e).2 k hlt
        have c2 := (hy2 g' o' none e').2 k (by omega)
        subst e e'
        obtain ⟨x, ex⟩ : ∃ x, x = xs.getD k 0 := ⟨_, rfl⟩
        obtain ⟨y, ey⟩ : ∃ y, y = ys.getD k 0 := ⟨_, rfl⟩
        rw [← ex] at c1
        rw [← ey] at c2
        by_cases hE : x = y
        · have hE' : (y != y) = false := by simp
          have HS := Lib.hid (show xs.getD k 0 = ys.getD k 0 by rw [← ex, ← ey, hE])
          subst hE
          clear ex ey hx1 hx2 hy1 hy2 hl
          go_wp2
          go_quiet (fail)
          go_wp2
          go_roundw
          case rel => exact ⟨k + 1, _, by omega, by go_num, rfl, fun j hj' => by
            rcases Nat.lt_succ_iff_lt_or_eq.1 hj' with h | rfl
            · exact hj.out j h
            · exact HS.out⟩
          case measure => simp [intOf]; omega
        · have hE' : (x != y) = true := by rw [bne_iff_ne]; exact hE
          have HF := Lib.hid (decide_eq_false (p := xs = ys) (fun e => hE (by rw [ex, ey, e])))
          clear ex ey hE hx1 hx2 hy1 hy2 hl
          go_wp2
          go_quiet (fail)
          go_wp2
          go_ret
          exact ⟨by rw [HF.out]; rfl, _, by first | rfl | exact World.drewN_drewN .. | rw [World.drewN_drewN, World.drewN_drewN]⟩
      · have hkn : k = xs.length := by omega
        subst hkn
        have HF := Lib.hid (decide_eq_true ((list_eq_iff xs ys hl).1 hj.out))
        clear hx1 hx2 hy1 hy2 hlt
        go_wp2
        go_ret
        exact ⟨by rw [HF.out]; rfl, _, rfl⟩
  · have hb : ((xs.length : Int) != ys.length) = true := by rw [bne_iff_ne]; omega
    rw [decide_eq_false (fun e => hl (by rw [e]))]
    go_enter Tryd.func11, Tryd.ntmps11
    go_wp2
    go_ret
    exact ⟨rfl, 0, rfl⟩

/-- less at the first place in which they differ -/
def lessN : List Int → List Int → Bool
  | x :: xs, y :: ys => if x = y then lessN xs ys else decide (x < y)
  | _, _ => false
theorem lessN_drop (xs ys : List Int) (k : Nat) (hl : xs.length = ys.length) (hk : k ≤ xs.length) (h : ∀ j, j < k → xs.getD j 0 = ys.getD j 0) : lessN xs ys = lessN (xs.drop k) (ys.drop k) := by
  induction k generalizing xs ys with
  | zero => rfl
  | succ k ih =>
    match xs, ys, hl, hk with
    | x :: xs, y :: ys, hl, hk =>
      have h0 : x = y := h 0 (by omega)
      rw [lessN, if_pos h0, List.drop_succ_cons, List.drop_succ_cons]
      exact ih xs ys (by simpa using hl) (by simpa using hk) (fun j hj => by simpa using h (j + 1) (by omega))
theorem lessN_at (xs ys : List Int) (k : Nat) (hl : xs.length = ys.length) (hk : k < xs.length) (h : ∀ j, j < k → xs.getD j 0 = ys.getD j 0) (hn : xs.getD k 0 ≠ ys.getD k 0) : lessN xs ys = decide (xs.getD k 0 < ys.getD k 0) := by
  rw [lessN_drop xs ys k hl (by omega) h, List.drop_eq_getElem_cons hk, List.drop_eq_getElem_cons (by omega : k < ys.length), lessN]
  have e1 : xs[k] = xs.getD k 0 := by simp [List.getD, hk]
  have e2 : ys[k] = ys.getD k 0 := by simp [List.getD, show k < ys.length by omega]
  rw [e1, e2, if_neg hn]
theorem lessN_same (xs : List Int) : lessN xs xs = false := by
  induction xs with
  | nil => rfl
  | cons x xs ih => rw [lessN, if_pos rfl, ih]

set_option maxHeartbeats 400000 in
theorem less_any (v u : Value) (xs ys : List Int) (w : World) (hx : IntsAt w v xs) (hy : IntsAt w u ys) (h1 : xs.length ≤ maxLen) (hl : xs.length = ys.length) :
    Calls Tryd.prog 13 #[v, u] w fun e w' => e = .returned (.bool (lessN xs ys)) ∧ ∃ k, w' = w.drewN k := by
  obtain ⟨ad, cap, rfl, hx1, hx2⟩ := hx
  obtain ⟨ad', cap', rfl, hy1, hy2⟩ := hy
  have h2 : ys.length ≤ maxLen := by omega
  unfold maxLen at h1 h2
  go_enter Tryd.func13, Tryd.ntmps13
  go_wp2
  go_loopw [5] (fun i wr => ∃ k c : Nat, k ≤ xs.length ∧ i = .int .i64 k ∧ wr = w.drewN c ∧ Hid (∀ j, j < k → xs.getD j 0 = ys.getD j 0)) (fun i _ => xs.length - (intOf i).toNat)
  case atStart => exact ⟨0, 0, Nat.zero_le _, rfl, rfl, fun j hj => absurd hj (Nat.not_lt_zero _)⟩
  case round =>
    obtain ⟨k, c, hk, rfl, rfl, hj⟩ := hrel
    by_cases hlt : k < xs.length
    · have i1 : (0 : Int) ≤ k := by omega
      have i2 : (k : Int) < (xs.length : Int) := by omega
      have i3 : (k : Int) < (ys.length : Int) := by omega
      obtain ⟨g, o, e⟩ : ∃ g o, ad = some ⟨g, o, none⟩ := by
        cases ad with
        | none => have := hx1 rfl; subst this; simp at hlt
        | some a => obtain ⟨g, o, s⟩ := a; have := (hx2 g o s rfl).1; subst this; exact ⟨g, o, rfl⟩
      obtain ⟨g', o', e'⟩ : ∃ g o, ad' = some ⟨g, o, none⟩ := by
        cases ad' with
        | none => have := hy1 rfl; subst this; simp at hl; subst hl; simp at hlt
        | some a => obtain ⟨g, o, s⟩ := a; have := (hy2 g o s rfl).1; subst this; exact ⟨g, o, rfl⟩
      have c1 := (hx2 g o none e).2 k hlt
      have c2 := (hy2 g' o' none e').2 k (by omega)
      subst e e'
      obtain ⟨x, ex⟩ : ∃ x, x = xs.getD k 0 := ⟨_, rfl⟩
      obtain ⟨y, ey⟩ : ∃ y, y = ys.getD k 0 := ⟨_, rfl⟩
      rw [← ex] at c1
      rw [← ey] at c2
      by_cases hE : x = y
      · have hE' : (y != y) = false := by simp
        have HS := Lib.hid (show xs.getD k 0 = ys.getD k 0 by rw [← ex, ← ey, hE])
        subst hE
        clear ex ey hx1 hx2 hy1 hy2 hl
        go_wp2
        go_quiet (fail)
        go_wp2
        go_roundw
        case rel => exact ⟨k + 1, _, by omega, by go_num, rfl, fun j hj' => by
          rcases Nat.lt_succ_iff_lt_or_eq.1 hj' with h | rfl
          · exact hj.out j h
          · exact HS.out⟩
        case measure => simp [intOf]; omega
      · have hE' : (x != y) = true := by rw [bne_iff_ne]; exact hE
        have HF := Lib.hid (lessN_at xs ys k hl hlt hj.out (by rw [← ex, ← ey]; exact hE))
        rw [← ex, ← ey] at HF
        clear ex ey hE hx1 hx2 hy1 hy2 hl
        go_wp2
        go_quiet (fail)
        go_wp2
        go_quiet (fail)
        go_wp2
        go_ret
        exact ⟨by rw [HF.out]; rfl, _, by first | rfl | exact World.drewN_drewN .. | rw [World.drewN_drewN, World.drewN_drewN]⟩
    · have hkn : k = xs.length := by omega
      subst hkn
      have HF := Lib.hid (show lessN xs ys = false by rw [(list_eq_iff xs ys hl).1 hj.out]; exact lessN_same ys)
      clear hx1 hx2 hy1 hy2 hlt
      go_wp2
      go_ret
      exact ⟨by rw [HF.out]; rfl, _, rfl⟩

/-- the first number below 0; -1: there is none -/
def negAt (xs : List Int) : Int := match xs.findIdx? (fun t => decide (t < 0)) with | some i => i | none => -1

set_option maxHeartbeats 400000 in
theorem neg_any (t : Int) (w : World) : Calls Tryd.prog 24 #[.int .i64 t] w fun e w' => e = .returned (.bool (decide (t < 0))) ∧ w = w' := by
  go_enter Tryd.func24, Tryd.ntmps24
  go_wp2
  go_ret
  exact ⟨rfl, rfl⟩

set_option maxHeartbeats 400000 in
theorem indexNeg_any (v : Value) (xs : List Int) (m : Int) (w : World) (hx : IntsAt w v xs) (h1 : xs.length ≤ maxLen)
    (hm : (m = -1 ∧ ∀ j, j < xs.length → 0 ≤ xs.getD j 0) ∨ (∃ i : Nat, m = i ∧ i < xs.length ∧ xs.getD i 0 < 0 ∧ ∀ j, j < i → 0 ≤ xs.getD j 0)) :
    Calls Tryd.prog 36 #[v, .func (.func 24) #[] #[]] w fun e w' => e = .returned (.int .i64 m) ∧ w = w' := by
  obtain ⟨ad, cap, rfl, hx1, hx2⟩ := hx
  unfold maxLen at h1
  have HM := Lib.hid hm
  clear hm
  go_enter Tryd.func36, Tryd.ntmps36
  go_wp2
  go_loop [8] (fun i => ∃ k : Nat, k ≤ xs.length ∧ i = .int .i64 k ∧ Hid (∀ j, j < k → 0 ≤ xs.getD j 0)) (fun i => xs.length - (intOf i).toNat)
  case atStart => exact ⟨0, Nat.zero_le _, rfl, fun j hj => absurd hj (Nat.not_lt_zero _)⟩
  case round =>
    obtain ⟨k, hk, rfl, hj⟩ := hrel
    by_cases hlt : k < xs.length
    · have i1 : (0 : Int) ≤ k := by omega
      have i2 : (k : Int) < (xs.length : Int) := by omega
      obtain ⟨g, o, e⟩ : ∃ g o, ad = some ⟨g, o, none⟩ := by
        cases ad with
        | none => have := hx1 rfl; subst this; simp at hlt
        | some a => obtain ⟨g, o, s⟩ := a; have := (hx2 g o s rfl).1; subst this; exact ⟨g, o, rfl⟩
      have c1 := (hx2 g o none e).2 k hlt
      subst e
      obtain ⟨x, ex⟩ : ∃ x, x = xs.getD k 0 := ⟨_, rfl⟩
      rw [← ex] at c1
      by_cases hE : x < 0
      · have hE' : decide (x < 0) = true := by simpa using hE
        have HF : Hid (m = (k : Int)) := by
          rcases HM.out with ⟨_, h⟩ | ⟨i, e, hi, h2, h3⟩
          · have := h k hlt; omega
          · rcases Nat.lt_trichotomy i k with h | h | h
            · have := hj.out i h; omega
            · show m = (k : Int); rw [e, h]
            · have := h3 k h; omega
        clear hx1 hx2 HM hE ex
        go_wp2_with (go_at_call 24; refine (neg_any _ _).mono ?_; rintro e w' ⟨rfl, rfl⟩)
        go_ret
        exact ⟨by rw [HF.out]; rfl, rfl⟩
      · have hE' : decide (x < 0) = false := by simpa using hE
        have HS := Lib.hid (show 0 ≤ xs.getD k 0 by omega)
        clear hx1 hx2 hE ex
        go_wp2_with (go_at_call 24; refine (neg_any _ _).mono ?_; rintro e w' ⟨rfl, rfl⟩)
        go_round
        case rel => exact ⟨k + 1, by omega, by go_num, fun j hj' => by
          rcases Nat.lt_succ_iff_lt_or_eq.1 hj' with h | rfl
          · exact hj.out j h
          · exact HS.out⟩
        case measure => simp [intOf]; omega
    · have hkn : k = xs.length := by omega
      subst hkn
      have HF : Hid (m = -1) := by
        rcases HM.out with ⟨e, _⟩ | ⟨i, e, hi, h2, h3⟩
        · exact e
        · have := hj.out i hi; omega
      clear hx1 hx2 hlt HM
      go_wp2
      go_ret
      exact ⟨by rw [HF.out]; rfl, rfl⟩

/-- clear of one number -/
theorem run_clear_one (g o c : Nat) (t : Value) (w : World) (h : w.cell? ⟨g, o, none⟩ = some t) (hf : w.frozen? ⟨g, o, none⟩ = false) :
    (Builtin.clear_ #[32] 0 #[.slice (some ⟨g, o, none⟩) 1 c]).run Tryd.prog w = .ok (.tuple #[]) (w.setCell ⟨g, o, none⟩ (.int .i64 0)) := by
  have hz : (zeroValue 3).run Tryd.prog w = .ok (.int .i64 0) w := by kernel_rfl
  simp [Builtin.clear_, hz, Builtin.zeroCells, go_sem, Tryd.underlying32, h, hf]

/-- DeleteFunc at 'below 0', where there is no such number -/
theorem deleteNeg_none (v : Value) (xs : List Int) (w : World) (hx : IntsAt w v xs) (h1 : xs.length ≤ maxLen) (h : ∀ j, j < xs.length → 0 ≤ xs.getD j 0) :
    Calls Tryd.prog 23 #[v, .func (.func 24) #[] #[]] w fun e w' => e = .returned v ∧ w = w' := by
  have HI := Lib.hid (indexNeg_any v xs (-1) w hx h1 (.inl ⟨rfl, h⟩))
  clear hx h
  go_enter Tryd.func23, Tryd.ntmps23
  go_wp2_with (go_at_call 36; refine HI.out.mono ?_; rintro e w' ⟨rfl, rfl⟩)
  go_ret
  exact ⟨rfl, rfl⟩

set_option maxHeartbeats 400000 in
/-- .. where the last one alone is -/
theorem deleteNeg_last (g cap n : Nat) (t : Int) (xs : List Int) (w : World) (hn : xs.length = n) (hcap : n + 1 ≤ cap) (hc : cap ≤ maxLen) (hx : IntsAt w (.slice (some ⟨g, 0, none⟩) (n + 1) cap) (xs ++ [t])) (h : ∀ j, j < n → 0 ≤ xs.getD j 0) (ht : t < 0)
    (hf : w.frozen? ⟨g, n, none⟩ = false) :
    Calls Tryd.prog 23 #[.slice (some ⟨g, 0, none⟩) (n + 1) cap, .func (.func 24) #[] #[]] w fun e w' => e = .returned (.slice (some ⟨g, 0, none⟩) n cap) ∧ w' = w.setCell ⟨g, n, none⟩ (.int .i64 0) := by
  subst hn
  unfold maxLen at hc
  have hl : xs.length + 1 ≤ maxLen := by unfold maxLen; omega
  have HI := Lib.hid (indexNeg_any (.slice (some ⟨g, 0, none⟩) (xs.length + 1) cap) (xs ++ [t]) (xs.length : Int) w hx (by simpa using hl) (.inr ⟨xs.length, rfl, by simp, by simpa using ht, fun j hj => by have := h j hj; simpa [List.getD, List.getElem?_append_left hj] using this⟩))
  have hcell : w.cell? ⟨g, xs.length, none⟩ = some (.int .i64 t) := by
    obtain ⟨ad, cap', e, _, h2⟩ := hx
    simp at e
    have := (h2 g 0 none e.1.symm).2 xs.length (by simp)
    simpa using this
  have e1 : ((xs.length : Int) == -1) = false := by rw [beq_eq_false_iff_ne]; omega
  have hcl := fun c => run_clear_one g xs.length c _ w hcell hf
  clear hx h ht
  go_enter Tryd.func23, Tryd.ntmps23
  go_wp2_with (go_at_call 36; refine HI.out.mono ?_; rintro e w' ⟨rfl, rfl⟩)
  refine wp_loop_once ?_
  go_wp2
  go_ret
  exact ⟨rfl, rfl⟩
end Go.Proofs.YtjfbiganijldfaaDoor
