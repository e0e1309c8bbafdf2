/- Layer 7's numbers: which is greater? -/
import Derived.Test.YtbkkpcignmcjnaaGreatDoorP22
import Derived.BigQuiet
import Derived.Test.YtbkkpcignmcjnaaGreatDoorP03
namespace Go.Proofs.YtbkkpcignmcjnaaGreatDoor
open Go.RowKit
set_option linter.unusedVariables false
set_option linter.unusedSimpArgs false
set_option linter.unnecessarySimpa false

set_option maxRecDepth 8000 in
theorem above_any (x y : Nat) (w : World) (F : Nat → Prop) (xa ya : Option Addr) (xc yc : Nat) (hx : DigAt w F 1000000000 x xa) (hy : DigAt w F 1000000000 y ya) (lx : (dig 1000000000 x).length ≤ 100000000000) (ly : (dig 1000000000 y).length ≤ 100000000000) :
    Calls Tryz.prog 24 #[.slice xa (dig 1000000000 x).length xc, .slice ya (dig 1000000000 y).length yc] w fun e w' => e = .returned (.bool (decide (y < x))) ∧ w = w' := by
  have HX := Lib.hid hx
  have HY := Lib.hid hy
  obtain ⟨p, hp⟩ : ∃ p, p = (dig 1000000000 x).length := ⟨_, rfl⟩
  obtain ⟨q, hq⟩ : ∃ q, q = (dig 1000000000 y).length := ⟨_, rfl⟩
  have HPQ : Hid (p = (dig 1000000000 x).length ∧ q = (dig 1000000000 y).length) := ⟨hp, hq⟩
  obtain ⟨L, hL⟩ : ∃ L, L = max p q := ⟨_, rfl⟩
  have hmx : max (p : Int) (q : Int) = (L : Int) := by omega
  have H0 : Hid (x / 1000000000 ^ L = y / 1000000000 ^ L) := by
    show _ = _
    have h1 : x < 1000000000 ^ L := Nat.lt_of_not_le fun e => by have := (dig_len_lt (by decide) L x).2 e; omega
    have h2 : y < 1000000000 ^ L := Nat.lt_of_not_le fun e => by have := (dig_len_lt (by decide) L y).2 e; omega
    rw [Nat.div_eq_of_lt h1, Nat.div_eq_of_lt h2]
  obtain ⟨r, hr⟩ : ∃ r, r = decide (y < x) := ⟨_, rfl⟩
  have HR := Lib.hid hr
  rw [← hr]
  rw [← hp] at lx ⊢
  rw [← hq] at ly ⊢
  have hL9 : L ≤ 100000000000 := by omega
  clear hx hy hp hq hL hr
  go_enter Tryz.func24, Tryz.ntmps24
  go_wp2_with fail
  go_loopw [5] (fun iv wr => ∃ (j : Nat) (z : Int), j ≤ L ∧ iv = .int .i64 z ∧ z = (j : Int) - 1 ∧ wr = w ∧ Hid (x / 1000000000 ^ j = y / 1000000000 ^ j)) (fun iv _ => (intOf iv + 1).toNat)
  case atStart => exact ⟨L, _, Nat.le_refl _, rfl, rfl, rfl, H0⟩
  case round =>
    obtain ⟨j, z, hj, rfl, hz, rfl, HE⟩ := hrel
    cases j with
    | zero =>
      obtain rfl : z = -1 := by omega
      clear hz
      obtain rfl : r = false := by
        have h := HE.out
        rw [Nat.pow_zero, Nat.div_one, Nat.div_one] at h
        rw [HR.out, h]; simp
      clear HR
      go_wp2_with fail
      go_ret
      exact ⟨rfl, rfl⟩
    | succ m =>
      obtain rfl : z = (m : Int) := by omega
      clear hz
      have i0 : (0 : Int) ≤ m := by omega
      have HDG : Hid (∀ W s z, (s = .slice xa p xc ∧ z = x / 1000000000 ^ m % 1000000000 ∨ s = .slice ya q yc ∧ z = y / 1000000000 ^ m % 1000000000) → W = wr → Calls Tryz.prog 42 #[s, .int .i64 m] W fun e w' => e = .returned (.int .i64 (z : Nat)) ∧ W = w') := fun W s z h hW => by
        subst hW
        rcases h with ⟨rfl, rfl⟩ | ⟨rfl, rfl⟩
        · rw [HPQ.out.1]; exact digit_any 1000000000 (by decide) x m _ F xa xc HX.out
        · rw [HPQ.out.2]; exact digit_any 1000000000 (by decide) y m _ F ya yc HY.out
      have hc1 := cmp_digit (b := 1000000000) (by decide) HE.out
      have hc2 := cmp_digit (b := 1000000000) (by decide) HE.out.symm
      generalize x / 1000000000 ^ m % 1000000000 = d1 at HDG hc1 hc2
      generalize y / 1000000000 ^ m % 1000000000 = d2 at HDG hc1 hc2
      rcases Nat.lt_trichotomy d1 d2 with h | h | h
      · have hb : ((d1 : Int) != (d2 : Int)) = true := by rw [bne_iff_ne]; omega
        have hn : ¬ (d1 : Int) = d2 := by omega
        have hl : ¬ (d2 : Int) < d1 := by omega
        have h1 := hc1.2 h
        obtain rfl : r = false := by rw [HR.out]; simp; omega
        clear hc1 hc2 h1 HR
        go_wp2_with (go_at_call 42; refine (HDG.out _ _ _ (by first | exact .inl ⟨rfl, rfl⟩ | exact .inr ⟨rfl, rfl⟩) rfl).mono ?_; rintro e w2 ⟨rfl, rfl⟩)
        go_ret
        exact ⟨by first | rfl | (simp; done) | (simp; omega), rfl⟩
      · subst h
        have hb : ((d1 : Int) != (d1 : Int)) = false := by simp
        have HN : Hid (x / 1000000000 ^ m = y / 1000000000 ^ m) := hc1.1 rfl
        clear hc1 hc2
        go_wp2_with (go_at_call 42; refine (HDG.out _ _ _ (by first | exact .inl ⟨rfl, rfl⟩ | exact .inr ⟨rfl, rfl⟩) rfl).mono ?_; rintro e w2 ⟨rfl, rfl⟩)
        go_roundw
        case rel => exact ⟨m, _, by omega, rfl, by omega, by first | rfl | trivial, HN⟩
        case measure => (try simp [intOf]) <;> (try omega)
      · have hb : ((d1 : Int) != (d2 : Int)) = true := by rw [bne_iff_ne]; omega
        have hn : ¬ (d1 : Int) = d2 := by omega
        have hl : (d2 : Int) < d1 := by omega
        have h1 := hc2.2 h
        obtain rfl : r = true := by rw [HR.out]; simp; omega
        clear hc1 hc2 h1 HR
        go_wp2_with (go_at_call 42; refine (HDG.out _ _ _ (by first | exact .inl ⟨rfl, rfl⟩ | exact .inr ⟨rfl, rfl⟩) rfl).mono ?_; rintro e w2 ⟨rfl, rfl⟩)
        go_ret
        exact ⟨by first | rfl | (simp; done) | (simp; omega), rfl⟩
theorem greater_any (x y : Nat) (w : World) (F : Nat → Prop) (xa ya : Option Addr) (xc yc : Nat) (hx : DigAt w F 1000000000 x xa) (hy : DigAt w F 1000000000 y ya) (lx : (dig 1000000000 x).length ≤ 100000000000) (ly : (dig 1000000000 y).length ≤ 100000000000) :
    Calls Tryz.prog 53 #[.slice xa (dig 1000000000 x).length xc, .slice ya (dig 1000000000 y).length yc] w fun e w' => (∃ ad cap, e = .returned (.slice ad (dig 1000000000 (max x y)).length cap) ∧ DigAt w' F 1000000000 (max x y) ad) ∧ w = w' := by
  have HA : Hid (∀ W, W = w → Calls Tryz.prog 24 #[.slice ya (dig 1000000000 y).length yc, .slice xa (dig 1000000000 x).length xc] W fun e w' => e = .returned (.bool (decide (x < y))) ∧ W = w') := fun W e => by rw [e]; exact above_any y x w F ya xa yc xc hy hx ly lx
  have HX := Lib.hid hx
  have HY := Lib.hid hy
  by_cases h : x < y
  · have e : max x y = y := by omega
    rw [e]
    rw [decide_eq_true h] at HA
    generalize (dig 1000000000 x).length = p at HA ⊢
    obtain ⟨q, hq⟩ : ∃ q, q = (dig 1000000000 y).length := ⟨_, rfl⟩
    rw [← hq] at HA ⊢
    clear hx hy lx ly hq
    go_enter Tryz.func53, Tryz.ntmps53
    go_wp2_with (go_at_call 24; refine (HA.out _ rfl).mono ?_; rintro e w2 ⟨rfl, rfl⟩)
    go_ret
    exact ⟨⟨_, _, rfl, HY.out⟩, rfl⟩
  · have e : max x y = x := by omega
    rw [e]
    rw [decide_eq_false h] at HA
    generalize (dig 1000000000 y).length = q at HA ⊢
    obtain ⟨p, hp⟩ : ∃ p, p = (dig 1000000000 x).length := ⟨_, rfl⟩
    rw [← hp] at HA ⊢
    clear hx hy lx ly hp
    go_enter Tryz.func53, Tryz.ntmps53
    go_wp2_with (go_at_call 24; refine (HA.out _ rfl).mono ?_; rintro e w2 ⟨rfl, rfl⟩)
    go_ret
    exact ⟨⟨_, _, rfl, HX.out⟩, rfl⟩
theorem dig_mono {b x y : Nat} (hb : 2 ≤ b) (h : x ≤ y) : (dig b x).length ≤ (dig b y).length := by
  rcases Nat.lt_or_ge (dig b y).length (dig b x).length with h1 | h1
  · have h2 := (dig_len_lt hb _ x).1 h1
    have h3 := (dig_len_lt hb _ y).2 (Nat.le_trans h2 h)
    omega
  · exact h1
set_option maxRecDepth 8000 in
theorem less_any (x y : Nat) (w : World) (F : Nat → Prop) (xa ya : Option Addr) (xc yc : Nat) (hx : DigAt w F 10 x xa) (hy : DigAt w F 10 y ya) (lx : (dig 10 x).length ≤ 100000000000) (ly : (dig 10 y).length ≤ 100000000000) :
    Calls Tryz.prog 22 #[.slice xa (dig 10 x).length xc, .slice ya (dig 10 y).length yc] w fun e w' => e = .returned (.bool (decide (x < y))) ∧ Keeps NoBlk w w' := by
  have HX := Lib.hid hx
  have HY := Lib.hid hy
  obtain ⟨p, hp⟩ : ∃ p, p = (dig 10 x).length := ⟨_, rfl⟩
  obtain ⟨q, hq⟩ : ∃ q, q = (dig 10 y).length := ⟨_, rfl⟩
  have HPQ : Hid (p = (dig 10 x).length ∧ q = (dig 10 y).length) := ⟨hp, hq⟩
  have H0 : Hid (p = q → x / 10 ^ p = y / 10 ^ p) := fun e => by
    have h1 : x < 10 ^ p := Nat.lt_of_not_le fun e => by have := (dig_len_lt (by decide) p x).2 e; omega
    have h2 : y < 10 ^ p := Nat.lt_of_not_le fun e => by have := (dig_len_lt (by decide) p y).2 e; omega
    rw [Nat.div_eq_of_lt h1, Nat.div_eq_of_lt h2]
  have hm1 := dig_mono (b := 10) (x := x) (y := y) (by decide)
  have hm2 := dig_mono (b := 10) (x := y) (y := x) (by decide)
  rw [← hp, ← hq] at hm1 hm2
  obtain ⟨r, hr⟩ : ∃ r, r = decide (x < y) := ⟨_, rfl⟩
  have HR := Lib.hid hr
  rw [← hr]
  rw [← hp] at lx ⊢
  rw [← hq] at ly ⊢
  clear hx hy hp hq hr
  rcases Nat.lt_trichotomy p q with h | h | h
  · have hb : ((p : Int) != (q : Int)) = true := by rw [bne_iff_ne]; omega
    have hl : (p : Int) < q := by omega
    obtain rfl : r = true := by rw [HR.out]; simp; omega
    clear HR hm1 hm2
    go_enter Tryz.func22, Tryz.ntmps22
    go_wp2_with fail
    go_ret
    exact ⟨by first | rfl | (simp; done) | (simp; omega), Keeps.refl _ _⟩
  · subst h
    have hb : ((p : Int) != (p : Int)) = false := by simp
    have HE0 := Lib.hid (H0.out rfl)
    clear hm1 hm2 H0
    go_enter Tryz.func22, Tryz.ntmps22
    go_wp2_with fail
    go_loopw [5] (fun iv wr => ∃ (j : Nat) (z : Int), j ≤ p ∧ iv = .int .i64 z ∧ z = (j : Int) - 1 ∧ Hid (Keeps NoBlk w wr) ∧ Hid (x / 10 ^ j = y / 10 ^ j)) (fun iv _ => (intOf iv + 1).toNat)
    case atStart => exact ⟨p, _, Nat.le_refl _, rfl, rfl, Keeps.refl _ _, HE0⟩
    case round =>
      obtain ⟨j, z, hj, rfl, hz, HK, HE⟩ := hrel
      cases j with
      | zero =>
        obtain rfl : z = -1 := by omega
        clear hz
        obtain rfl : r = false := by
          have h := HE.out
          rw [Nat.pow_zero, Nat.div_one, Nat.div_one] at h
          rw [HR.out, h]; simp
        clear HR
        go_wp2_with fail
        go_ret
        exact ⟨rfl, HK.out⟩
      | succ m =>
        obtain rfl : z = (m : Int) := by omega
        clear hz
        have i0 : (0 : Int) ≤ m := by omega
        have i1 : (m : Int) < p := by omega
        obtain ⟨g, o, e1, hg, c1⟩ := (HX.out.keeps HK.out (fun _ _ h => h)) m (by have := HPQ.out.1; omega)
        obtain ⟨g2, o2, e2, hg2, c2⟩ := (HY.out.keeps HK.out (fun _ _ h => h)) m (by have := HPQ.out.2; omega)
        have hc1 := cmp_digit (b := 10) (by decide) HE.out
        have hc2 := cmp_digit (b := 10) (by decide) HE.out.symm
        generalize x / 10 ^ m % 10 = d1 at c1 hc1 hc2
        generalize y / 10 ^ m % 10 = d2 at c2 hc1 hc2
        have HKK := HK
        subst e1 e2
        clear hg hg2
        rcases Nat.lt_trichotomy d1 d2 with h | h | h
        · have hb : ((d1 : Int) != (d2 : Int)) = true := by rw [bne_iff_ne]; omega
          have hn : ¬ (d1 : Int) = d2 := by omega
          have hl : (d1 : Int) < d2 := by omega
          have h1 := hc1.2 h
          obtain rfl : r = true := by rw [HR.out]; simp; omega
          clear hc1 hc2 h1 HR
          go_wp2_with fail
          go_quiet (fail)
          go_wp2_with fail
          go_quiet (fail)
          go_wp2_with fail
          go_ret
          exact ⟨by first | rfl | (simp; done) | (simp; omega), by first | exact (HK.out.drewN _) | exact (HK.out.drewN _).drewN _⟩
        · subst h
          have hb : ((d1 : Int) != (d1 : Int)) = false := by simp
          have HN : Hid (x / 10 ^ m = y / 10 ^ m) := hc1.1 rfl
          clear hc1 hc2
          go_wp2_with fail
          go_quiet (fail)
          go_wp2_with fail
          go_roundw
          case rel => exact ⟨m, _, by omega, rfl, by omega, HK.out.drewN _, HN⟩
          case measure => (try simp [intOf]) <;> (try omega)
        · have hb : ((d1 : Int) != (d2 : Int)) = true := by rw [bne_iff_ne]; omega
          have hn : ¬ (d1 : Int) = d2 := by omega
          have hl : ¬ (d1 : Int) < d2 := by omega
          have h1 := hc2.2 h
          obtain rfl : r = false := by rw [HR.out]; simp; omega
          clear hc1 hc2 h1 HR
          go_wp2_with fail
          go_quiet (fail)
          go_wp2_with fail
          go_quiet (fail)
          go_wp2_with fail
          go_ret
          exact ⟨by first | rfl | (simp; done) | (simp; omega), by first | exact (HK.out.drewN _) | exact (HK.out.drewN _).drewN _⟩
  · have hb : ((p : Int) != (q : Int)) = true := by rw [bne_iff_ne]; omega
    have hl : ¬ (p : Int) < q := by omega
    obtain rfl : r = false := by rw [HR.out]; simp; omega
    clear HR hm1 hm2
    go_enter Tryz.func22, Tryz.ntmps22
    go_wp2_with fail
    go_ret
    exact ⟨by first | rfl | (simp; done) | (simp; omega), Keeps.refl _ _⟩
theorem rgreater_any (x y : Nat) (w : World) (F : Nat → Prop) (xa ya : Option Addr) (xc yc : Nat) (hx : DigAt w F 10 x xa) (hy : DigAt w F 10 y ya) (lx : (dig 10 x).length ≤ 100000000000) (ly : (dig 10 y).length ≤ 100000000000) :
    Calls Tryz.prog 62 #[.slice xa (dig 10 x).length xc, .slice ya (dig 10 y).length yc] w fun e w' => ∃ ad cap, e = .returned (.slice ad (dig 10 (max x y)).length cap) ∧ DigAt w' F 10 (max x y) ad ∧ Keeps NoBlk w w' := by
  have HA : Hid (∀ W, W = w → Calls Tryz.prog 22 #[.slice xa (dig 10 x).length xc, .slice ya (dig 10 y).length yc] W fun e w' => e = .returned (.bool (decide (x < y))) ∧ Keeps NoBlk W w') := fun W e => by rw [e]; exact less_any x y w F xa ya xc yc hx hy lx ly
  have HX := Lib.hid hx
  have HY := Lib.hid hy
  obtain ⟨p, hp⟩ : ∃ q, q = (dig 10 x).length := ⟨_, rfl⟩
  obtain ⟨q, hq⟩ : ∃ q, q = (dig 10 y).length := ⟨_, rfl⟩
  by_cases h : x < y
  · have e : max x y = y := by omega
    rw [e]
    rw [decide_eq_true h] at HA
    rw [← hp, ← hq] at HA ⊢
    clear hx hy lx ly hq hp
    go_enter Tryz.func62, Tryz.ntmps62
    go_wp2_with (go_at_call 22; refine (HA.out _ rfl).mono ?_; rintro e w2 ⟨rfl, g2⟩; have G2 := Lib.hid g2; clear g2)
    go_ret
    first
      | exact ⟨_, _, rfl, HY.out.keeps G2.out (fun _ _ h => h), G2.out⟩
      | exact ⟨_, ⟨_, rfl⟩, HY.out.keeps G2.out (fun _ _ h => h), G2.out⟩
      | exact ⟨HY.out.keeps G2.out (fun _ _ h => h), G2.out⟩
  · have e : max x y = x := by omega
    rw [e]
    rw [decide_eq_false h] at HA
    rw [← hp, ← hq] at HA ⊢
    clear hx hy lx ly hp hq
    go_enter Tryz.func62, Tryz.ntmps62
    go_wp2_with (go_at_call 22; refine (HA.out _ rfl).mono ?_; rintro e w2 ⟨rfl, g2⟩; have G2 := Lib.hid g2; clear g2)
    go_ret
    first
      | exact ⟨_, _, rfl, HX.out.keeps G2.out (fun _ _ h => h), G2.out⟩
      | exact ⟨_, ⟨_, rfl⟩, HX.out.keeps G2.out (fun _ _ h => h), G2.out⟩
      | exact ⟨HX.out.keeps G2.out (fun _ _ h => h), G2.out⟩
end Go.Proofs.YtbkkpcignmcjnaaGreatDoor

/- Layers 3, 6, 7: expressions: how deep, how many parts. -/
namespace Go.Proofs.YtbkkpcignmcjnaaGreatDoor
open Go.RowKit
set_option linter.unusedVariables false
set_option linter.unusedSimpArgs false
set_option linter.unnecessarySimpa false

theorem Ex.dep_mem {l : List Ex} {y : Ex} (h : y ∈ l) : y.cnt ≤ Ex.cntL l := Ex.cnt_mem h
/-- how deep -/
theorem exprDeep_any : ∀ (x : Ex) (w : World) (F : Nat → Prop) (ad : Option Addr) (cap : Nat), ExsAt w F x.args ad → x.cnt < 1000000000 →
    Calls Tryz.prog 70 #[exV x ad cap] w fun e w' => e = .returned (.int .i64 x.dep) ∧ Keeps NoBlk w w' := by
  refine Ex.ind (fun k num nm l ih w F ad cap h hb => ?_)
  have HL : Hid (ExsAt w F l ad) := h
  have IH := Lib.hid ih
  have hl := Ex.len_le l
  have hcn : Ex.cnt (.mk k num nm l) = 1 + Ex.cntL l := by simp [Ex.cnt]
  have hdn : Ex.dep (.mk k num nm l) = Ex.depL l + 1 := by simp [Ex.dep]
  have hdl : Ex.depL l + 1 ≤ 1 + Ex.cntL l := by rw [← hcn, ← hdn]; exact Ex.dep_le _
  rw [hcn] at hb
  rw [hdn]
  clear h ih hcn hdn
  obtain ⟨tot, ht⟩ : ∃ t, t = Ex.depL l := ⟨_, rfl⟩
  obtain ⟨tc, htc⟩ : ∃ t, t = Ex.cntL l := ⟨_, rfl⟩
  have HT := Lib.hid ht
  have HTC := Lib.hid htc
  rw [← ht] at hdl ⊢
  rw [← htc] at hb hl hdl
  have hb2 : tot < 1000000000 := by omega
  clear ht htc
  show Calls _ _ #[.agg #[.int .i64 k, .int .i64 num, .string nm, .slice ad l.length cap]] _ _
  go_enter Tryz.func70, Tryz.ntmps70
  go_upto_region 1 with fail
  obtain ⟨b1, hb1⟩ : ∃ z, z = w.heap.size := ⟨_, rfl⟩
  have hr1 : RowAt (w.alloc (.cells #[.int .i64 k, .int .i64 num, .string nm, .slice ad l.length cap] 37)) b1 [.int .i64 k, .int .i64 num, .string nm, .slice ad l.length cap] := by rw [hb1]; exact RowAt.ofBlock (heap_alloc_new w _)
  have hk1 : Keeps NoBlk w (w.alloc (.cells #[.int .i64 k, .int .i64 num, .string nm, .slice ad l.length cap] 37)) := (Keeps.refl _ _).alloc _
  rw [← hb1]
  generalize w.alloc (.cells #[.int .i64 k, .int .i64 num, .string nm, .slice ad l.length cap] 37) = w1 at hr1 hk1 ⊢
  have R1 := Lib.hid hr1
  have K1 := Lib.hid hk1
  have c3 := hr1.cell (k := 3) (v := .slice ad l.length cap) rfl
  clear hr1 hk1 hb1
  go_wp2_with fail
  go_loopw [3, 4] (fun nv iv wr => ∃ i n : Nat, i ≤ l.length ∧ nv = .int .i64 n ∧ iv = .int .i64 i ∧ Hid (max n (Ex.depL (l.drop i)) = tot) ∧ Hid (Keeps NoBlk w1 wr)) (fun _ iv _ => l.length - (intOf iv).toNat)
  case atStart => exact ⟨0, 0, Nat.zero_le _, rfl, rfl, by show _ = _; rw [List.drop_zero, HT.out]; omega, Keeps.refl _ _⟩
  case round =>
    obtain ⟨i, n, hi, rfl, rfl, HN, HK⟩ := hrel
    have c3' := (R1.out.keeps HK.out (fun h => h)).cell (k := 3) (v := .slice ad l.length cap) rfl
    clear c3
    by_cases hlt : i < l.length
    · have i1 : (0 : Int) ≤ i := by omega
      have i2 : (i : Int) < l.length := by omega
      have hd := HN.out
      rw [drop_at hlt, Ex.depL] at hd
      obtain ⟨g, o, a, c, e1, hg, d0, d1, d2, d3, hx⟩ := (HL.out.keeps (K1.out.trans0 HK.out) (fun _ _ h => h)).at hlt
      subst e1
      have HC : Hid (∀ W, Keeps NoBlk wr W → Calls Tryz.prog 70 #[.agg #[.int .i64 l[i].kind, .int .i64 l[i].num, .string l[i].nm, .slice a l[i].args.length c]] W fun e w' => e = .returned (.int .i64 l[i].dep) ∧ Keeps NoBlk W w') := fun W hk => IH.out _ (List.getElem_mem hlt) W F a c (hx.keeps hk (fun _ _ h => h)) (by have := Ex.cnt_mem (List.getElem_mem hlt); have := HTC.out; omega)
      obtain ⟨m, hm⟩ : ∃ m, m = l[i].dep := ⟨_, rfl⟩
      rw [← hm] at HC hd
      have HD := Lib.hid hd
      clear hx hm hd
      generalize l[i].kind = x0 at d0 HC
      generalize l[i].num = x1 at d1 HC
      generalize l[i].nm = x2 at d2 HC
      generalize l[i].args.length = x3 at d3 HC
      have hmx : max (n : Int) (m : Int) = ((max n m : Nat) : Int) := by omega
      go_wp2_with (go_at_call 70; refine (HC.out _ (Keeps.refl _ _)).mono ?_; rintro e w2 ⟨rfl, g1⟩; have G1 := Lib.hid g1; clear g1)
      go_roundw
      case rel => exact ⟨i + 1, max n m, by omega, by first | rfl | (congr 1; omega) | go_num, by go_num, by show _ = _; have := HD.out; omega, HK.out.trans0 G1.out⟩
      case measure => simp [intOf]; omega
    · obtain rfl : i = l.length := by omega
      have hd := HN.out
      rw [List.drop_length] at hd
      simp only [Ex.depL] at hd
      obtain rfl : n = tot := by omega
      go_wp2_with fail
      go_ret
      exact ⟨by go_num, K1.out.trans0 HK.out⟩
end Go.Proofs.YtbkkpcignmcjnaaGreatDoor
