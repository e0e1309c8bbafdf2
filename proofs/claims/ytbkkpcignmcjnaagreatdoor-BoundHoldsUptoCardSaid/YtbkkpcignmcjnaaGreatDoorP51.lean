/- Layer 7: the walk of BoundHolds. Printed by genholds.py. -/
import Derived.Test.YtbkkpcignmcjnaaGreatDoorP48
import Derived.Test.YtbkkpcignmcjnaaGreatDoorP50
namespace Go.Proofs.YtbkkpcignmcjnaaGreatDoor
open Go.RowKit
set_option linter.unusedVariables false
set_option linter.unusedSimpArgs false
set_option linter.unnecessarySimpa false

set_option maxRecDepth 8000 in
set_option maxHeartbeats 4000000 in
theorem holds_no (w : World) (mu : Int) (n0 n2 : Nat) (uca uta : Option Addr) (ucc utc : Nat) (HS : Hid (∀ W, Keeps NoBlk w W → Calls Tryz.prog 7 #[] W fun e w' => e = .returned (.bool true) ∧ Keeps NoBlk W w'))
    (HE : Hid (∀ W, Keeps NoBlk w W → Calls Tryz.prog 13 #[.agg #[.slice uca n0 ucc, .int .i64 mu, .slice uta n2 utc]] W fun e w' => e = .returned (.int .i64 1) ∧ Keeps NoBlk W w'))
    (HR : Hid (∀ W, Keeps NoBlk w W → Calls Tryz.prog 14 #[.agg #[.slice uca n0 ucc, .int .i64 mu, .slice uta n2 utc]] W fun e w' => e = .returned (.bool false) ∧ Keeps NoBlk W w')) :
    Calls Tryz.prog 5 #[.agg #[.slice uca n0 ucc, .int .i64 mu, .slice uta n2 utc]] w fun e w' => e = .returned (.bool true) ∧ Keeps NoBlk w w' := by
  go_enter Tryz.func5, Tryz.ntmps5
  go_upto_region 1 with fail
  obtain ⟨b1, hb1⟩ : ∃ z, z = w.heap.size := ⟨_, rfl⟩
  have hr1 : RowAt (w.alloc (.cells #[.slice uca n0 ucc, .int .i64 mu, .slice uta n2 utc] 25)) b1 [.slice uca n0 ucc, .int .i64 mu, .slice uta n2 utc] := by rw [hb1]; exact RowAt.ofBlock (heap_alloc_new w _)
  have hk1 : Keeps NoBlk w (w.alloc (.cells #[.slice uca n0 ucc, .int .i64 mu, .slice uta n2 utc] 25)) := (Keeps.refl _ _).alloc _
  rw [← hb1]
  generalize w.alloc (.cells #[.slice uca n0 ucc, .int .i64 mu, .slice uta n2 utc] 25) = w1 at hr1 hk1 ⊢
  have R1 := Lib.hid hr1
  have K1 := Lib.hid hk1
  obtain ⟨y0, y1, y2⟩ := hr1.three
  clear hr1 hk1 hb1
  go_upto_region 2 with (go_at_call 7; refine (HS.out _ K1.out).mono ?_; rintro e w2 ⟨rfl, g0⟩; have K2 : Hid (Keeps NoBlk w w2) := K1.out.trans0 g0; have c := (R1.out.keeps g0 (fun h => h)).three; clear y0 y1 y2; obtain ⟨y0, y1, y2⟩ := c; have R1 := Lib.hid (R1.out.keeps g0 (fun h => h)); clear g0)
  go_upto_region 3 with (go_at_call 13; refine (HE.out _ K2.out).mono ?_; rintro e w3 ⟨rfl, g0⟩; have K3 : Hid (Keeps NoBlk w w3) := K2.out.trans0 g0; have c := (R1.out.keeps g0 (fun h => h)).three; clear y0 y1 y2; obtain ⟨y0, y1, y2⟩ := c; have R1 := Lib.hid (R1.out.keeps g0 (fun h => h)); clear g0)
  go_wp2_with (go_at_call 14; refine (HR.out _ K3.out).mono ?_; rintro e w4 ⟨rfl, g0⟩; have K4 : Hid (Keeps NoBlk w w4) := K3.out.trans0 g0; have c := (R1.out.keeps g0 (fun h => h)).three; clear y0 y1 y2; obtain ⟨y0, y1, y2⟩ := c; have R1 := Lib.hid (R1.out.keeps g0 (fun h => h)); clear g0)
  all_goals go_ret
  all_goals exact ⟨by simp, K4.out⟩

set_option maxRecDepth 8000 in
set_option maxHeartbeats 4000000 in
theorem holds_long1 (w : World) (mu : Int) (n0 n2 : Nat) (uca uta : Option Addr) (ucc utc : Nat) (s m : ByteArray) (HS : Hid (∀ W, Keeps NoBlk w W → Calls Tryz.prog 7 #[] W fun e w' => e = .returned (.bool true) ∧ Keeps NoBlk W w'))
    (HE : Hid (∀ W, Keeps NoBlk w W → Calls Tryz.prog 13 #[.agg #[.slice uca n0 ucc, .int .i64 mu, .slice uta n2 utc]] W fun e w' => e = .returned (.int .i64 70) ∧ Keeps NoBlk W w'))
    (HR : Hid (∀ W, Keeps NoBlk w W → Calls Tryz.prog 14 #[.agg #[.slice uca n0 ucc, .int .i64 mu, .slice uta n2 utc]] W fun e w' => e = .returned (.bool true) ∧ Keeps NoBlk W w'))
    (HT : Hid (∀ W, Keeps NoBlk w W → Calls Tryz.prog 8 #[.agg #[.slice uca n0 ucc, .int .i64 mu, .slice uta n2 utc]] W fun e w' => e = .returned (.string s) ∧ Keeps NoBlk W w'))
    (HW : Hid (∀ W, Keeps NoBlk w W → Calls Tryz.prog 9 #[.agg #[.slice uca n0 ucc, .int .i64 mu, .slice uta n2 utc]] W fun e w' => e = .returned (.string m) ∧ Keeps NoBlk W w'))
    (HA : Hid (∀ W, Calls Tryz.prog 15 #[.string s, .string { data := #[54, 48] }] W fun e w' => e = .returned (.bool true) ∧ Keeps NoBlk W w'))
    (HB : Hid (∀ W, Calls Tryz.prog 15 #[.string m, .string { data := #[49, 48, 48, 48, 48] }] W fun e w' => e = .returned (.bool true) ∧ Keeps NoBlk W w')) :
    Calls Tryz.prog 5 #[.agg #[.slice uca n0 ucc, .int .i64 mu, .slice uta n2 utc]] w fun e w' => e = .returned (.bool true) ∧ Keeps NoBlk w w' := by
  go_enter Tryz.func5, Tryz.ntmps5
  go_upto_region 1 with fail
  obtain ⟨b1, hb1⟩ : ∃ z, z = w.heap.size := ⟨_, rfl⟩
  have hr1 : RowAt (w.alloc (.cells #[.slice uca n0 ucc, .int .i64 mu, .slice uta n2 utc] 25)) b1 [.slice uca n0 ucc, .int .i64 mu, .slice uta n2 utc] := by rw [hb1]; exact RowAt.ofBlock (heap_alloc_new w _)
  have hk1 : Keeps NoBlk w (w.alloc (.cells #[.slice uca n0 ucc, .int .i64 mu, .slice uta n2 utc] 25)) := (Keeps.refl _ _).alloc _
  rw [← hb1]
  generalize w.alloc (.cells #[.slice uca n0 ucc, .int .i64 mu, .slice uta n2 utc] 25) = w1 at hr1 hk1 ⊢
  have R1 := Lib.hid hr1
  have K1 := Lib.hid hk1
  obtain ⟨y0, y1, y2⟩ := hr1.three
  clear hr1 hk1 hb1
  go_upto_region 2 with (go_at_call 7; refine (HS.out _ K1.out).mono ?_; rintro e w2 ⟨rfl, g0⟩; have K2 : Hid (Keeps NoBlk w w2) := K1.out.trans0 g0; have c := (R1.out.keeps g0 (fun h => h)).three; clear y0 y1 y2; obtain ⟨y0, y1, y2⟩ := c; have R1 := Lib.hid (R1.out.keeps g0 (fun h => h)); clear g0)
  go_upto_region 3 with (go_at_call 13; refine (HE.out _ K2.out).mono ?_; rintro e w3 ⟨rfl, g0⟩; have K3 : Hid (Keeps NoBlk w w3) := K2.out.trans0 g0; have c := (R1.out.keeps g0 (fun h => h)).three; clear y0 y1 y2; obtain ⟨y0, y1, y2⟩ := c; have R1 := Lib.hid (R1.out.keeps g0 (fun h => h)); clear g0)
  go_upto_region 6 with (go_at_call 14; refine (HR.out _ K3.out).mono ?_; rintro e w4 ⟨rfl, g0⟩; have K4 : Hid (Keeps NoBlk w w4) := K3.out.trans0 g0; have c := (R1.out.keeps g0 (fun h => h)).three; clear y0 y1 y2; obtain ⟨y0, y1, y2⟩ := c; have R1 := Lib.hid (R1.out.keeps g0 (fun h => h)); clear g0)
  go_upto_region 7 with (go_at_call 8; refine (HT.out _ K4.out).mono ?_; rintro e w5 ⟨rfl, g0⟩; have K5 : Hid (Keeps NoBlk w w5) := K4.out.trans0 g0; have c := (R1.out.keeps g0 (fun h => h)).three; clear y0 y1 y2; obtain ⟨y0, y1, y2⟩ := c; have R1 := Lib.hid (R1.out.keeps g0 (fun h => h)); clear g0)
  go_upto_region 8 with (go_at_call 9; refine (HW.out _ K5.out).mono ?_; rintro e w6 ⟨rfl, g0⟩; have K6 : Hid (Keeps NoBlk w w6) := K5.out.trans0 g0; have c := (R1.out.keeps g0 (fun h => h)).three; clear y0 y1 y2; obtain ⟨y0, y1, y2⟩ := c; have R1 := Lib.hid (R1.out.keeps g0 (fun h => h)); clear g0)
  go_upto_region 9 with (go_at_call 15; refine (HA.out _).mono ?_; rintro e w7 ⟨rfl, g0⟩; have K7 : Hid (Keeps NoBlk w w7) := K6.out.trans0 g0; have c := (R1.out.keeps g0 (fun h => h)).three; clear y0 y1 y2; obtain ⟨y0, y1, y2⟩ := c; have R1 := Lib.hid (R1.out.keeps g0 (fun h => h)); clear g0)
  go_wp2_with (go_at_call 15; refine (HB.out _).mono ?_; rintro e w8 ⟨rfl, g0⟩; have K8 : Hid (Keeps NoBlk w w8) := K7.out.trans0 g0; have c := (R1.out.keeps g0 (fun h => h)).three; clear y0 y1 y2; obtain ⟨y0, y1, y2⟩ := c; have R1 := Lib.hid (R1.out.keeps g0 (fun h => h)); clear g0)
  all_goals go_ret
  all_goals exact ⟨by simp, K8.out⟩

set_option maxRecDepth 8000 in
set_option maxHeartbeats 4000000 in
theorem holds_long2 (w : World) (mu : Int) (n0 n2 : Nat) (uca uta : Option Addr) (ucc utc : Nat) (s m : ByteArray) (HS : Hid (∀ W, Keeps NoBlk w W → Calls Tryz.prog 7 #[] W fun e w' => e = .returned (.bool true) ∧ Keeps NoBlk W w'))
    (HE : Hid (∀ W, Keeps NoBlk w W → Calls Tryz.prog 13 #[.agg #[.slice uca n0 ucc, .int .i64 mu, .slice uta n2 utc]] W fun e w' => e = .returned (.int .i64 70) ∧ Keeps NoBlk W w'))
    (HR : Hid (∀ W, Keeps NoBlk w W → Calls Tryz.prog 14 #[.agg #[.slice uca n0 ucc, .int .i64 mu, .slice uta n2 utc]] W fun e w' => e = .returned (.bool true) ∧ Keeps NoBlk W w'))
    (HT : Hid (∀ W, Keeps NoBlk w W → Calls Tryz.prog 8 #[.agg #[.slice uca n0 ucc, .int .i64 mu, .slice uta n2 utc]] W fun e w' => e = .returned (.string s) ∧ Keeps NoBlk W w'))
    (HW : Hid (∀ W, Keeps NoBlk w W → Calls Tryz.prog 9 #[.agg #[.slice uca n0 ucc, .int .i64 mu, .slice uta n2 utc]] W fun e w' => e = .returned (.string m) ∧ Keeps NoBlk W w'))
    (HA : Hid (∀ W, Calls Tryz.prog 15 #[.string s, .string { data := #[54, 48] }] W fun e w' => e = .returned (.bool true) ∧ Keeps NoBlk W w'))
    (HB : Hid (∀ W, Calls Tryz.prog 15 #[.string m, .string { data := #[49, 48, 48, 48, 48] }] W fun e w' => e = .returned (.bool false) ∧ Keeps NoBlk W w')) :
    Calls Tryz.prog 5 #[.agg #[.slice uca n0 ucc, .int .i64 mu, .slice uta n2 utc]] w fun e w' => e = .returned (.bool true) ∧ Keeps NoBlk w w' := by
  go_enter Tryz.func5, Tryz.ntmps5
  go_upto_region 1 with fail
  obtain ⟨b1, hb1⟩ : ∃ z, z = w.heap.size := ⟨_, rfl⟩
  have hr1 : RowAt (w.alloc (.cells #[.slice uca n0 ucc, .int .i64 mu, .slice uta n2 utc] 25)) b1 [.slice uca n0 ucc, .int .i64 mu, .slice uta n2 utc] := by rw [hb1]; exact RowAt.ofBlock (heap_alloc_new w _)
  have hk1 : Keeps NoBlk w (w.alloc (.cells #[.slice uca n0 ucc, .int .i64 mu, .slice uta n2 utc] 25)) := (Keeps.refl _ _).alloc _
  rw [← hb1]
  generalize w.alloc (.cells #[.slice uca n0 ucc, .int .i64 mu, .slice uta n2 utc] 25) = w1 at hr1 hk1 ⊢
  have R1 := Lib.hid hr1
  have K1 := Lib.hid hk1
  obtain ⟨y0, y1, y2⟩ := hr1.three
  clear hr1 hk1 hb1
  go_upto_region 2 with (go_at_call 7; refine (HS.out _ K1.out).mono ?_; rintro e w2 ⟨rfl, g0⟩; have K2 : Hid (Keeps NoBlk w w2) := K1.out.trans0 g0; have c := (R1.out.keeps g0 (fun h => h)).three; clear y0 y1 y2; obtain ⟨y0, y1, y2⟩ := c; have R1 := Lib.hid (R1.out.keeps g0 (fun h => h)); clear g0)
  go_upto_region 3 with (go_at_call 13; refine (HE.out _ K2.out).mono ?_; rintro e w3 ⟨rfl, g0⟩; have K3 : Hid (Keeps NoBlk w w3) := K2.out.trans0 g0; have c := (R1.out.keeps g0 (fun h => h)).three; clear y0 y1 y2; obtain ⟨y0, y1, y2⟩ := c; have R1 := Lib.hid (R1.out.keeps g0 (fun h => h)); clear g0)
  go_upto_region 6 with (go_at_call 14; refine (HR.out _ K3.out).mono ?_; rintro e w4 ⟨rfl, g0⟩; have K4 : Hid (Keeps NoBlk w w4) := K3.out.trans0 g0; have c := (R1.out.keeps g0 (fun h => h)).three; clear y0 y1 y2; obtain ⟨y0, y1, y2⟩ := c; have R1 := Lib.hid (R1.out.keeps g0 (fun h => h)); clear g0)
  go_upto_region 7 with (go_at_call 8; refine (HT.out _ K4.out).mono ?_; rintro e w5 ⟨rfl, g0⟩; have K5 : Hid (Keeps NoBlk w w5) := K4.out.trans0 g0; have c := (R1.out.keeps g0 (fun h => h)).three; clear y0 y1 y2; obtain ⟨y0, y1, y2⟩ := c; have R1 := Lib.hid (R1.out.keeps g0 (fun h => h)); clear g0)
  go_upto_region 8 with (go_at_call 9; refine (HW.out _ K5.out).mono ?_; rintro e w6 ⟨rfl, g0⟩; have K6 : Hid (Keeps NoBlk w w6) := K5.out.trans0 g0; have c := (R1.out.keeps g0 (fun h => h)).three; clear y0 y1 y2; obtain ⟨y0, y1, y2⟩ := c; have R1 := Lib.hid (R1.out.keeps g0 (fun h => h)); clear g0)
  go_upto_region 9 with (go_at_call 15; refine (HA.out _).mono ?_; rintro e w7 ⟨rfl, g0⟩; have K7 : Hid (Keeps NoBlk w w7) := K6.out.trans0 g0; have c := (R1.out.keeps g0 (fun h => h)).three; clear y0 y1 y2; obtain ⟨y0, y1, y2⟩ := c; have R1 := Lib.hid (R1.out.keeps g0 (fun h => h)); clear g0)
  go_wp2_with (go_at_call 15; refine (HB.out _).mono ?_; rintro e w8 ⟨rfl, g0⟩; have K8 : Hid (Keeps NoBlk w w8) := K7.out.trans0 g0; have c := (R1.out.keeps g0 (fun h => h)).three; clear y0 y1 y2; obtain ⟨y0, y1, y2⟩ := c; have R1 := Lib.hid (R1.out.keeps g0 (fun h => h)); clear g0)
  all_goals go_ret
  all_goals exact ⟨by simp, K8.out⟩

set_option maxRecDepth 8000 in
set_option maxHeartbeats 4000000 in
theorem holds_much (w : World) (mu : Int) (n0 n2 : Nat) (uca uta : Option Addr) (ucc utc : Nat) (s m : ByteArray) (HS : Hid (∀ W, Keeps NoBlk w W → Calls Tryz.prog 7 #[] W fun e w' => e = .returned (.bool true) ∧ Keeps NoBlk W w'))
    (HE : Hid (∀ W, Keeps NoBlk w W → Calls Tryz.prog 13 #[.agg #[.slice uca n0 ucc, .int .i64 mu, .slice uta n2 utc]] W fun e w' => e = .returned (.int .i64 71) ∧ Keeps NoBlk W w'))
    (HR : Hid (∀ W, Keeps NoBlk w W → Calls Tryz.prog 14 #[.agg #[.slice uca n0 ucc, .int .i64 mu, .slice uta n2 utc]] W fun e w' => e = .returned (.bool true) ∧ Keeps NoBlk W w'))
    (HT : Hid (∀ W, Keeps NoBlk w W → Calls Tryz.prog 8 #[.agg #[.slice uca n0 ucc, .int .i64 mu, .slice uta n2 utc]] W fun e w' => e = .returned (.string s) ∧ Keeps NoBlk W w'))
    (HW : Hid (∀ W, Keeps NoBlk w W → Calls Tryz.prog 9 #[.agg #[.slice uca n0 ucc, .int .i64 mu, .slice uta n2 utc]] W fun e w' => e = .returned (.string m) ∧ Keeps NoBlk W w'))
    (HA : Hid (∀ W, Calls Tryz.prog 15 #[.string s, .string { data := #[54, 48] }] W fun e w' => e = .returned (.bool false) ∧ Keeps NoBlk W w'))
    (HB : Hid (∀ W, Calls Tryz.prog 15 #[.string m, .string { data := #[49, 48, 48, 48, 48] }] W fun e w' => e = .returned (.bool true) ∧ Keeps NoBlk W w')) :
    Calls Tryz.prog 5 #[.agg #[.slice uca n0 ucc, .int .i64 mu, .slice uta n2 utc]] w fun e w' => e = .returned (.bool true) ∧ Keeps NoBlk w w' := by
  go_enter Tryz.func5, Tryz.ntmps5
  go_upto_region 1 with fail
  obtain ⟨b1, hb1⟩ : ∃ z, z = w.heap.size := ⟨_, rfl⟩
  have hr1 : RowAt (w.alloc (.cells #[.slice uca n0 ucc, .int .i64 mu, .slice uta n2 utc] 25)) b1 [.slice uca n0 ucc, .int .i64 mu, .slice uta n2 utc] := by rw [hb1]; exact RowAt.ofBlock (heap_alloc_new w _)
  have hk1 : Keeps NoBlk w (w.alloc (.cells #[.slice uca n0 ucc, .int .i64 mu, .slice uta n2 utc] 25)) := (Keeps.refl _ _).alloc _
  rw [← hb1]
  generalize w.alloc (.cells #[.slice uca n0 ucc, .int .i64 mu, .slice uta n2 utc] 25) = w1 at hr1 hk1 ⊢
  have R1 := Lib.hid hr1
  have K1 := Lib.hid hk1
  obtain ⟨y0, y1, y2⟩ := hr1.three
  clear hr1 hk1 hb1
  go_upto_region 2 with (go_at_call 7; refine (HS.out _ K1.out).mono ?_; rintro e w2 ⟨rfl, g0⟩; have K2 : Hid (Keeps NoBlk w w2) := K1.out.trans0 g0; have c := (R1.out.keeps g0 (fun h => h)).three; clear y0 y1 y2; obtain ⟨y0, y1, y2⟩ := c; have R1 := Lib.hid (R1.out.keeps g0 (fun h => h)); clear g0)
  go_upto_region 3 with (go_at_call 13; refine (HE.out _ K2.out).mono ?_; rintro e w3 ⟨rfl, g0⟩; have K3 : Hid (Keeps NoBlk w w3) := K2.out.trans0 g0; have c := (R1.out.keeps g0 (fun h => h)).three; clear y0 y1 y2; obtain ⟨y0, y1, y2⟩ := c; have R1 := Lib.hid (R1.out.keeps g0 (fun h => h)); clear g0)
  go_upto_region 6 with (go_at_call 14; refine (HR.out _ K3.out).mono ?_; rintro e w4 ⟨rfl, g0⟩; have K4 : Hid (Keeps NoBlk w w4) := K3.out.trans0 g0; have c := (R1.out.keeps g0 (fun h => h)).three; clear y0 y1 y2; obtain ⟨y0, y1, y2⟩ := c; have R1 := Lib.hid (R1.out.keeps g0 (fun h => h)); clear g0)
  go_upto_region 7 with (go_at_call 8; refine (HT.out _ K4.out).mono ?_; rintro e w5 ⟨rfl, g0⟩; have K5 : Hid (Keeps NoBlk w w5) := K4.out.trans0 g0; have c := (R1.out.keeps g0 (fun h => h)).three; clear y0 y1 y2; obtain ⟨y0, y1, y2⟩ := c; have R1 := Lib.hid (R1.out.keeps g0 (fun h => h)); clear g0)
  go_upto_region 8 with (go_at_call 9; refine (HW.out _ K5.out).mono ?_; rintro e w6 ⟨rfl, g0⟩; have K6 : Hid (Keeps NoBlk w w6) := K5.out.trans0 g0; have c := (R1.out.keeps g0 (fun h => h)).three; clear y0 y1 y2; obtain ⟨y0, y1, y2⟩ := c; have R1 := Lib.hid (R1.out.keeps g0 (fun h => h)); clear g0)
  go_upto_region 9 with (go_at_call 15; refine (HA.out _).mono ?_; rintro e w7 ⟨rfl, g0⟩; have K7 : Hid (Keeps NoBlk w w7) := K6.out.trans0 g0; have c := (R1.out.keeps g0 (fun h => h)).three; clear y0 y1 y2; obtain ⟨y0, y1, y2⟩ := c; have R1 := Lib.hid (R1.out.keeps g0 (fun h => h)); clear g0)
  go_wp2_with (go_at_call 15; refine (HB.out _).mono ?_; rintro e w8 ⟨rfl, g0⟩; have K8 : Hid (Keeps NoBlk w w8) := K7.out.trans0 g0; have c := (R1.out.keeps g0 (fun h => h)).three; clear y0 y1 y2; obtain ⟨y0, y1, y2⟩ := c; have R1 := Lib.hid (R1.out.keeps g0 (fun h => h)); clear g0)
  all_goals go_ret
  all_goals exact ⟨by simp, K8.out⟩

set_option maxRecDepth 8000 in
set_option maxHeartbeats 4000000 in
theorem holds_ok (w : World) (mu : Int) (n0 n2 : Nat) (uca uta : Option Addr) (ucc utc : Nat) (s m : ByteArray) (HS : Hid (∀ W, Keeps NoBlk w W → Calls Tryz.prog 7 #[] W fun e w' => e = .returned (.bool true) ∧ Keeps NoBlk W w'))
    (HE : Hid (∀ W, Keeps NoBlk w W → Calls Tryz.prog 13 #[.agg #[.slice uca n0 ucc, .int .i64 mu, .slice uta n2 utc]] W fun e w' => e = .returned (.int .i64 0) ∧ Keeps NoBlk W w'))
    (HR : Hid (∀ W, Keeps NoBlk w W → Calls Tryz.prog 14 #[.agg #[.slice uca n0 ucc, .int .i64 mu, .slice uta n2 utc]] W fun e w' => e = .returned (.bool true) ∧ Keeps NoBlk W w'))
    (HT : Hid (∀ W, Keeps NoBlk w W → Calls Tryz.prog 8 #[.agg #[.slice uca n0 ucc, .int .i64 mu, .slice uta n2 utc]] W fun e w' => e = .returned (.string s) ∧ Keeps NoBlk W w'))
    (HW : Hid (∀ W, Keeps NoBlk w W → Calls Tryz.prog 9 #[.agg #[.slice uca n0 ucc, .int .i64 mu, .slice uta n2 utc]] W fun e w' => e = .returned (.string m) ∧ Keeps NoBlk W w'))
    (HA : Hid (∀ W, Calls Tryz.prog 15 #[.string s, .string { data := #[54, 48] }] W fun e w' => e = .returned (.bool false) ∧ Keeps NoBlk W w'))
    (HB : Hid (∀ W, Calls Tryz.prog 15 #[.string m, .string { data := #[49, 48, 48, 48, 48] }] W fun e w' => e = .returned (.bool false) ∧ Keeps NoBlk W w')) :
    Calls Tryz.prog 5 #[.agg #[.slice uca n0 ucc, .int .i64 mu, .slice uta n2 utc]] w fun e w' => e = .returned (.bool true) ∧ Keeps NoBlk w w' := by
  go_enter Tryz.func5, Tryz.ntmps5
  go_upto_region 1 with fail
  obtain ⟨b1, hb1⟩ : ∃ z, z = w.heap.size := ⟨_, rfl⟩
  have hr1 : RowAt (w.alloc (.cells #[.slice uca n0 ucc, .int .i64 mu, .slice uta n2 utc] 25)) b1 [.slice uca n0 ucc, .int .i64 mu, .slice uta n2 utc] := by rw [hb1]; exact RowAt.ofBlock (heap_alloc_new w _)
  have hk1 : Keeps NoBlk w (w.alloc (.cells #[.slice uca n0 ucc, .int .i64 mu, .slice uta n2 utc] 25)) := (Keeps.refl _ _).alloc _
  rw [← hb1]
  generalize w.alloc (.cells #[.slice uca n0 ucc, .int .i64 mu, .slice uta n2 utc] 25) = w1 at hr1 hk1 ⊢
  have R1 := Lib.hid hr1
  have K1 := Lib.hid hk1
  obtain ⟨y0, y1, y2⟩ := hr1.three
  clear hr1 hk1 hb1
  go_upto_region 2 with (go_at_call 7; refine (HS.out _ K1.out).mono ?_; rintro e w2 ⟨rfl, g0⟩; have K2 : Hid (Keeps NoBlk w w2) := K1.out.trans0 g0; have c := (R1.out.keeps g0 (fun h => h)).three; clear y0 y1 y2; obtain ⟨y0, y1, y2⟩ := c; have R1 := Lib.hid (R1.out.keeps g0 (fun h => h)); clear g0)
  go_upto_region 3 with (go_at_call 13; refine (HE.out _ K2.out).mono ?_; rintro e w3 ⟨rfl, g0⟩; have K3 : Hid (Keeps NoBlk w w3) := K2.out.trans0 g0; have c := (R1.out.keeps g0 (fun h => h)).three; clear y0 y1 y2; obtain ⟨y0, y1, y2⟩ := c; have R1 := Lib.hid (R1.out.keeps g0 (fun h => h)); clear g0)
  go_upto_region 6 with (go_at_call 14; refine (HR.out _ K3.out).mono ?_; rintro e w4 ⟨rfl, g0⟩; have K4 : Hid (Keeps NoBlk w w4) := K3.out.trans0 g0; have c := (R1.out.keeps g0 (fun h => h)).three; clear y0 y1 y2; obtain ⟨y0, y1, y2⟩ := c; have R1 := Lib.hid (R1.out.keeps g0 (fun h => h)); clear g0)
  go_upto_region 7 with (go_at_call 8; refine (HT.out _ K4.out).mono ?_; rintro e w5 ⟨rfl, g0⟩; have K5 : Hid (Keeps NoBlk w w5) := K4.out.trans0 g0; have c := (R1.out.keeps g0 (fun h => h)).three; clear y0 y1 y2; obtain ⟨y0, y1, y2⟩ := c; have R1 := Lib.hid (R1.out.keeps g0 (fun h => h)); clear g0)
  go_upto_region 8 with (go_at_call 9; refine (HW.out _ K5.out).mono ?_; rintro e w6 ⟨rfl, g0⟩; have K6 : Hid (Keeps NoBlk w w6) := K5.out.trans0 g0; have c := (R1.out.keeps g0 (fun h => h)).three; clear y0 y1 y2; obtain ⟨y0, y1, y2⟩ := c; have R1 := Lib.hid (R1.out.keeps g0 (fun h => h)); clear g0)
  go_upto_region 9 with (go_at_call 15; refine (HA.out _).mono ?_; rintro e w7 ⟨rfl, g0⟩; have K7 : Hid (Keeps NoBlk w w7) := K6.out.trans0 g0; have c := (R1.out.keeps g0 (fun h => h)).three; clear y0 y1 y2; obtain ⟨y0, y1, y2⟩ := c; have R1 := Lib.hid (R1.out.keeps g0 (fun h => h)); clear g0)
  go_wp2_with (go_at_call 15; refine (HB.out _).mono ?_; rintro e w8 ⟨rfl, g0⟩; have K8 : Hid (Keeps NoBlk w w8) := K7.out.trans0 g0; have c := (R1.out.keeps g0 (fun h => h)).three; clear y0 y1 y2; obtain ⟨y0, y1, y2⟩ := c; have R1 := Lib.hid (R1.out.keeps g0 (fun h => h)); clear g0)
  all_goals go_ret
  all_goals exact ⟨by simp, K8.out⟩

theorem tell60 : tell true 60 = ⟨#[54, 48]⟩ := by
  have e : decL 60 = [54, 48] := by rw [decL_step (by decide), decL_small (by decide)]; rfl
  unfold tell; rw [e]; rfl
theorem tell10000 : tell true 10000 = ⟨#[49, 48, 48, 48, 48]⟩ := by
  have e : decL 10000 = [49, 48, 48, 48, 48] := by rw [decL_step (by decide), decL_step (by decide), decL_step (by decide), decL_step (by decide), decL_small (by decide)]; rfl
  unfold tell; rw [e]; rfl
theorem boundHolds_any {cs : List Int} {mu : Int} {bs : List Bd} {w : World} {F : Nat → Prop} {uca uta : Option Addr} {ucc utc : Nat} (h : UnAt w F cs bs uca uta) (ok : UnOk cs bs) (ht : TabP w) :
    Calls Tryz.prog 5 #[.agg #[.slice uca cs.length ucc, .int .i64 mu, .slice uta bs.length utc]] w fun e w' => e = .returned (.bool true) ∧ Keeps NoBlk w w' := by
  have HS : Hid (∀ W, Keeps NoBlk w W → Calls Tryz.prog 7 #[] W fun e w' => e = .returned (.bool true) ∧ Keeps NoBlk W w') := fun W hk => shown_any W (ht.keeps (below_keeps hk))
  rcases hr : rightU ⟨cs, mu, bs⟩ with _ | _
  · refine holds_no w mu _ _ uca uta ucc utc HS (fun W hk => ?_) (fun W hk => ?_)
    · have := (h.keeps0 hk).within (mu := mu) (ucc := ucc) (utc := utc) ok
      rw [hr] at this; exact this
    · have := (h.keeps0 hk).right (mu := mu) (ucc := ucc) (utc := utc) ok
      rw [hr] at this; exact this
  · have HE : ∀ (e : Int), withinU true (unS bs) (unW bs) = e → Hid (∀ W, Keeps NoBlk w W → Calls Tryz.prog 13 #[.agg #[.slice uca cs.length ucc, .int .i64 mu, .slice uta bs.length utc]] W fun e' w' => e' = .returned (.int .i64 e) ∧ Keeps NoBlk W w') := fun e he W hk => by
      have := (h.keeps0 hk).within (mu := mu) (ucc := ucc) (utc := utc) ok
      rw [hr, he] at this; exact this
    have HR : Hid (∀ W, Keeps NoBlk w W → Calls Tryz.prog 14 #[.agg #[.slice uca cs.length ucc, .int .i64 mu, .slice uta bs.length utc]] W fun e' w' => e' = .returned (.bool true) ∧ Keeps NoBlk W w') := fun W hk => by
      have := (h.keeps0 hk).right (mu := mu) (ucc := ucc) (utc := utc) ok
      rw [hr] at this; exact this
    have HT : Hid (∀ W, Keeps NoBlk w W → Calls Tryz.prog 8 #[.agg #[.slice uca cs.length ucc, .int .i64 mu, .slice uta bs.length utc]] W fun e' w' => e' = .returned (.string (tell true (unS bs))) ∧ Keeps NoBlk W w') := fun W hk => by
      have := (h.keeps0 hk).steps (mu := mu) (ucc := ucc) (utc := utc) ok (ht.keeps (below_keeps hk))
      rw [hr] at this; exact this
    have HW : Hid (∀ W, Keeps NoBlk w W → Calls Tryz.prog 9 #[.agg #[.slice uca cs.length ucc, .int .i64 mu, .slice uta bs.length utc]] W fun e' w' => e' = .returned (.string (tell true (unW bs))) ∧ Keeps NoBlk W w') := fun W hk => by
      have := (h.keeps0 hk).work (mu := mu) (ucc := ucc) (utc := utc) ok (ht.keeps (below_keeps hk))
      rw [hr] at this; exact this
    have HA : ∀ (b : Bool), decide (60 < unS bs) = b → Hid (∀ W, Calls Tryz.prog 15 #[.string (tell true (unS bs)), .string { data := #[54, 48] }] W fun e w' => e = .returned (.bool b) ∧ Keeps NoBlk W w') := fun b hb W => by
      have := above_law (tell true (unS bs)) (tell true 60) W
      rw [above_tell, hb, tell60] at this; exact this
    have HB : ∀ (b : Bool), decide (10000 < unW bs) = b → Hid (∀ W, Calls Tryz.prog 15 #[.string (tell true (unW bs)), .string { data := #[49, 48, 48, 48, 48] }] W fun e w' => e = .returned (.bool b) ∧ Keeps NoBlk W w') := fun b hb W => by
      have := above_law (tell true (unW bs)) (tell true 10000) W
      rw [above_tell, hb, tell10000] at this; exact this
    by_cases h1 : 60 < unS bs
    · by_cases h2 : 10000 < unW bs
      · exact holds_long1 w mu _ _ uca uta ucc utc _ _ HS (HE 70 (by simp [withinU, h1])) HR HT HW (HA true (by simp [h1])) (HB true (by simp [h2]))
      · exact holds_long2 w mu _ _ uca uta ucc utc _ _ HS (HE 70 (by simp [withinU, h1])) HR HT HW (HA true (by simp [h1])) (HB false (by simp [h2]))
    · by_cases h2 : 10000 < unW bs
      · exact holds_much w mu _ _ uca uta ucc utc _ _ HS (HE 71 (by simp [withinU, h1, h2])) HR HT HW (HA false (by simp [h1])) (HB true (by simp [h2]))
      · exact holds_ok w mu _ _ uca uta ucc utc _ _ HS (HE 0 (by simp [withinU, h1, h2])) HR HT HW (HA false (by simp [h1])) (HB false (by simp [h2]))
end Go.Proofs.YtbkkpcignmcjnaaGreatDoor
