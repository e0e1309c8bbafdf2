/- Do the stack and the reference tell the same? -/
import Derived.Test.YtjfbiganijldfaaDoorRefB
namespace Go.Proofs.YtjfbiganijldfaaDoor
open Go.RowKit
set_option linter.unusedVariables false
set_option linter.unusedSimpArgs false
set_option linter.unnecessarySimpa false

theorem bits_range {w : World} {g o : Nat} (s : Int) (h : ∀ k, k < 8 → w.cell? ⟨g, o + k, none⟩ = some (.bool (s.toNat.testBit k))) : w.rangeAt g o ((bitsN s).map Value.bool) := fun j v hj => by
  rw [List.getElem?_map] at hj
  have hj8 : j < 8 := by
    rcases Nat.lt_or_ge j 8 with h | h
    · exact h
    · rw [List.getElem?_eq_none (by rw [bitsN_len]; exact h)] at hj; cases hj
  rw [bitsN_get _ j hj8] at hj
  cases hj
  exact h j hj8

theorem belowD {B : Nat} {w w' : World} (h : Below B w w') (n : Nat) : Below B w (w'.drewN n) := ⟨h.os, h.tape, h.output, h.size, h.block⟩

set_option maxRecDepth 4000 in
set_option maxHeartbeats 2000000 in
theorem same_raw (w : World) (b : Nat) (v : Value) (L : List Nd) (n cap : Nat) (ad : Option Addr) (hs : StackAt w b v L) (hr : RefAt w (.slice ad n cap) L) (hl : L.length = n) (hok : StkOk L) (hrow : StkRow L) :
    Calls Tryd.prog 22 #[.pointer (some ⟨b, 0, none⟩), .slice ad n cap] w fun e w' => e = .returned (.bool true) ∧ Below w.heap.size w w' := by
  have HS := Lib.hid hs
  have HR := Lib.hid hr
  have HOK := Lib.hid hok
  have HROW := Lib.hid hrow
  have hn : n ≤ 61 := by rw [← hl]; exact hok.1
  have HL := Lib.hid hl
  have hnn : ((n : Int) != n) = false := by simp
  clear hs hr hok hrow hl
  go_enter Tryd.func22, Tryd.ntmps22
  go_wp2_with (go_at_call 9; refine (stkLen_any _ _ _ _ (by exact HS.out)).mono ?_; rintro e w' ⟨rfl, rfl⟩; rw [HL.out])
  go_loopw [6] (fun i wr => ∃ k : Nat, k ≤ n + 2 ∧ i = .int .i64 (k - 1) ∧ Hid (Below w.heap.size w wr)) (fun i _ => n + 2 - (intOf i + 1).toNat)
  case atStart => exact ⟨0, Nat.zero_le _, rfl, Below.refl _ _⟩
  case round =>
    obtain ⟨k, hk, rfl, hb⟩ := hrel
    have HS2 : Hid (StackAt wr b v L) := HS.out.keeps (Keeps.ofBelow hb.out NoBlk) (fun _ _ h => h)
    have HR2 : Hid (RefAt wr (.slice ad n cap) L) := HR.out.keeps (Keeps.ofBelow hb.out NoBlk) (fun _ _ h => h)
    rcases Nat.eq_zero_or_pos k with rfl | hkp
    · have e0 : (((0 : Nat) : Int) - 1) = -1 := by omega
      rw [e0] at *
      have HN := Lib.hid (node_any wr b v L (-1) HS2.out HOK.out)
      have ei : (if (-1 : Int) < 0 then none else L[(-1 : Int).toNat]?) = none := if_pos (by decide)
      rw [ei] at HN
      have i2 : (-1 : Int) ≤ n := by omega
      clear ei HS2 HR2
      go_wp2_with (go_at_call 31; refine HN.out.mono ?_; rintro e w1 ⟨rfl, hb1⟩; have HB1 := Lib.hid hb1; clear hb1)
      exact ⟨⟨1, by omega, rfl, (hb.out.trans (HB1.out.mono hb.out.size)).alloc (Nat.le_trans hb.out.size HB1.out.size) _⟩, by simp [intOf]⟩
    · by_cases hk1 : k = n + 2
      · subst hk1
        have ej : (((n + 2 : Nat) : Int) - 1) = n + 1 := by omega
        rw [ej] at *
        have i2 : decide ((n : Int) + 1 ≤ n) = false := decide_eq_false (by omega)
        have hpl : (pathN (L.map Nd.thread)).length ≤ maxLen := by
          have h1 := pathN_len (L.map Nd.thread)
          rw [List.length_map, HL.out] at h1
          unfold maxLen; omega
        have hll : (leftN L).length ≤ maxLen := by rw [leftN_len61 L HOK.out.1]; unfold maxLen; omega
        have HPL := Lib.hid hpl
        have HLL := Lib.hid hll
        clear hpl hll
        go_wp2_with fail
        refine (path_any wr b v L HS2.out HOK.out HROW.out).mono ?_
        rintro e w1 ⟨pv, rfl, p1, p2, p3⟩
        have P1 := Lib.hid p1
        have P2 := Lib.hid p2
        have P3 := Lib.hid p3
        have HR3 : Hid (RefAt w1 (.slice ad n cap) L) := HR2.out.keeps (Keeps.ofBelow p2 NoBlk) (fun _ _ h => h)
        have HS3 : Hid (StackAt w1 b v L) := HS2.out.keeps (Keeps.ofBelow p2 NoBlk) (fun _ _ h => h)
        clear p1 p2 p3 HR2 HS2
        go_wp2_with fail
        refine (rpath_any w1 _ L HR3.out HOK.out).mono ?_
        rintro e w2 ⟨qv, rfl, p1, p2, p3⟩
        have Q1 := Lib.hid p1
        have P12 : Hid (IntsAt w2 pv (pathN (L.map Nd.thread))) := P1.out.keeps (Keeps.ofBelow p2 NoBlk) (fun _ _ h => h)
        have B2 : Hid (Below wr.heap.size wr w2) := P2.out.trans (p2.mono P2.out.size)
        have HR4 : Hid (RefAt w2 (.slice ad n cap) L) := HR3.out.keeps (Keeps.ofBelow p2 NoBlk) (fun _ _ h => h)
        have HS4 : Hid (StackAt w2 b v L) := HS3.out.keeps (Keeps.ofBelow p2 NoBlk) (fun _ _ h => h)
        clear p1 p2 p3 HR3 HS3 P1 P2 P3
        go_wp2_with fail
        refine (left_any w2 b v L HS4.out HOK.out).mono ?_
        rintro e w3 ⟨lv, rfl, p1, p2, p3⟩
        have L3 := Lib.hid p1
        have P13 : Hid (IntsAt w3 pv (pathN (L.map Nd.thread))) := P12.out.keeps (Keeps.ofBelow p2 NoBlk) (fun _ _ h => h)
        have Q13 : Hid (IntsAt w3 qv (pathN (L.map Nd.thread))) := Q1.out.keeps (Keeps.ofBelow p2 NoBlk) (fun _ _ h => h)
        have B3 : Hid (Below wr.heap.size wr w3) := B2.out.trans (p2.mono B2.out.size)
        have HR5 : Hid (RefAt w3 (.slice ad n cap) L) := HR4.out.keeps (Keeps.ofBelow p2 NoBlk) (fun _ _ h => h)
        clear p1 p2 p3 HR4 HS4 P12 Q1 B2
        go_wp2_with fail
        refine (rleft_any w3 _ L HR5.out HOK.out).mono ?_
        rintro e w4 ⟨mv, rfl, p1, p2, p3⟩
        have M4 := Lib.hid p1
        have P14 : Hid (IntsAt w4 pv (pathN (L.map Nd.thread))) := P13.out.keeps (Keeps.ofBelow p2 NoBlk) (fun _ _ h => h)
        have Q14 : Hid (IntsAt w4 qv (pathN (L.map Nd.thread))) := Q13.out.keeps (Keeps.ofBelow p2 NoBlk) (fun _ _ h => h)
        have L14 : Hid (IntsAt w4 lv (leftN L)) := L3.out.keeps (Keeps.ofBelow p2 NoBlk) (fun _ _ h => h)
        have B4 : Hid (Below w.heap.size w w4) := hb.out.trans ((B3.out.trans (p2.mono B3.out.size)).mono hb.out.size)
        clear p1 p2 p3 HR5 P13 Q13 B3 L3
        go_wp2_with fail
        refine (equal_any pv qv _ _ w4 P14.out Q14.out HPL.out HPL.out).mono ?_
        rintro e w5 ⟨rfl, c5, rfl⟩
        rw [decide_eq_true rfl]
        go_wp2_with fail
        refine (equal_any lv mv _ _ _ (L14.out.keeps ((Keeps.refl NoBlk _).drewN c5) (fun _ _ h => h)) (M4.out.keeps ((Keeps.refl NoBlk _).drewN c5) (fun _ _ h => h)) HLL.out HLL.out).mono ?_
        rintro e w6 ⟨rfl, c6, rfl⟩
        rw [decide_eq_true rfl]
        go_wp2
        go_ret
        exact ⟨rfl, belowD B4.out _⟩
      · by_cases hk2 : k = n + 1
        · subst hk2
          have ej : (((n + 1 : Nat) : Int) - 1) = n := by omega
          rw [ej] at *
          have HN := Lib.hid (node_any wr b v L n HS2.out HOK.out)
          have ei : (if (n : Int) < 0 then none else L[(n : Int).toNat]?) = none := by rw [if_neg (by omega), Int.toNat_natCast, List.getElem?_eq_none (by rw [HL.out]; exact Nat.le_refl _)]
          rw [ei] at HN
          have i1 : (0 : Int) ≤ n := by omega
          have i2 : decide ((n : Int) < 0) = false := decide_eq_false (by omega)
          have i3 : (n : Int) ≤ n := by omega
          have i4 : ((n : Int) == n) = true := by simp
          clear ei HS2 HR2
          go_wp2_with (go_at_call 31; refine HN.out.mono ?_; rintro e w1 ⟨rfl, hb1⟩; have HB1 := Lib.hid hb1; clear hb1)
          exact ⟨⟨n + 2, by omega, congrArg (Value.int .i64) (by omega), (hb.out.trans (HB1.out.mono hb.out.size)).alloc (Nat.le_trans hb.out.size HB1.out.size) _⟩, by simp only [intOf]; omega⟩
        · obtain ⟨j, rfl⟩ : ∃ j, k = j + 1 := ⟨k - 1, by omega⟩
          have ej : (((j + 1 : Nat) : Int) - 1) = j := by omega
          rw [ej] at *
          have hjn : j < L.length := by rw [HL.out]; omega
          have hx : L[j]? = some L[j] := List.getElem?_eq_getElem hjn
          obtain ⟨x, ex⟩ : ∃ x, x = L[j] := ⟨_, rfl⟩
          rw [← ex] at hx
          have hxo : x.Ok := by rw [ex]; exact HOK.out.2 _ (List.getElem_mem hjn)
          obtain ⟨g, e⟩ : ∃ g, ad = some ⟨g, 0, none⟩ := by
            rcases HR.out.shape with ⟨e, e2⟩ | ⟨g, cap', e, _⟩
            · subst e2; simp at hjn
            · simp at e; exact ⟨g, e.1⟩
          subst e
          have HR3 : Hid (RefAt wr (.slice (some ⟨g, 0, none⟩) L.length cap) L) := by rw [HL.out]; exact HR2.out
          have r0 : Hid (wr.rangeAt g (j * 25) ((bitsN x.sleep).map Value.bool)) := bits_range _ (fun k hk => HR3.out.sleep hx k hk)
          have r1 : Hid (wr.rangeAt g (j * 25 + 8) ((bitsN x.back).map Value.bool)) := bits_range _ (fun k hk => HR3.out.back hx k hk)
          have r2 : Hid (wr.rangeAt g (j * 25 + 16) ((bitsN x.done).map Value.bool)) := bits_range _ (fun k hk => HR3.out.done hx k hk)
          have r3 : wr.cell? ⟨g, j * 25 + 24, none⟩ = some (.int .i64 x.thread) := HR3.out.thread hx
          have q2 : g < wr.heap.size := World.block_lt_of_cell? wr _ r3
          have HN := Lib.hid (node_any wr b v L j HS2.out HOK.out)
          have ei : (if (j : Int) < 0 then none else L[(j : Int).toNat]?) = some x := by rw [if_neg (by omega), Int.toNat_natCast, hx]
          rw [ei] at HN
          have i1 : (0 : Int) ≤ j := by omega
          have i2 : (j : Int) < n := by omega
          have i3 : (j : Int) ≤ n := by omega
          have i4 : ((j : Int) == n) = false := by rw [beq_eq_false_iff_ne]; omega
          have i5 : decide ((j : Int) < 0) = false := decide_eq_false (by omega)
          have HXO := Lib.hid hxo
          have HR3c := Lib.hid r3
          clear HS2 HR2 HR3 ei ex hx hxo r3
          obtain ⟨xs, xb, xd, xt⟩ := x
          dsimp only at HN HXO HR3c r0 r1 r2
          go_upto_region 11 with (go_at_call 31; refine HN.out.mono ?_; rintro e w1 ⟨rfl, hb1⟩; have HB1 := Lib.hid hb1; clear hb1)
          have HY : Hid ((w1.alloc (.cells #[.int .u64 xs, .int .u64 xb, .int .u64 xd, .int .i64 xt] 52)).heap[w1.heap.size]? = some (.cells #[.int .u64 xs, .int .u64 xb, .int .u64 xd, .int .i64 xt] 52 (0, 0))) := heap_alloc_new w1 _
          have HB2 : Hid (Below wr.heap.size wr (w1.alloc (.cells #[.int .u64 xs, .int .u64 xb, .int .u64 xd, .int .i64 xt] 52))) := HB1.out.alloc HB1.out.size _
          have q3 : Hid (w1.heap.size < (w1.alloc (.cells #[.int .u64 xs, .int .u64 xb, .int .u64 xd, .int .i64 xt] 52)).heap.size) := by show _ < _; simp
          generalize w1.alloc (.cells #[.int .u64 xs, .int .u64 xb, .int .u64 xd, .int .i64 xt] 52) = w2 at HY HB2 q3 ⊢
          clear HB1
          generalize w1.heap.size = y at HY q3 ⊢
          iterate 13 go_step
          refine wpList_load_mid (by rfl) _ _ (by rfl) g (j * 25) (by rfl) ((bitsN xs).map Value.bool) _ (range_keeps r0.out (Keeps.ofBelow HB2.out NoBlk) (fun h => h)) Tryd.underlying59 rfl (by rw [List.length_map, bitsN_len]; kernel_rfl) ?_
          go_wp2_with fail
          refine (rnum_any (bitsN xs) _ (bitsN_len _)).mono ?_
          rintro e w3 ⟨rfl, hbb⟩
          rw [numN_bits _ HXO.out.1]
          have HY1 : Hid (w3.heap[y]? = some (.cells #[.int .u64 xs, .int .u64 xb, .int .u64 xd, .int .i64 xt] 52 (0, 0))) := (hbb.block y q3.out).trans HY.out
          have HB3 : Hid (Below wr.heap.size wr w3) := HB2.out.trans (hbb.mono HB2.out.size)
          have q31 : Hid (y < w3.heap.size) := Nat.lt_of_lt_of_le q3.out hbb.size
          clear HY HB2 q3 hbb
          go_upto_region 12 with fail
          iterate 13 go_step
          refine wpList_load_mid (by rfl) _ _ (by rfl) g (j * 25 + 8) (by rfl) ((bitsN xb).map Value.bool) _ (range_keeps r1.out (Keeps.ofBelow HB3.out NoBlk) (fun h => h)) Tryd.underlying59 rfl (by rw [List.length_map, bitsN_len]; kernel_rfl) ?_
          go_wp2_with fail
          refine (rnum_any (bitsN xb) _ (bitsN_len _)).mono ?_
          rintro e w4 ⟨rfl, hbb⟩
          rw [numN_bits _ HXO.out.2.1]
          have HY2 : Hid (w4.heap[y]? = some (.cells #[.int .u64 xs, .int .u64 xb, .int .u64 xd, .int .i64 xt] 52 (0, 0))) := (hbb.block y q31.out).trans HY1.out
          have HB4 : Hid (Below wr.heap.size wr w4) := HB3.out.trans (hbb.mono HB3.out.size)
          have q32 : Hid (y < w4.heap.size) := Nat.lt_of_lt_of_le q31.out hbb.size
          clear HY1 HB3 q31 hbb
          go_upto_region 13 with fail
          iterate 13 go_step
          refine wpList_load_mid (by rfl) _ _ (by rfl) g (j * 25 + 16) (by rfl) ((bitsN xd).map Value.bool) _ (range_keeps r2.out (Keeps.ofBelow HB4.out NoBlk) (fun h => h)) Tryd.underlying59 rfl (by rw [List.length_map, bitsN_len]; kernel_rfl) ?_
          go_wp2_with fail
          refine (rnum_any (bitsN xd) _ (bitsN_len _)).mono ?_
          rintro e w5 ⟨rfl, hbb⟩
          rw [numN_bits _ HXO.out.2.2.1]
          have HY3 : Hid (w5.heap[y]? = some (.cells #[.int .u64 xs, .int .u64 xb, .int .u64 xd, .int .i64 xt] 52 (0, 0))) := (hbb.block y q32.out).trans HY2.out
          have HB5 : Hid (Below wr.heap.size wr w5) := HB4.out.trans (hbb.mono HB4.out.size)
          have q33 : Hid (y < w5.heap.size) := Nat.lt_of_lt_of_le q32.out hbb.size
          clear HY2 HB4 q32 hbb
          go_upto_region 14 with fail
          have y0 : w5.cell? ⟨y, 0, none⟩ = some (.int .u64 xs) := cell_of_row w5 y 0 _ _ _ HY3.out
          have y1 : w5.cell? ⟨y, 1, none⟩ = some (.int .u64 xb) := cell_of_row w5 y 1 _ _ _ HY3.out
          have y2 : w5.cell? ⟨y, 2, none⟩ = some (.int .u64 xd) := cell_of_row w5 y 2 _ _ _ HY3.out
          have y3 : w5.cell? ⟨y, 3, none⟩ = some (.int .i64 xt) := cell_of_row w5 y 3 _ _ _ HY3.out
          have z3 : w5.cell? ⟨g, j * 25 + 24, none⟩ = some (.int .i64 xt) := (HB5.out.cell (p := ⟨g, j * 25 + 24, none⟩) q2).trans HR3c.out
          have e1 : (xs != xs) = false := by simp
          have e2 : (xb != xb) = false := by simp
          have e3 : (xd != xd) = false := by simp
          have e4 : (xt != xt) = false := by simp
          go_quiet (fail)
          go_wp2
          exact ⟨⟨j + 2, by omega, congrArg (Value.int .i64) (by omega), belowD (hb.out.trans (HB5.out.mono hb.out.size)) _⟩, by simp only [intOf]; omega⟩
end Go.Proofs.YtjfbiganijldfaaDoor
