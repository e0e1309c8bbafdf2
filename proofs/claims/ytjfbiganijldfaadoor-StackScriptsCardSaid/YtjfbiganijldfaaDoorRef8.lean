/- The reference's calls on rows of nodes: Open, the walk. -/
import Derived.Test.YtjfbiganijldfaaDoorRef7
namespace Go.Proofs.YtjfbiganijldfaaDoor
open Go.RowKit
set_option linter.unusedVariables false
set_option linter.unusedSimpArgs false
set_option linter.unnecessarySimpa false

section
variable (g n cap : Nat) (ad : Option Addr) (a e : Int) (w : World) (xs : List Value)
/-- how Open ends where it lays a node -/
def ROpened (w : World) (v : Value) (n : Nat) (xs : List Value) (x : Nd) (r : Ending) (w' : World) : Prop :=
  ∃ W gg cap', r = .returned (.tuple #[.slice (some ⟨gg, 0, none⟩) (n + 1) cap', .bool true]) ∧ Keeps NoBlk w W ∧ w'.ownsRow 0 61 25 (.slice (some ⟨gg, 0, none⟩) (n + 1) cap') (n + 1) (xs ++ x.rcells) ∧ W.grownBy w' v.ownBlock ∧ (v.ownBlock = some gg ∨ gg = W.heap.size)
set_option maxHeartbeats 1000000 in
theorem ropen_raw (hn : n ≤ 60) (ha : 0 ≤ a ∧ a < 18446744073709551616) (he : 0 ≤ e ∧ e < 18446744073709551616)
    (hown : w.ownsRow 0 61 25 (.slice ad n cap) n xs)
    (hc : n = 0 ∨ (ad = some ⟨g, 0, none⟩ ∧ ∃ m t, n = m + 1 ∧ w.cell? ⟨g, m * 25 + 24, none⟩ = some (.int .i64 t) ∧ 0 ≤ t)) :
    Calls Tryd.prog 15 #[.slice ad n cap, .int .u64 a, .int .u64 e] w (ROpened w (.slice ad n cap) n xs (openNd a e)) := by
  obtain ⟨A, hA⟩ : ∃ A, A = ((bitsN a).map Value.bool).toArray := ⟨_, rfl⟩
  obtain ⟨E, hE⟩ : ∃ A, A = ((bitsN e).map Value.bool).toArray := ⟨_, rfl⟩
  have HA0 := fun w => rbits_any a w ha
  have HE0 := fun w => rbits_any e w he
  rw [← hA] at HA0
  rw [← hE] at HE0
  have HA := Lib.hid HA0
  have HE := Lib.hid HE0
  have HAB := Lib.hid hA
  have HEB := Lib.hid hE
  have HOW := Lib.hid hown
  have HT := Lib.hid (andNot_test e (a % 256) he (by omega))
  obtain ⟨s, hs0⟩ : ∃ s, s = bits .andNot .u64 e (a % 256) := ⟨_, rfl⟩
  have HS := Lib.hid hs0
  have sA : Hid (A.size = 8 ∧ A.all (·.oneCell') = true) := by rw [HAB.out]; exact bitsV_one a
  have sE : Hid (E.size = 8 ∧ E.all (·.oneCell') = true) := by rw [HEB.out]; exact bitsV_one e
  have HN := Lib.hid hn
  clear hA hE HA0 HE0 hown hs0
  rcases hc with rfl | ⟨rfl, m, t, rfl, ht, h0⟩
  rotate_left
  have e1 := wrapNat m (by omega)
  have e2 : (0 : Int) ≤ m := by omega
  have e3 : (m : Int) < (m : Int) + 1 := by omega
  have e4 : ((m : Int) + 1 == 61) = false := by rw [beq_eq_false_iff_ne]; omega
  have e5 : (0 : Int) < (m : Int) + 1 := by omega
  have e6 : (t == -1) = false := by rw [beq_eq_false_iff_ne]; omega
  all_goals (
    go_enter Tryd.func15, Tryd.ntmps15
    go_upto_region 4 with fail
    go_step
    refine wpList_buildTo rfl _ _ rfl _ rfl (Nd.rcells ⟨0, 0, 0, -1⟩).toArray (by kernel_rfl) ?_
    refine Great.wpList_allocTo rfl _ rfl (.pointer (some ⟨w.heap.size, 0, none⟩)) (.cells (Nd.rcells ⟨0, 0, 0, 0⟩).toArray 61) (by kernel_rfl) ?_
    refine wpList_store_rowTo rfl _ _ _ rfl rfl w.heap.size (Nd.rcells ⟨0, 0, 0, -1⟩).toArray (by kernel_rfl) (by kernel_rfl) 61 (Nd.rcells ⟨0, 0, 0, 0⟩).toArray (heap_alloc_last w _) (by kernel_rfl) (by kernel_rfl) (by kernel_rfl) ?_
    rw [World.setRow_alloc_new]
    have hx1 := heap_alloc_last w (.cells (Nd.rcells ⟨0, 0, 0, -1⟩).toArray 61)
    have hb1 : Keeps NoBlk w _ := (Keeps.refl NoBlk w).alloc (.cells (Nd.rcells ⟨0, 0, 0, -1⟩).toArray 61)
    generalize w.alloc (.cells (Nd.rcells ⟨0, 0, 0, -1⟩).toArray 61) = w1 at hx1 hb1 ⊢
    have HX := Lib.hid hx1
    have HB := Lib.hid hb1
    have B0 : Hid (w.heap.size < w1.heap.size) := (Array.getElem?_eq_some_iff.1 hx1).1
    generalize Value.agg (Nd.rcells ⟨0, 0, 0, -1⟩).toArray = junk
    clear hx1 hb1
    try clear ht
    go_wp2_with fail
    refine (HA.out _).mono ?_
    rintro r w2 ⟨rfl, hb2⟩
    have R2 : Hid (w2.rangeAt w.heap.size 0 (Nd.rcells ⟨0, 0, 0, -1⟩)) := range_of_block ((hb2.block w.heap.size B0.out).trans HX.out)
    have T2 : Hid (w2.there w.heap.size 0 25) := there_of_block (cs := Nd.rcells ⟨0, 0, 0, -1⟩) ((hb2.block w.heap.size B0.out).trans HX.out)
    have K2 : Hid (Keeps NoBlk w w2) := HB.out.trans (Keeps.ofBelow hb2 _) (fun _ _ h => h)
    have B2 : Hid (w.heap.size < w2.heap.size) := Nat.lt_of_lt_of_le B0.out hb2.size
    clear hb2 HX HB B0
    dsimp only
    go_step
    go_step
    go_step
    go_step
    refine wpList_store_mid (by rfl) _ _ _ (by rfl) w.heap.size 0 A (by rfl) (by rfl) (fun j hj => T2.out j (by rw [sA.out.1] at hj; omega)) (by rw [sA.out.1]; kernel_rfl) sA.out.2 ?_
    have R3 : Hid ((w2.setCells w.heap.size 0 A.toList).rangeAt w.heap.size 0 (Nd.rcells ⟨a % 256, 0, 0, -1⟩)) := by
      rw [HAB.out]
      have := range_put (p' := (bitsN (a % 256)).map Value.bool) R2.out T2.out (by simp [bitsN_len])
      rw [bitsN_mod a ha.1] at this
      show World.rangeAt _ _ _ _
      unfold Nd.rcells
      rw [bitsN_mod a ha.1]
      exact this
    have T3 : Hid ((w2.setCells w.heap.size 0 A.toList).there w.heap.size 0 25) := there_setCells' T2.out _ (by rw [Array.length_toList, sA.out.1]; omega)
    have K3 : Hid (Keeps NoBlk w (w2.setCells w.heap.size 0 A.toList)) := Keeps.setCells (fun h => absurd h (by omega)) _ _ _ K2.out
    have B3 : Hid (w.heap.size < (w2.setCells w.heap.size 0 A.toList).heap.size) := Nat.lt_of_lt_of_le B2.out (Keeps.setCells (S := fun k => k = w.heap.size) (fun _ => rfl) A.toList 0 w2 (Keeps.refl _ _)).size
    generalize w2.setCells w.heap.size 0 A.toList = w3 at R3 T3 K3 B3 ⊢
    clear R2 T2 K2 B2
    go_wp2_with fail
    refine (HE.out _).mono ?_
    rintro r w4 ⟨rfl, hb4⟩
    have K34 : Keeps NoBlk w3 w4 := Keeps.ofBelow hb4 _
    have R4 : Hid (w4.rangeAt w.heap.size 0 (Nd.rcells ⟨a % 256, 0, 0, -1⟩)) := range_keeps R3.out K34 (fun h => h)
    have T4 : Hid (w4.there w.heap.size 0 25) := fun j hj => ⟨by rw [hb4.cell (p := ⟨w.heap.size, 0 + j, none⟩) B3.out]; exact (T3.out j hj).1, by rw [hb4.frozen (p := ⟨w.heap.size, 0 + j, none⟩) B3.out]; exact (T3.out j hj).2⟩
    have K4 : Hid (Keeps NoBlk w w4) := K3.out.trans K34 (fun _ _ h => h)
    have B4 : Hid (w.heap.size < w4.heap.size) := Nat.lt_of_lt_of_le B3.out hb4.size
    clear R3 T3 K3 B3 hb4 K34
    dsimp only
    go_step
    refine Great.wpList_allocTo rfl _ rfl (.pointer (some ⟨w4.heap.size, 0, none⟩)) (.cells ((bitsN 0).map Value.bool).toArray 59) (by kernel_rfl) ?_
    refine wpList_store_rowTo rfl _ _ _ rfl rfl w4.heap.size E (by rfl) (by rfl) 59 ((bitsN 0).map Value.bool).toArray (heap_alloc_last w4 _) (by rw [sE.out.1]; kernel_rfl) (by rw [sE.out.1]; rfl) sE.out.2 ?_
    rw [World.setRow_alloc_new]
    have CO : Hid (∀ k, k < 8 → (w4.alloc (.cells E 59)).cell? ⟨w4.heap.size, k, none⟩ = some (.bool (e.toNat.testBit k))) := fun k hk => by
      rw [cell_of_row _ _ k E _ (0, 0) (heap_alloc_last w4 _), HEB.out]
      simp [bitsN_get e k hk]
    have R5 : Hid ((w4.alloc (.cells E 59)).rangeAt w.heap.size 0 (Nd.rcells ⟨a % 256, 0, 0, -1⟩)) := World.rangeAt_alloc R4.out _
    have T5 : Hid ((w4.alloc (.cells E 59)).there w.heap.size 0 25) := fun j hj => by
      have := T4.out j hj
      have hb := Keeps.ofBelow ((Below.refl w4.heap.size w4).alloc (Nat.le_refl _) (.cells E 59)) NoBlk
      refine ⟨?_, ?_⟩
      · rw [World.cell?_of_block (hb.block w.heap.size B4.out (fun h => h))]; exact this.1
      · rw [World.frozen?_of_block (hb.block w.heap.size B4.out (fun h => h))]; exact this.2
    have K5 : Hid (Keeps NoBlk w (w4.alloc (.cells E 59))) := K4.out.alloc _
    have B5 : Hid (w.heap.size < (w4.alloc (.cells E 59)).heap.size) := Nat.lt_of_lt_of_le B4.out (by simp)
    have N5 : w.heap.size ≠ w4.heap.size := Nat.ne_of_lt B4.out
    generalize w4.alloc (.cells E 59) = w5 at CO R5 T5 K5 B5 ⊢
    clear R4 T4 K4 B4
    generalize w4.heap.size = b1 at CO N5 ⊢
    obtain ⟨b0, hb0⟩ : ∃ b, b = w.heap.size := ⟨_, rfl⟩
    have HB0 := Lib.hid hb0
    rw [← hb0] at R5 T5 B5 N5 ⊢
    clear hb0
    go_wp2_with fail
    go_loopw [11] (fun i wr => ∃ k : Nat, k ≤ 8 ∧ i = .int .i64 k ∧ Hid (∀ j, j < k → s.toNat.testBit j = false) ∧ wr = w5) (fun i _ => 8 - (intOf i).toNat)
    case atStart => exact ⟨0, Nat.zero_le _, rfl, (fun j hj => absurd hj (by omega)), rfl⟩
    case round =>
      obtain ⟨k, hk, rfl, H0, rfl⟩ := hrel
      by_cases hlt : k < 8
      · have i1 : (0 : Int) ≤ k := by omega
        have i3 : (k : Int) < 8 := by omega
        have c0 := CO.out k hlt
        have c1 := range_cell R5.out k _ (rcells_sleep ⟨a % 256, 0, 0, -1⟩ k hlt)
        rw [Nat.zero_add] at c1
        have c2 := range_cell R5.out (8 + k) _ (rcells_back ⟨a % 256, 0, 0, -1⟩ k hlt)
        rw [Nat.zero_add] at c2
        have f2 := (T5.out (8 + k) (by omega)).2
        rw [Nat.zero_add] at f2
        have hk2 := HT.out k (by omega)
        rw [← HS.out] at hk2
        obtain ⟨x, hx⟩ : ∃ x, x = (a % 256).toNat.testBit k := ⟨_, rfl⟩
        obtain ⟨y, hy⟩ : ∃ y, y = e.toNat.testBit k := ⟨_, rfl⟩
        dsimp only at c1 c2
        rw [← hx] at c1 hk2
        rw [← hy] at c0 hk2
        have HK := Lib.hid hk2
        clear hk2 hx hy
        cases y with
        | false =>
          have H1 : Hid (∀ j, j < k + 1 → s.toNat.testBit j = false) := fun j hj => by
            rcases Nat.lt_or_ge j k with h | h
            · exact H0.out j h
            · have : j = k := by omega
              rw [this, HK.out]; rfl
          go_wp2
          exact ⟨⟨k + 1, by omega, by go_num, H1, trivial⟩, by simp [intOf]; omega⟩
        | true =>
          cases x with
          | true =>
            have H1 : Hid (∀ j, j < k + 1 → s.toNat.testBit j = false) := fun j hj => by
              rcases Nat.lt_or_ge j k with h | h
              · exact H0.out j h
              · have : j = k := by omega
                rw [this, HK.out]; rfl
            go_wp2
            exact ⟨⟨k + 1, by omega, by go_num, H1, trivial⟩, by simp [intOf]; omega⟩
          | false =>
            have HL := Lib.hid (leastN_at s k hlt (by rw [HK.out]; rfl) H0.out)
            have R6 : Hid ((wr.setCell ⟨b0, 8 + k, none⟩ (.bool true)).rangeAt b0 0 (openNd a e).rcells) := by
              have := range_set R5.out (8 + k) (by rw [rd_len]; omega) (.bool true)
              rw [Nat.zero_add] at this
              rw [← rcells_set_back _ k (putN 0 k) true hlt (bitsN_put 0 k hlt (by omega))] at this
              have e : openNd a e = ⟨a % 256, putN 0 k, 0, -1⟩ := by rw [openNd, ← HS.out, HL.out]
              rw [e]
              exact this
            have K6 : Hid (Keeps NoBlk w (wr.setCell ⟨b0, 8 + k, none⟩ (.bool true))) := K5.out.setCell (fun h => absurd h (by rw [HB0.out]; exact Nat.lt_irrefl _)) _
            go_upto_region 12 with fail
            generalize wr.setCell ⟨b0, 8 + k, none⟩ (.bool true) = w6 at R6 K6 ⊢
            go_step
            go_step
            go_step
            go_step
            refine wpList_load_mid (by rfl) _ _ (by rfl) b0 0 (by rfl) (openNd a e).rcells _ R6.out Tryd.underlying61 rfl (by rw [rd_len]; kernel_rfl) ?_
            refine Great.wpList_buildSliceTo (by rfl) _ 61 1 _ (by rfl) w6.heap.size rfl _ (by rfl) Tryd.underlying36 (openNd a e).rcells.toArray (by simp only [List.map_toArray, List.map_cons, List.map_nil]; exact built_rnode (openNd a e)) ?_
            obtain ⟨i0, hi0, hz0, hz1, hz2⟩ := info_parts infoRNode
            refine wpList_append_lies _ (by rfl) _ _ 36 (by rfl) 0 61 i0 _ 25 32 Tryd.underlying36 hi0 hz0 hz1 hz2 (by kernel_rfl) (by decide) _ _ _ (by rfl) ((ownsRow_keeps HOW.out K6.out (fun _ _ h => h)).alloc _) ⟨w6.heap.size, 0, none⟩ 1 1 (openNd a e).rcells (by rfl) (by rw [rd_len]) (World.news_of_block (cs := (openNd a e).rcells.toArray) (t := 61) (fr := (0, 0)) (heap_alloc_new w6 _)) (rcells_one _) (by decide) (by have := HN.out; unfold maxLen; omega) (by have := HN.out; omega) (Nat.zero_le _) _ rfl ?_
            intro gg cap' w7 hown7 hgr7 hat7 hlt7
            have HF : Hid (ROpened w _ _ _ (openNd a e) _ w7) := ⟨_, gg, cap', rfl, K6.out.alloc _, hown7, hgr7, hat7⟩
            clear hown7 hgr7 hat7 hlt7
            go_wp2
            go_ret2
            exact HF.out
      · have hkn : k = 8 := by omega
        subst hkn
        have HL := Lib.hid (leastN_not s H0.out)
        have R6 : Hid (wr.rangeAt b0 0 (openNd a e).rcells) := by
          have e : openNd a e = ⟨a % 256, 0, 0, -1⟩ := by rw [openNd, ← HS.out, HL.out]; rfl
          rw [e]
          exact R5.out
        have K6 := K5
        generalize wr = w6 at R6 K6 ⊢
        clear R5 T5 K5 B5 CO
        go_upto_region 12 with fail
        go_step
        go_step
        go_step
        go_step
        refine wpList_load_mid (by rfl) _ _ (by rfl) b0 0 (by rfl) (openNd a e).rcells _ R6.out Tryd.underlying61 rfl (by rw [rd_len]; kernel_rfl) ?_
        refine Great.wpList_buildSliceTo (by rfl) _ 61 1 _ (by rfl) w6.heap.size rfl _ (by rfl) Tryd.underlying36 (openNd a e).rcells.toArray (by simp only [List.map_toArray, List.map_cons, List.map_nil]; exact built_rnode (openNd a e)) ?_
        obtain ⟨i0, hi0, hz0, hz1, hz2⟩ := info_parts infoRNode
        refine wpList_append_lies _ (by rfl) _ _ 36 (by rfl) 0 61 i0 _ 25 32 Tryd.underlying36 hi0 hz0 hz1 hz2 (by kernel_rfl) (by decide) _ _ _ (by rfl) ((ownsRow_keeps HOW.out K6.out (fun _ _ h => h)).alloc _) ⟨w6.heap.size, 0, none⟩ 1 1 (openNd a e).rcells (by rfl) (by rw [rd_len]) (World.news_of_block (cs := (openNd a e).rcells.toArray) (t := 61) (fr := (0, 0)) (heap_alloc_new w6 _)) (rcells_one _) (by decide) (by have := HN.out; unfold maxLen; omega) (by have := HN.out; omega) (Nat.zero_le _) _ rfl ?_
        intro gg cap' w7 hown7 hgr7 hat7 hlt7
        have HF : Hid (ROpened w _ _ _ (openNd a e) _ w7) := ⟨_, gg, cap', rfl, K6.out.alloc _, hown7, hgr7, hat7⟩
        clear hown7 hgr7 hat7 hlt7
        go_wp2
        go_ret2
        exact HF.out)
end
end Go.Proofs.YtjfbiganijldfaaDoor
