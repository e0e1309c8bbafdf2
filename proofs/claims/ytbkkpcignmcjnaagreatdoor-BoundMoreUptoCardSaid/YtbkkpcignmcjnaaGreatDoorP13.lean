/- Layers 2, 3: is the text "x", is the empty text a name? Printed by genin4.py. -/
import Derived.Test.YtbkkpcignmcjnaaGreatDoorP12
namespace Go.Proofs.YtbkkpcignmcjnaaGreatDoor
open Go.RowKit
set_option linter.unusedVariables false
set_option linter.unusedSimpArgs false
set_option linter.unnecessarySimpa false

theorem infoToken : (Tryz.prog.info? 136).map (fun i => (i.zero, i.size, i.bytes)) = some (some (.agg #[.int .i64 0, .string { data := #[] }, .int .i64 0, .int .i64 0]), 4, 40) := by kernel_rfl
set_option maxRecDepth 8000 in
set_option maxHeartbeats 1000000 in
theorem tokens_e (w : World) : Calls Tryz.prog 91 #[.string { data := #[] }] w fun e w' => (∃ ad c, e = .returned (.tuple #[.slice ad 1 c, .agg #[.int .i64 0, .int .i64 0, .string { data := #[] }]])) ∧ Keeps NoBlk w w' := by
  obtain ⟨j0, hj0, hz0, hz1, hz2⟩ := info_parts infoToken
  go_enter Tryz.func91, Tryz.ntmps91
  go_upto_region 1 with fail
  obtain ⟨b3, hb3⟩ : ∃ z, z = w.heap.size := ⟨_, rfl⟩
  have hr3 : RowAt (w.alloc (.cells #[.int .i64 0, .int .i64 0, .string { data := #[] }] 132)) b3 [.int .i64 0, .int .i64 0, .string { data := #[] }] := by rw [hb3]; exact RowAt.ofBlock (heap_alloc_new w _)
  have hk1 : Keeps NoBlk w (w.alloc (.cells #[.int .i64 0, .int .i64 0, .string { data := #[] }] 132)) := (Keeps.refl _ _).alloc _
  have HB : Hid (w.heap.size ≤ b3) := by show _ ≤ _; omega
  rw [← hb3]
  generalize w.alloc (.cells #[.int .i64 0, .int .i64 0, .string { data := #[] }] 132) = w1 at hr3 hk1 ⊢
  have R3 := Lib.hid hr3
  have K1 := Lib.hid hk1
  clear hr3 hk1 hb3
  go_upto_region 2 with (go_at_call 100; refine (runes_e _).mono ?_; rintro e w2 ⟨⟨ad0, n0, c0, rfl⟩, g1⟩; have G1 := Lib.hid g1; clear g1)
  obtain ⟨b5, hb5⟩ : ∃ z, z = w2.heap.size := ⟨_, rfl⟩
  have r5 : RowAt (w2.alloc (.cells #[.int .i64 0, .int .i64 0, .string { data := #[] }] 132)) b5 [.int .i64 0, .int .i64 0, .string { data := #[] }] := by rw [hb5]; exact RowAt.ofBlock (heap_alloc_new w2 _)
  have k3 : Keeps NoBlk w1 (w2.alloc (.cells #[.int .i64 0, .int .i64 0, .string { data := #[] }] 132)) := G1.out.alloc _
  rw [← hb5]
  generalize w2.alloc (.cells #[.int .i64 0, .int .i64 0, .string { data := #[] }] 132) = w3 at r5 k3 ⊢
  obtain ⟨d0, d1, d2⟩ := r5.three
  have K3 := Lib.hid k3
  clear r5 k3 hb5 G1
  go_upto_region 5 with fail
  clear d0 d1 d2
  go_upto_region 6 with (go_at_call 101; refine (passed_e _).mono ?_; rintro e w4 ⟨rfl, g1⟩; have G1 := Lib.hid g1; clear g1)
  refine wp_loop_rounds 1 ?_
  rw [rounds_succ]
  go_upto_region 14 with fail
  go_upto_region 99 with (at_builtin; refine wpList_append_src _ (by rfl) _ _ 130 (by rfl) 0 136 j0 _ 4 40 Tryz.underlying130 hj0 hz0 hz1 hz2 rfl (by decide) (Value.slice none 0 0) 0 ([]) (by rfl) (World.ownsRow_nil _ _ _ _) (.slice (some ⟨w4.heap.size, 0, none⟩) 1 1) 1 [.int .i64 5, .string { data := #[] }, .int .i64 0, .int .i64 0] (by rfl) (RowAt.src (RowAt.ofBlock (heap_alloc_new w4 _))) rfl (by intro q hq; simp only [List.mem_cons, List.not_mem_nil, or_false] at hq; rcases hq with rfl | rfl | rfl | rfl <;> rfl) (by unfold maxLen; omega) (by omega) (Nat.zero_le _) ?_; intro ad c w5 ha; have k5 := AppOut.keeps ha ((Keeps.refl NoBlk w4).alloc _) (fun q e _ => by simp [Value.ownBlock] at e); have K5 := Lib.hid k5; have K14 : Hid (Keeps NoBlk w1 w5) := K3.out.trans0 (G1.out.trans0 k5); clear ha k5; have r3 := R3.out.keeps K14.out (fun h => h); obtain ⟨a0, a1, a2⟩ := r3.three; have f0 := r3.free (k := 0) (by simp); have f1 := r3.free (k := 1) (by simp); have f2 := r3.free (k := 2) (by simp); have R3E := Lib.hid r3; clear r3)
  have hks : Keeps (fun q => q = b3) w5 (((w5.setCell ⟨b3, 0, none⟩ (.int .i64 0)).setCell ⟨b3, 1, none⟩ (.int .i64 0)).setCell ⟨b3, 2, none⟩ (.string { data := #[] })) := (((Keeps.refl (fun q => q = b3) w5).setCell (p := ⟨b3, 0, none⟩) (fun _ => rfl) _).setCell (p := ⟨b3, 1, none⟩) (fun _ => rfl) _).setCell (p := ⟨b3, 2, none⟩) (fun _ => rfl) _
  have hrow : RowAt (((w5.setCell ⟨b3, 0, none⟩ (.int .i64 0)).setCell ⟨b3, 1, none⟩ (.int .i64 0)).setCell ⟨b3, 2, none⟩ (.string { data := #[] })) b3 [.int .i64 0, .int .i64 0, .string { data := #[] }] := ((R3E.out.set 0 (by simp) _).set 1 (by simp) _).set 2 (by simp) _
  generalize ((w5.setCell ⟨b3, 0, none⟩ (.int .i64 0)).setCell ⟨b3, 1, none⟩ (.int .i64 0)).setCell ⟨b3, 2, none⟩ (.string { data := #[] }) = wE at hrow hks ⊢
  refine bodyPost_ret (v := .tuple #[.slice ad 1 c, .agg #[.int .i64 0, .int .i64 0, .string { data := #[] }]]) (by simp [results, Tryz.results91, go_sem, hrow.cell (k := 0) rfl, hrow.cell (k := 1) rfl, hrow.cell (k := 2) rfl]) rfl ?_
  exact ⟨⟨_, _, rfl⟩, (K1.out.trans0 K14.out).trans hks (fun q hq e => by have e' : q = b3 := e; have := HB.out; omega)⟩
set_option maxRecDepth 8000 in
set_option maxHeartbeats 1000000 in
theorem tokens_x (w : World) : Calls Tryz.prog 91 #[.string { data := #[120] }] w fun e w' => (∃ ad c, e = .returned (.tuple #[.slice ad 2 c, .agg #[.int .i64 0, .int .i64 0, .string { data := #[] }]]) ∧ w'.ownsRow 0 136 4 (.slice ad 2 c) 2 ([.int .i64 1, .string { data := #[120] }, .int .i64 0, .int .i64 0] ++ [.int .i64 5, .string { data := #[] }, .int .i64 0, .int .i64 1])) ∧ Keeps NoBlk w w' := by
  obtain ⟨j0, hj0, hz0, hz1, hz2⟩ := info_parts infoToken
  go_enter Tryz.func91, Tryz.ntmps91
  go_upto_region 1 with fail
  obtain ⟨b3, hb3⟩ : ∃ z, z = w.heap.size := ⟨_, rfl⟩
  have hr3 : RowAt (w.alloc (.cells #[.int .i64 0, .int .i64 0, .string { data := #[] }] 132)) b3 [.int .i64 0, .int .i64 0, .string { data := #[] }] := by rw [hb3]; exact RowAt.ofBlock (heap_alloc_new w _)
  have hk1 : Keeps NoBlk w (w.alloc (.cells #[.int .i64 0, .int .i64 0, .string { data := #[] }] 132)) := (Keeps.refl _ _).alloc _
  have HB : Hid (w.heap.size ≤ b3) := by show _ ≤ _; omega
  rw [← hb3]
  generalize w.alloc (.cells #[.int .i64 0, .int .i64 0, .string { data := #[] }] 132) = w1 at hr3 hk1 ⊢
  have R3 := Lib.hid hr3
  have K1 := Lib.hid hk1
  clear hr3 hk1 hb3
  go_upto_region 2 with (go_at_call 100; refine (runes_x _).mono ?_; rintro e w2 ⟨⟨ad0, n0, c0, rfl⟩, g1⟩; have G1 := Lib.hid g1; clear g1)
  obtain ⟨b5, hb5⟩ : ∃ z, z = w2.heap.size := ⟨_, rfl⟩
  have r5 : RowAt (w2.alloc (.cells #[.int .i64 0, .int .i64 0, .string { data := #[] }] 132)) b5 [.int .i64 0, .int .i64 0, .string { data := #[] }] := by rw [hb5]; exact RowAt.ofBlock (heap_alloc_new w2 _)
  have k3 : Keeps NoBlk w1 (w2.alloc (.cells #[.int .i64 0, .int .i64 0, .string { data := #[] }] 132)) := G1.out.alloc _
  rw [← hb5]
  generalize w2.alloc (.cells #[.int .i64 0, .int .i64 0, .string { data := #[] }] 132) = w3 at r5 k3 ⊢
  obtain ⟨d0, d1, d2⟩ := r5.three
  have K3 := Lib.hid k3
  clear r5 k3 hb5 G1
  go_upto_region 5 with fail
  clear d0 d1 d2
  go_upto_region 6 with (go_at_call 101; refine (passed_x _).mono ?_; rintro e w4 ⟨rfl, g1⟩; have G1 := Lib.hid g1; clear g1)
  refine wp_loop_rounds 2 ?_
  rw [rounds_succ]
  go_upto_region 8 with (go_at_call 102; refine (token_x _).mono ?_; rintro e w5 ⟨rfl, g1⟩; have G2 := Lib.hid g1; clear g1)
  obtain ⟨b8, hb8⟩ : ∃ z, z = w5.heap.size := ⟨_, rfl⟩
  have r8 : RowAt (w5.alloc (.cells #[.int .i64 1, .string { data := #[120] }, .int .i64 0, .int .i64 0] 136)) b8 [.int .i64 1, .string { data := #[120] }, .int .i64 0, .int .i64 0] := by rw [hb8]; exact RowAt.ofBlock (heap_alloc_new w5 _)
  have k6 : Keeps NoBlk w1 (w5.alloc (.cells #[.int .i64 1, .string { data := #[120] }, .int .i64 0, .int .i64 0] 136)) := (K3.out.trans0 (G1.out.trans0 G2.out)).alloc _
  have hl8 : w1.heap.size ≤ b8 := by rw [hb8]; exact (K3.out.trans0 (G1.out.trans0 G2.out)).size
  rw [← hb8]
  generalize w5.alloc (.cells #[.int .i64 1, .string { data := #[120] }, .int .i64 0, .int .i64 0] 136) = w6 at r8 k6 ⊢
  have R8 := Lib.hid r8
  have K6 := Lib.hid k6
  have HL8 := Lib.hid hl8
  obtain ⟨d0, d1, d2, d3⟩ := r8.four
  have f3 := r8.free (k := 3) (by simp)
  clear r8 k6 hb8 hl8 G1 G2 K3
  go_upto_region 11 with fail
  have r8 : RowAt (w6.setCell ⟨b8, 3, none⟩ (.int .i64 0)) b8 [.int .i64 1, .string { data := #[120] }, .int .i64 0, .int .i64 0] := R8.out.set 3 (by simp) _
  have k7 : Keeps NoBlk w1 (w6.setCell ⟨b8, 3, none⟩ (.int .i64 0)) := K6.out.trans ((Keeps.refl (fun q => q = b8) w6).setCell (p := ⟨b8, 3, none⟩) (fun _ => rfl) _) (fun q hq e => by have e' : q = b8 := e; have := HL8.out; omega)
  generalize w6.setCell ⟨b8, 3, none⟩ (.int .i64 0) = w7 at r8 k7 ⊢
  clear d0 d1 d2 d3 f3
  obtain ⟨d0, d1, d2, d3⟩ := r8.four
  have R8' := Lib.hid r8
  have K7 := Lib.hid k7
  clear r8 k7
  go_upto_region 12 with (at_builtin; refine wpList_append_src _ (by rfl) _ _ 130 (by rfl) 0 136 j0 _ 4 40 Tryz.underlying130 hj0 hz0 hz1 hz2 rfl (by decide) (Value.slice none 0 0) 0 ([]) (by rfl) (World.ownsRow_nil _ _ _ _) (.slice (some ⟨w7.heap.size, 0, none⟩) 1 1) 1 [.int .i64 1, .string { data := #[120] }, .int .i64 0, .int .i64 0] (by rfl) (RowAt.src (RowAt.ofBlock (heap_alloc_new w7 _))) rfl (by intro q hq; simp only [List.mem_cons, List.not_mem_nil, or_false] at hq; rcases hq with rfl | rfl | rfl | rfl <;> rfl) (by unfold maxLen; omega) (by omega) (Nat.zero_le _) ?_; intro ad1 c1 w8 ha; have k8 := AppOut.keeps ha ((Keeps.refl NoBlk w7).alloc _) (fun q e _ => by simp [Value.ownBlock] at e); have K8 := Lib.hid k8; have H8 := Lib.hid ha.1; have HN8 := Lib.hid ha.2.2; clear ha k8)
  have r8 := R8'.out.keeps K8.out (fun h => h)
  clear d0 d1 d2 d3
  obtain ⟨d0, d1, d2, d3⟩ := r8.four
  clear r8
  go_wp2_with (go_at_call 101; refine (passed_e _).mono ?_; rintro e w9 ⟨rfl, g1⟩; have G1 := Lib.hid g1; clear g1)
  rw [rounds_succ]
  go_upto_region 14 with fail
  have H9 : Hid (w9.ownsRow 0 136 4 (.slice ad1 1 c1) 1 [.int .i64 1, .string { data := #[120] }, .int .i64 0, .int .i64 0]) := ownsRow_keeps H8.out G1.out (fun _ _ h => h)
  have HNB : Hid (∀ kb, (Value.slice ad1 1 c1).ownBlock = some kb → w1.heap.size ≤ kb) := fun kb e => by
    rcases HN8.out kb e with h | h
    · simp [Value.ownBlock] at h
    · have h2 : kb = (w7.alloc (.cells #[.int .i64 1, .string { data := #[120] }, .int .i64 0, .int .i64 0] 136)).heap.size := h
      have := K7.out.size
      rw [h2]; simp; omega
  clear d0 d1 d2 d3
  go_upto_region 99 with (at_builtin; refine wpList_append_src _ (by rfl) _ _ 130 (by rfl) 0 136 j0 _ 4 40 Tryz.underlying130 hj0 hz0 hz1 hz2 rfl (by decide) (Value.slice ad1 1 c1) 1 ([.int .i64 1, .string { data := #[120] }, .int .i64 0, .int .i64 0]) (by rfl) (ownsRow_keeps H9.out ((Keeps.refl NoBlk w9).alloc _) (fun _ _ h => h)) (.slice (some ⟨w9.heap.size, 0, none⟩) 1 1) 1 [.int .i64 5, .string { data := #[] }, .int .i64 0, .int .i64 1] (by rfl) (RowAt.src (RowAt.ofBlock (heap_alloc_new w9 _))) rfl (by intro q hq; simp only [List.mem_cons, List.not_mem_nil, or_false] at hq; rcases hq with rfl | rfl | rfl | rfl <;> rfl) (by unfold maxLen; omega) (by omega) (Nat.zero_le _) ?_; intro ad c w10 ha; have K14 : Hid (Keeps NoBlk w1 w10) := AppOut.keeps ha ((K7.out.trans0 (K8.out.trans0 G1.out)).alloc _) (fun q e hq => by have := HNB.out q e; omega); have HO := Lib.hid ha.1; have HOB := Lib.hid ha.2.2; clear ha; have r3 := R3.out.keeps K14.out (fun h => h); obtain ⟨a0, a1, a2⟩ := r3.three; have f0 := r3.free (k := 0) (by simp); have f1 := r3.free (k := 1) (by simp); have f2 := r3.free (k := 2) (by simp); have R3E := Lib.hid r3; clear r3)
  have hks : Keeps (fun q => q = b3) w10 (((w10.setCell ⟨b3, 0, none⟩ (.int .i64 0)).setCell ⟨b3, 1, none⟩ (.int .i64 0)).setCell ⟨b3, 2, none⟩ (.string { data := #[] })) := (((Keeps.refl (fun q => q = b3) w10).setCell (p := ⟨b3, 0, none⟩) (fun _ => rfl) _).setCell (p := ⟨b3, 1, none⟩) (fun _ => rfl) _).setCell (p := ⟨b3, 2, none⟩) (fun _ => rfl) _
  have hrow : RowAt (((w10.setCell ⟨b3, 0, none⟩ (.int .i64 0)).setCell ⟨b3, 1, none⟩ (.int .i64 0)).setCell ⟨b3, 2, none⟩ (.string { data := #[] })) b3 [.int .i64 0, .int .i64 0, .string { data := #[] }] := ((R3E.out.set 0 (by simp) _).set 1 (by simp) _).set 2 (by simp) _
  generalize ((w10.setCell ⟨b3, 0, none⟩ (.int .i64 0)).setCell ⟨b3, 1, none⟩ (.int .i64 0)).setCell ⟨b3, 2, none⟩ (.string { data := #[] }) = wE at hrow hks ⊢
  refine bodyPost_ret (v := .tuple #[.slice ad 2 c, .agg #[.int .i64 0, .int .i64 0, .string { data := #[] }]]) (by simp [results, Tryz.results91, go_sem, hrow.cell (k := 0) rfl, hrow.cell (k := 1) rfl, hrow.cell (k := 2) rfl]) rfl ?_
  refine ⟨⟨_, _, rfl, ownsRow_keeps HO.out hks (fun kb e h => ?_)⟩, (K1.out.trans0 K14.out).trans hks (fun q hq e => by have e' : q = b3 := e; have := HB.out; omega)⟩
  have h' : kb = b3 := h
  subst h'
  have hb3 : kb < w1.heap.size := R3.out.lt (by simp)
  rcases HOB.out kb e with h2 | h2
  · have := HNB.out kb h2; omega
  · have h3 : kb = (w9.alloc (.cells #[.int .i64 5, .string { data := #[] }, .int .i64 0, .int .i64 1] 136)).heap.size := h2
    have h4 := (K7.out.trans0 (K8.out.trans0 G1.out)).size
    rw [h3] at hb3; simp at hb3; omega
end Go.Proofs.YtbkkpcignmcjnaaGreatDoor
