/- Layers 1, 2, 3: is the text "x", is the empty text a name? -/
import Derived.Test.YtbkkpcignmcjnaaGreatDoorP05
import Derived.Lib.OthersKept
import Derived.Test.YtbkkpcignmcjnaaGreatDoorP08
import Derived.Test.YtbkkpcignmcjnaaGreatDoorP10
namespace Go.Proofs.YtbkkpcignmcjnaaGreatDoor
open Go.RowKit
set_option linter.unusedVariables false
set_option linter.unusedSimpArgs false
set_option linter.unnecessarySimpa false

theorem letter_x (w : World) : Calls Tryz.prog 124 #[.int .i64 120] w fun e w' => e = .returned (.bool true) ∧ Keeps NoBlk w w' := by
  go_enter Tryz.func124, Tryz.ntmps124
  go_wp2_with fail
  go_ret
  exact ⟨rfl, Keeps.refl _ _⟩
theorem blank_x (w : World) : Calls Tryz.prog 110 #[.int .i64 120] w fun e w' => e = .returned (.bool false) ∧ Keeps NoBlk w w' := by
  go_enter Tryz.func110, Tryz.ntmps110
  go_wp2_with fail
  go_ret
  exact ⟨rfl, Keeps.refl _ _⟩
theorem digit_x (w : World) : Calls Tryz.prog 115 #[.int .i64 120] w fun e w' => e = .returned (.bool false) ∧ Keeps NoBlk w w' := by
  go_enter Tryz.func115, Tryz.ntmps115
  go_wp2_with fail
  go_ret
  exact ⟨rfl, Keeps.refl _ _⟩
theorem goes_x (w : World) : Calls Tryz.prog 112 #[.int .i32 120] w fun e w' => e = .returned (.bool true) ∧ Keeps NoBlk w w' := by
  go_enter Tryz.func112, Tryz.ntmps112
  go_wp2_with (go_at_call 124; refine (letter_x _).mono ?_; rintro e w1 ⟨rfl, g1⟩; have G1 := Lib.hid g1; clear g1)
  go_ret
  exact ⟨rfl, G1.out⟩
theorem runeLen_x (w : World) : Calls Tryz.prog 122 #[.int .i32 120] w fun e w' => e = .returned (.int .i64 1) ∧ Keeps NoBlk w w' := by
  go_enter Tryz.func122, Tryz.ntmps122
  go_wp2_with fail
  go_ret
  exact ⟨rfl, Keeps.refl _ _⟩
set_option maxRecDepth 8000 in
theorem decode_x (w : World) : Calls Tryz.prog 111 #[.string { data := #[120] }] w fun e w' => e = .returned (.tuple #[.int .i32 120, .int .i64 1]) ∧ Keeps NoBlk w w' := by
  go_enter Tryz.func111, Tryz.ntmps111
  go_wp2_with fail
  go_ret2
  exact ⟨rfl, Keeps.refl _ _⟩
theorem next_x (w : World) (ty : TypeId) : (Instr.next (.pointer (some ⟨w.heap.size, 0, none⟩)) true ty).run Tryz.prog (w.iter { data := #[120] } 0) = .ok (.tuple #[.bool true, .int .i64 0, .int .i32 120]) (w.iter { data := #[120] } 1) :=
  run_next_ascii w { data := #[120] } 0 ty (by decide) (by decide)
theorem next_xe (w : World) (ty : TypeId) : (Instr.next (.pointer (some ⟨w.heap.size, 0, none⟩)) true ty).run Tryz.prog (w.iter { data := #[120] } 1) = .ok (.tuple #[.bool false]) (w.iter { data := #[120] } 1) :=
  run_next_end w { data := #[120] } 1 ty (by decide)
theorem next_e (w : World) (ty : TypeId) : (Instr.next (.pointer (some ⟨w.heap.size, 0, none⟩)) true ty).run Tryz.prog (w.iter { data := #[] } 0) = .ok (.tuple #[.bool false]) (w.iter { data := #[] } 0) :=
  run_next_end w { data := #[] } 0 ty (by decide)
theorem passed_e (w : World) : Calls Tryz.prog 101 #[.string { data := #[] }] w fun e w' => e = .returned (.int .i64 0) ∧ Keeps NoBlk w w' := by
  have h1 := next_e w
  go_enter Tryz.func101, Tryz.ntmps101
  go_wp2_with fail
  refine wp_loop_rounds 1 ?_
  rw [rounds_succ]
  go_wp2_with fail
  go_ret
  exact ⟨rfl, (Keeps.refl _ _).alloc _⟩
theorem passed_x (w : World) : Calls Tryz.prog 101 #[.string { data := #[120] }] w fun e w' => e = .returned (.int .i64 0) ∧ Keeps NoBlk w w' := by
  have h1 := next_x w
  go_enter Tryz.func101, Tryz.ntmps101
  go_wp2_with fail
  refine wp_loop_rounds 1 ?_
  rw [rounds_succ]
  go_wp2_with (go_at_call 110; refine (blank_x _).mono ?_; rintro e w1 ⟨rfl, g1⟩; have G1 := Lib.hid g1; clear g1)
  go_ret
  exact ⟨rfl, ((Keeps.refl NoBlk w).alloc _).trans0 G1.out⟩
theorem word_x (w : World) : Calls Tryz.prog 114 #[.string { data := #[120] }] w fun e w' => e = .returned (.string { data := #[120] }) ∧ Keeps NoBlk w w' := by
  have h1 := next_x w
  go_enter Tryz.func114, Tryz.ntmps114
  go_wp2_with fail
  refine wp_loop_rounds 2 ?_
  rw [rounds_succ]
  go_wp2_with (go_at_call 112; refine (goes_x _).mono ?_; rintro e w1 ⟨rfl, g1⟩; have G1 := Lib.hid g1; clear g1)
  have h2 : ∀ ty, (Instr.next (.pointer (some ⟨w.heap.size, 0, none⟩)) true ty).run Tryz.prog w1 = .ok (.tuple #[.bool false]) w1 := fun ty =>
    Lib.run_next_end_at w1 w.heap.size { data := #[120] } 1 ty (G1.out.heap (fun h => h) (World.iter_heap w _ 1)) (by decide)
  rw [rounds_succ]
  go_wp2_with fail
  go_ret
  exact ⟨rfl, ((Keeps.refl NoBlk w).alloc _).trans0 G1.out⟩
theorem infoSpot : (Tryz.prog.info? 161).map (fun i => (i.zero, i.size, i.bytes)) = some (some (.agg #[.int .i64 0, .int .i64 0, .int .i64 0, .int .i64 0]), 4, 32) := by kernel_rfl
set_option maxRecDepth 8000 in
theorem gone_e (w : World) : Calls Tryz.prog 109 #[.string { data := #[] }] w fun e w' => (∃ ad n c r l k, e = .returned (.tuple #[.slice ad n c, .agg #[.int .i64 r, .int .i64 0, .int .i64 l, .int .i64 k]])) ∧ Keeps NoBlk w w' := by
  go_enter Tryz.func109, Tryz.ntmps109
  go_upto_region 3 with fail
  obtain ⟨b3, hb3⟩ : ∃ z, z = w.heap.size := ⟨_, rfl⟩
  obtain ⟨b5, hb5⟩ : ∃ z, z = w.heap.size + 1 := ⟨_, rfl⟩
  have hr3 : RowAt ((w.alloc (.cells #[.int .i64 0, .int .i64 0, .int .i64 0, .int .i64 0] 161)).alloc (.cells #[.int .i64 (-1), .int .i64 0, .int .i64 1, .int .i64 1] 161)) b3 [.int .i64 0, .int .i64 0, .int .i64 0, .int .i64 0] := by rw [hb3]; exact (RowAt.ofBlock (heap_alloc_new w _)).alloc _
  have hr5 : RowAt ((w.alloc (.cells #[.int .i64 0, .int .i64 0, .int .i64 0, .int .i64 0] 161)).alloc (.cells #[.int .i64 (-1), .int .i64 0, .int .i64 1, .int .i64 1] 161)) b5 [.int .i64 (-1), .int .i64 0, .int .i64 1, .int .i64 1] := by rw [hb5]; exact RowAt.ofBlock (heap_alloc2 w _ _)
  have hk1 : Keeps NoBlk w ((w.alloc (.cells #[.int .i64 0, .int .i64 0, .int .i64 0, .int .i64 0] 161)).alloc (.cells #[.int .i64 (-1), .int .i64 0, .int .i64 1, .int .i64 1] 161)) := ((Keeps.refl _ _).alloc _).alloc _
  have hne : b3 ≠ b5 := by omega
  have HB : Hid (w.heap.size ≤ b3 ∧ w.heap.size ≤ b5) := ⟨by omega, by omega⟩
  rw [← hb5, ← hb3]
  generalize (w.alloc (.cells #[.int .i64 0, .int .i64 0, .int .i64 0, .int .i64 0] 161)).alloc (.cells #[.int .i64 (-1), .int .i64 0, .int .i64 1, .int .i64 1] 161) = w1 at hr3 hr5 hk1 ⊢
  have R3 := Lib.hid hr3
  have R5 := Lib.hid hr5
  have K1 := Lib.hid hk1
  clear hr3 hr5 hk1 hb3 hb5
  have h1 := next_e w1
  go_wp2_with fail
  refine wp_loop_rounds 1 ?_
  rw [rounds_succ]
  go_upto_region 16 with fail
  generalize hw2 : w1.iter { data := #[] } 0 = w2
  have K2 : Keeps NoBlk w1 w2 := by rw [← hw2]; exact (Keeps.refl NoBlk w1).alloc _
  clear h1 hw2
  have r4 := R3.out.keeps K2 (fun h => h)
  have rb := R5.out.keeps K2 (fun h => h)
  have KE := Lib.hid (K1.out.trans0 K2)
  obtain ⟨a0, a1, a2, a3⟩ := r4.four
  obtain ⟨d0, d1, d2, d3⟩ := rb.four
  have f0 := r4.free (k := 0) (by simp)
  have f1 := r4.free (k := 1) (by simp)
  have f2 := r4.free (k := 2) (by simp)
  have f3 := r4.free (k := 3) (by simp)
  have R4 := Lib.hid r4
  clear r4 rb
  clear K2
  go_region
  all_goals (try go_wp2_with fail)
  have hks : Keeps (fun q => q = b3) (w2) ((((((w2).setCell ⟨b3, 0, none⟩ (.int .i64 (-1))).setCell ⟨b3, 1, none⟩ (.int .i64 0)).setCell ⟨b3, 2, none⟩ (.int .i64 1)).setCell ⟨b3, 3, none⟩ (.int .i64 1)).drew) := (((((Keeps.refl (fun q => q = b3) (w2)).setCell (p := ⟨b3, 0, none⟩) (fun _ => rfl) _).setCell (p := ⟨b3, 1, none⟩) (fun _ => rfl) _).setCell (p := ⟨b3, 2, none⟩) (fun _ => rfl) _).setCell (p := ⟨b3, 3, none⟩) (fun _ => rfl) _).drew
  have hrow : RowAt ((((((w2).setCell ⟨b3, 0, none⟩ (.int .i64 (-1))).setCell ⟨b3, 1, none⟩ (.int .i64 0)).setCell ⟨b3, 2, none⟩ (.int .i64 1)).setCell ⟨b3, 3, none⟩ (.int .i64 1)).drew) b3 [.int .i64 (-1), .int .i64 0, .int .i64 1, .int .i64 1] := ((((R4.out.set 0 (by simp) _).set 1 (by simp) _).set 2 (by simp) _).set 3 (by simp) _).keeps (S := NoBlk) ((Keeps.refl _ _).drew) (fun h => h)
  generalize (((((w2).setCell ⟨b3, 0, none⟩ (.int .i64 (-1))).setCell ⟨b3, 1, none⟩ (.int .i64 0)).setCell ⟨b3, 2, none⟩ (.int .i64 1)).setCell ⟨b3, 3, none⟩ (.int .i64 1)).drew = wE at hrow hks ⊢
  refine bodyPost_ret (v := .tuple #[.slice none 0 0, .agg #[.int .i64 (-1), .int .i64 0, .int .i64 1, .int .i64 1]]) (by simp [results, Tryz.results109, go_sem, hrow.cell (k := 0) rfl, hrow.cell (k := 1) rfl, hrow.cell (k := 2) rfl, hrow.cell (k := 3) rfl]) rfl ?_
  exact ⟨⟨_, _, _, _, _, _, rfl⟩, KE.out.trans hks (fun q hq e => by have e' : q = b3 := e; have := HB.out; omega)⟩
set_option maxRecDepth 8000 in
theorem gone_x (w : World) : Calls Tryz.prog 109 #[.string { data := #[120] }] w fun e w' => (∃ ad n c r l k, e = .returned (.tuple #[.slice ad n c, .agg #[.int .i64 r, .int .i64 1, .int .i64 l, .int .i64 k]])) ∧ Keeps NoBlk w w' := by
  go_enter Tryz.func109, Tryz.ntmps109
  go_upto_region 3 with fail
  obtain ⟨b3, hb3⟩ : ∃ z, z = w.heap.size := ⟨_, rfl⟩
  obtain ⟨b5, hb5⟩ : ∃ z, z = w.heap.size + 1 := ⟨_, rfl⟩
  have hr3 : RowAt ((w.alloc (.cells #[.int .i64 0, .int .i64 0, .int .i64 0, .int .i64 0] 161)).alloc (.cells #[.int .i64 (-1), .int .i64 0, .int .i64 1, .int .i64 1] 161)) b3 [.int .i64 0, .int .i64 0, .int .i64 0, .int .i64 0] := by rw [hb3]; exact (RowAt.ofBlock (heap_alloc_new w _)).alloc _
  have hr5 : RowAt ((w.alloc (.cells #[.int .i64 0, .int .i64 0, .int .i64 0, .int .i64 0] 161)).alloc (.cells #[.int .i64 (-1), .int .i64 0, .int .i64 1, .int .i64 1] 161)) b5 [.int .i64 (-1), .int .i64 0, .int .i64 1, .int .i64 1] := by rw [hb5]; exact RowAt.ofBlock (heap_alloc2 w _ _)
  have hk1 : Keeps NoBlk w ((w.alloc (.cells #[.int .i64 0, .int .i64 0, .int .i64 0, .int .i64 0] 161)).alloc (.cells #[.int .i64 (-1), .int .i64 0, .int .i64 1, .int .i64 1] 161)) := ((Keeps.refl _ _).alloc _).alloc _
  have hne : b3 ≠ b5 := by omega
  have HB : Hid (w.heap.size ≤ b3 ∧ w.heap.size ≤ b5) := ⟨by omega, by omega⟩
  rw [← hb5, ← hb3]
  generalize (w.alloc (.cells #[.int .i64 0, .int .i64 0, .int .i64 0, .int .i64 0] 161)).alloc (.cells #[.int .i64 (-1), .int .i64 0, .int .i64 1, .int .i64 1] 161) = w1 at hr3 hr5 hk1 ⊢
  have R3 := Lib.hid hr3
  have R5 := Lib.hid hr5
  have K1 := Lib.hid hk1
  clear hr3 hr5 hk1 hb3 hb5
  have h1 := next_x w1
  obtain ⟨j0, hj0, hz0, hz1, hz2⟩ := info_parts infoSpot
  obtain ⟨d0, d1, d2, d3⟩ := R5.out.four
  have f0 := R5.out.free (k := 0) (by simp)
  go_wp2_with fail
  refine wp_loop_rounds 2 ?_
  rw [rounds_succ]
  go_upto_region 8 with fail
  obtain ⟨w2, hw2⟩ : ∃ z, z = w1.iter { data := #[120] } 1 := ⟨_, rfl⟩
  obtain ⟨b10, hb10⟩ : ∃ z, z = w1.heap.size := ⟨_, rfl⟩
  have hk2 : Keeps NoBlk w1 w2 := by rw [hw2]; exact (Keeps.refl NoBlk w1).alloc _
  have hi2 : w2.heap[b10]? = some (.stringIter { data := #[120] } 1) := by rw [hw2, hb10]; exact World.iter_heap w1 _ 1
  have hb5 : b5 < b10 := by rw [hb10]; exact R5.out.lt (by simp)
  have hb3 : b3 < b10 := by rw [hb10]; exact R3.out.lt (by simp)
  rw [← hw2, ← hb10]
  have R3' : Hid (RowAt w2 b3 [.int .i64 0, .int .i64 0, .int .i64 0, .int .i64 0]) := R3.out.keeps hk2 (fun h => h)
  have R5' : Hid (RowAt w2 b5 [.int .i64 (-1), .int .i64 0, .int .i64 1, .int .i64 1]) := R5.out.keeps hk2 (fun h => h)
  have KW : Hid (Keeps NoBlk w w2) := K1.out.trans0 hk2
  clear h1 hw2 hb10 hk2 R3 R5 K1 d0 d1 d2 d3 f0
  obtain ⟨d0, d1, d2, d3⟩ := R5'.out.four
  have f0 := R5'.out.free (k := 0) (by simp)
  have HI2 := Lib.hid hi2
  clear hi2
  go_upto_region 9 with fail
  have r5 : RowAt (w2.setCell ⟨b5, 0, none⟩ (.int .i64 120)) b5 [.int .i64 120, .int .i64 0, .int .i64 1, .int .i64 1] := R5'.out.set 0 (by simp) _
  have k3 : Keeps (fun q => q = b5) w2 (w2.setCell ⟨b5, 0, none⟩ (.int .i64 120)) := (Keeps.refl (fun q => q = b5) w2).setCell (p := ⟨b5, 0, none⟩) (fun _ => rfl) _
  generalize w2.setCell ⟨b5, 0, none⟩ (.int .i64 120) = w3 at r5 k3 ⊢
  clear d0 d1 d2 d3 f0
  obtain ⟨d0, d1, d2, d3⟩ := r5.four
  have R5 := Lib.hid r5
  have K3 := Lib.hid k3
  clear r5 k3
  go_upto_region 10 with (at_builtin; refine wpList_append_src _ (by rfl) _ _ 150 (by rfl) 0 161 j0 _ 4 32 Tryz.underlying150 hj0 hz0 hz1 hz2 rfl (by decide) (.slice none 0 0) 0 [] (by rfl) (World.ownsRow_nil _ _ _ _) (.slice (some ⟨w3.heap.size, 0, none⟩) 1 1) 1 [.int .i64 120, .int .i64 0, .int .i64 1, .int .i64 1] (by rfl) (RowAt.src (RowAt.ofBlock (heap_alloc_new w3 _))) rfl (by intro q hq; simp only [List.mem_cons, List.not_mem_nil, or_false] at hq; rcases hq with rfl | rfl | rfl | rfl <;> rfl) (by unfold maxLen; omega) (by omega) (Nat.zero_le _) ?_; intro da2 dc2 w4 ha; have k4 := AppOut.keeps ha ((Keeps.refl NoBlk w3).alloc _) (fun q e _ => by simp [Value.ownBlock] at e); have K4 := Lib.hid k4; clear ha k4)
  have R54 : Hid (RowAt w4 b5 [.int .i64 120, .int .i64 0, .int .i64 1, .int .i64 1]) := R5.out.keeps K4.out (fun h => h)
  have K24 : Hid (Keeps (fun q => q = b5) w2 w4) := K3.out.trans K4.out (fun _ _ h => False.elim h)
  clear d0 d1 d2 d3 K3 K4 R5 R5'
  refine wp_region_table 6 (by kernel_rfl) (by kernel_rfl) (Keeps NoBlk) (Keeps.refl NoBlk) (fun a b c h h' => Keeps.trans0 h h') (TabV [some (.pointer (some ⟨b5, 1, none⟩)), some (.int .i64 0), some (.int .i32 120), some (.int .i64 1), some (.int .i64 1), some (.pointer (some ⟨b5, 1, none⟩))] (fun _ _ _ => False)) (TabV.st (fun j v W W' h hk => h)) ?_ ?_
  · intro q oo hq ho vs W Q' hR0 hd hK
    have hR : Keeps NoBlk w4 W := ((Keeps.refl NoBlk w4).drew).trans0 hR0
    obtain ⟨d0, d1, d2, d3⟩ := (R54.out.keeps hR (fun h => h)).four
    clear hR hR0
    rcases (show q = 0 ∨ q = 1 ∨ q = 2 ∨ q = 3 ∨ q = 4 ∨ q = 5 by omega) with rfl | rfl | rfl | rfl | rfl | rfl
    all_goals (simp only [List.getElem?_cons_zero, List.getElem?_cons_succ, Option.some.injEq] at ho; subst ho; simp only [putsTo, List.getElem?_cons_zero, List.getElem?_cons_succ, Option.bind_some, Option.bind, Act.put, List.setIfInBounds_toArray, List.set_cons_zero, List.set_cons_succ] at hK ⊢; clear hq)
    · clear hd
      go_wp2_with fail
      exact hK _ _ (Keeps.refl _ _) rfl
    · have e0 : vs 0 = _ := hd 0 (by kernel_rfl)
      rw [e0] at hK ⊢
      clear hd
      go_wp2_with fail
      exact hK _ _ (Keeps.refl _ _) rfl
    · clear hd
      go_wp2_with fail
      exact hK _ _ (Keeps.refl _ _) rfl
    · have e2 : vs 2 = _ := hd 2 (by kernel_rfl)
      rw [e2] at hK ⊢
      clear hd
      go_wp2_with (go_at_call 122; refine (runeLen_x _).mono ?_; rintro e W1 ⟨rfl, g1⟩)
      exact hK _ _ g1 rfl
    · have e1 : vs 1 = _ := hd 1 (by kernel_rfl)
      have e3 : vs 3 = _ := hd 3 (by kernel_rfl)
      rw [e1, e3] at hK ⊢
      clear hd
      go_wp2_with fail
      exact hK _ _ (Keeps.refl _ _) rfl
    · clear hd
      go_wp2_with fail
      exact hK _ _ (Keeps.refl _ _) rfl
  · intro vs W hR0 hF
    have hR : Keeps NoBlk w4 W := ((Keeps.refl NoBlk w4).drew).trans0 hR0
    have e4 : vs 4 = _ := hF 4 (by decide)
    have e5 : vs 5 = _ := hF 5 (by decide)
    have r5 := R54.out.keeps hR (fun h => h)
    have K2W : Hid (Keeps (fun q => q = b5) w2 W) := K24.out.trans hR (fun _ _ h => False.elim h)
    simp only [putsTo, List.getElem?_cons_zero, List.getElem?_cons_succ, Option.bind_some, Option.bind, Act.put, List.setIfInBounds_toArray, List.set_cons_zero, List.set_cons_succ, List.drop_succ_cons, List.drop_zero]
    rw [e4, e5]
    clear hF e4 e5 
    generalize vs 0 = y0
    generalize vs 1 = y1
    generalize vs 2 = y2
    generalize vs 3 = y3
    obtain ⟨d0, d1, d2, d3⟩ := r5.four
    have f1 := r5.free (k := 1) (by simp)
    have f3 := r5.free (k := 3) (by simp)
    have f0 := r5.free (k := 0) (by simp)
    have R5 := Lib.hid r5
    clear hR hR0 r5
    go_wp2_with fail
    have r5 : RowAt (((W.setCell ⟨b5, 1, none⟩ (.int .i64 1)).setCell ⟨b5, 3, none⟩ (.int .i64 2)).setCell ⟨b5, 0, none⟩ (.int .i64 (-1))) b5 [.int .i64 (-1), .int .i64 1, .int .i64 1, .int .i64 2] := ((R5.out.set 1 (by simp) _).set 3 (by simp) _).set 0 (by simp) _
    have k5 : Keeps (fun q => q = b5) W (((W.setCell ⟨b5, 1, none⟩ (.int .i64 1)).setCell ⟨b5, 3, none⟩ (.int .i64 2)).setCell ⟨b5, 0, none⟩ (.int .i64 (-1))) := (((Keeps.refl (fun q => q = b5) W).setCell (p := ⟨b5, 1, none⟩) (fun _ => rfl) _).setCell (p := ⟨b5, 3, none⟩) (fun _ => rfl) _).setCell (p := ⟨b5, 0, none⟩) (fun _ => rfl) _
    generalize ((W.setCell ⟨b5, 1, none⟩ (.int .i64 1)).setCell ⟨b5, 3, none⟩ (.int .i64 2)).setCell ⟨b5, 0, none⟩ (.int .i64 (-1)) = w6 at r5 k5 ⊢
    have k26 : Keeps (fun q => q = b5) w2 w6 := K2W.out.trans k5 (fun _ _ h => h)
    have h2 : ∀ ty, (Instr.next (.pointer (some ⟨b10, 0, none⟩)) true ty).run Tryz.prog w6 = .ok (.tuple #[.bool false]) w6 := fun ty =>
      Lib.run_next_end_at w6 b10 { data := #[120] } 1 ty (k26.heap (fun e => by have e' : b10 = b5 := e; omega) HI2.out) (by decide)
    have R4 : Hid (RowAt w6 b3 [.int .i64 0, .int .i64 0, .int .i64 0, .int .i64 0]) := R3'.out.keeps k26 (fun e => hne e)
    have KE : Hid (Keeps NoBlk w w6) := KW.out.trans k26 (fun q hq e => by have e' : q = b5 := e; have := HB.out; omega)
    clear d0 d1 d2 d3 f0 f1 f3 R5 k5 k26
    obtain ⟨d0, d1, d2, d3⟩ := r5.four
    obtain ⟨a0, a1, a2, a3⟩ := R4.out.four
    have f0 := R4.out.free (k := 0) (by simp)
    have f1 := R4.out.free (k := 1) (by simp)
    have f2 := R4.out.free (k := 2) (by simp)
    have f3 := R4.out.free (k := 3) (by simp)
    clear r5
    rw [rounds_succ]
    go_upto_region 16 with fail
    go_region
    all_goals (try go_wp2_with fail)
    have hks : Keeps (fun q => q = b3) (w6) ((((((w6).setCell ⟨b3, 0, none⟩ (.int .i64 (-1))).setCell ⟨b3, 1, none⟩ (.int .i64 1)).setCell ⟨b3, 2, none⟩ (.int .i64 1)).setCell ⟨b3, 3, none⟩ (.int .i64 2)).drew) := (((((Keeps.refl (fun q => q = b3) (w6)).setCell (p := ⟨b3, 0, none⟩) (fun _ => rfl) _).setCell (p := ⟨b3, 1, none⟩) (fun _ => rfl) _).setCell (p := ⟨b3, 2, none⟩) (fun _ => rfl) _).setCell (p := ⟨b3, 3, none⟩) (fun _ => rfl) _).drew
    have hrow : RowAt ((((((w6).setCell ⟨b3, 0, none⟩ (.int .i64 (-1))).setCell ⟨b3, 1, none⟩ (.int .i64 1)).setCell ⟨b3, 2, none⟩ (.int .i64 1)).setCell ⟨b3, 3, none⟩ (.int .i64 2)).drew) b3 [.int .i64 (-1), .int .i64 1, .int .i64 1, .int .i64 2] := ((((R4.out.set 0 (by simp) _).set 1 (by simp) _).set 2 (by simp) _).set 3 (by simp) _).keeps (S := NoBlk) ((Keeps.refl _ _).drew) (fun h => h)
    generalize (((((w6).setCell ⟨b3, 0, none⟩ (.int .i64 (-1))).setCell ⟨b3, 1, none⟩ (.int .i64 1)).setCell ⟨b3, 2, none⟩ (.int .i64 1)).setCell ⟨b3, 3, none⟩ (.int .i64 2)).drew = wE at hrow hks ⊢
    refine bodyPost_ret (v := .tuple #[.slice da2 1 dc2, .agg #[.int .i64 (-1), .int .i64 1, .int .i64 1, .int .i64 2]]) (by simp [results, Tryz.results109, go_sem, hrow.cell (k := 0) rfl, hrow.cell (k := 1) rfl, hrow.cell (k := 2) rfl, hrow.cell (k := 3) rfl]) rfl ?_
    exact ⟨⟨_, _, _, _, _, _, rfl⟩, KE.out.trans hks (fun q hq e => by have e' : q = b3 := e; have := HB.out; omega)⟩
end Go.Proofs.YtbkkpcignmcjnaaGreatDoor
