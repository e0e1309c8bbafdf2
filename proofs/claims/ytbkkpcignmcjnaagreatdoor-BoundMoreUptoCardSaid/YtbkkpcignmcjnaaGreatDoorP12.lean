/- Layers 1, 2, 3: is the text "x", is the empty text a name? Printed by genin2.py. -/
import Derived.Test.YtbkkpcignmcjnaaGreatDoorP11
namespace Go.Proofs.YtbkkpcignmcjnaaGreatDoor
open Go.RowKit
set_option linter.unusedVariables false
set_option linter.unusedSimpArgs false
set_option linter.unnecessarySimpa false

def RunesOk (s : ByteArray) : Prop := ∀ w : World, Calls Tryz.prog 100 #[.string s] w fun e w' => (∃ ad n c, e = .returned (.tuple #[.slice ad n c, .agg #[.int .i64 0, .int .i64 0, .string { data := #[] }]])) ∧ Keeps NoBlk w w'

set_option maxRecDepth 8000 in
theorem runes_e : RunesOk { data := #[] } := by
  intro w
  go_enter Tryz.func100, Tryz.ntmps100
  go_upto_region 1 with fail
  obtain ⟨b3, hb3⟩ : ∃ z, z = w.heap.size := ⟨_, rfl⟩
  have hr3 : RowAt (w.alloc (.cells #[.int .i64 0, .int .i64 0, .string { data := #[] }] 132)) b3 [.int .i64 0, .int .i64 0, .string { data := #[] }] := by rw [hb3]; exact RowAt.ofBlock (heap_alloc_new w _)
  have hk1 : Keeps NoBlk w (w.alloc (.cells #[.int .i64 0, .int .i64 0, .string { data := #[] }] 132)) := (Keeps.refl _ _).alloc _
  have HB : Hid (w.heap.size ≤ b3) := by show _ ≤ _; omega
  rw [← hb3]
  generalize w.alloc (.cells #[.int .i64 0, .int .i64 0, .string { data := #[] }] 132) = w1 at hr3 hk1 ⊢
  have R3 := Lib.hid hr3
  have K1 := Lib.hid hk1
  clear hr3 hk1 hb3
  go_upto_region 4 with (go_at_call 109; refine (gone_e _).mono ?_; rintro e w2 ⟨⟨ad, n, c, r, l, k, rfl⟩, g1⟩; have G1 := Lib.hid g1; clear g1)
  obtain ⟨b5, hb5⟩ : ∃ z, z = w2.heap.size := ⟨_, rfl⟩
  have r5 : RowAt (w2.alloc (.cells #[.int .i64 r, .int .i64 0, .int .i64 l, .int .i64 k] 161)) b5 [.int .i64 r, .int .i64 0, .int .i64 l, .int .i64 k] := by rw [hb5]; exact RowAt.ofBlock (heap_alloc_new w2 _)
  have k3 : Keeps NoBlk w1 (w2.alloc (.cells #[.int .i64 r, .int .i64 0, .int .i64 l, .int .i64 k] 161)) := G1.out.alloc _
  rw [← hb5]
  generalize w2.alloc (.cells #[.int .i64 r, .int .i64 0, .int .i64 l, .int .i64 k] 161) = w3 at r5 k3 ⊢
  have r4 := R3.out.keeps k3 (fun h => h)
  obtain ⟨a0, a1, a2⟩ := r4.three
  obtain ⟨d0, d1, d2, d3⟩ := r5.four
  have f0 := r4.free (k := 0) (by simp)
  have f1 := r4.free (k := 1) (by simp)
  have f2 := r4.free (k := 2) (by simp)
  have R4 := Lib.hid r4
  have KE : Hid (Keeps NoBlk w w3) := K1.out.trans0 k3
  clear r4 k3 r5 hb5
  go_wp2_with fail
  have hks : Keeps (fun q => q = b3) w3 (((w3.setCell ⟨b3, 0, none⟩ (.int .i64 0)).setCell ⟨b3, 1, none⟩ (.int .i64 0)).setCell ⟨b3, 2, none⟩ (.string { data := #[] })) := (((Keeps.refl (fun q => q = b3) w3).setCell (p := ⟨b3, 0, none⟩) (fun _ => rfl) _).setCell (p := ⟨b3, 1, none⟩) (fun _ => rfl) _).setCell (p := ⟨b3, 2, none⟩) (fun _ => rfl) _
  have hrow : RowAt (((w3.setCell ⟨b3, 0, none⟩ (.int .i64 0)).setCell ⟨b3, 1, none⟩ (.int .i64 0)).setCell ⟨b3, 2, none⟩ (.string { data := #[] })) b3 [.int .i64 0, .int .i64 0, .string { data := #[] }] := ((R4.out.set 0 (by simp) _).set 1 (by simp) _).set 2 (by simp) _
  generalize ((w3.setCell ⟨b3, 0, none⟩ (.int .i64 0)).setCell ⟨b3, 1, none⟩ (.int .i64 0)).setCell ⟨b3, 2, none⟩ (.string { data := #[] }) = wE at hrow hks ⊢
  refine bodyPost_ret (v := .tuple #[.slice ad n c, .agg #[.int .i64 0, .int .i64 0, .string { data := #[] }]]) (by simp [results, Tryz.results100, go_sem, hrow.cell (k := 0) rfl, hrow.cell (k := 1) rfl, hrow.cell (k := 2) rfl]) rfl ?_
  exact ⟨⟨_, _, _, rfl⟩, KE.out.trans hks (fun q hq e => by have e' : q = b3 := e; have := HB.out; omega)⟩

set_option maxRecDepth 8000 in
theorem runes_x : RunesOk { data := #[120] } := by
  intro w
  go_enter Tryz.func100, Tryz.ntmps100
  go_upto_region 1 with fail
  obtain ⟨b3, hb3⟩ : ∃ z, z = w.heap.size := ⟨_, rfl⟩
  have hr3 : RowAt (w.alloc (.cells #[.int .i64 0, .int .i64 0, .string { data := #[] }] 132)) b3 [.int .i64 0, .int .i64 0, .string { data := #[] }] := by rw [hb3]; exact RowAt.ofBlock (heap_alloc_new w _)
  have hk1 : Keeps NoBlk w (w.alloc (.cells #[.int .i64 0, .int .i64 0, .string { data := #[] }] 132)) := (Keeps.refl _ _).alloc _
  have HB : Hid (w.heap.size ≤ b3) := by show _ ≤ _; omega
  rw [← hb3]
  generalize w.alloc (.cells #[.int .i64 0, .int .i64 0, .string { data := #[] }] 132) = w1 at hr3 hk1 ⊢
  have R3 := Lib.hid hr3
  have K1 := Lib.hid hk1
  clear hr3 hk1 hb3
  go_upto_region 4 with (go_at_call 109; refine (gone_x _).mono ?_; rintro e w2 ⟨⟨ad, n, c, r, l, k, rfl⟩, g1⟩; have G1 := Lib.hid g1; clear g1)
  obtain ⟨b5, hb5⟩ : ∃ z, z = w2.heap.size := ⟨_, rfl⟩
  have r5 : RowAt (w2.alloc (.cells #[.int .i64 r, .int .i64 1, .int .i64 l, .int .i64 k] 161)) b5 [.int .i64 r, .int .i64 1, .int .i64 l, .int .i64 k] := by rw [hb5]; exact RowAt.ofBlock (heap_alloc_new w2 _)
  have k3 : Keeps NoBlk w1 (w2.alloc (.cells #[.int .i64 r, .int .i64 1, .int .i64 l, .int .i64 k] 161)) := G1.out.alloc _
  rw [← hb5]
  generalize w2.alloc (.cells #[.int .i64 r, .int .i64 1, .int .i64 l, .int .i64 k] 161) = w3 at r5 k3 ⊢
  have r4 := R3.out.keeps k3 (fun h => h)
  obtain ⟨a0, a1, a2⟩ := r4.three
  obtain ⟨d0, d1, d2, d3⟩ := r5.four
  have f0 := r4.free (k := 0) (by simp)
  have f1 := r4.free (k := 1) (by simp)
  have f2 := r4.free (k := 2) (by simp)
  have R4 := Lib.hid r4
  have KE : Hid (Keeps NoBlk w w3) := K1.out.trans0 k3
  clear r4 k3 r5 hb5
  go_wp2_with fail
  have hks : Keeps (fun q => q = b3) w3 (((w3.setCell ⟨b3, 0, none⟩ (.int .i64 0)).setCell ⟨b3, 1, none⟩ (.int .i64 0)).setCell ⟨b3, 2, none⟩ (.string { data := #[] })) := (((Keeps.refl (fun q => q = b3) w3).setCell (p := ⟨b3, 0, none⟩) (fun _ => rfl) _).setCell (p := ⟨b3, 1, none⟩) (fun _ => rfl) _).setCell (p := ⟨b3, 2, none⟩) (fun _ => rfl) _
  have hrow : RowAt (((w3.setCell ⟨b3, 0, none⟩ (.int .i64 0)).setCell ⟨b3, 1, none⟩ (.int .i64 0)).setCell ⟨b3, 2, none⟩ (.string { data := #[] })) b3 [.int .i64 0, .int .i64 0, .string { data := #[] }] := ((R4.out.set 0 (by simp) _).set 1 (by simp) _).set 2 (by simp) _
  generalize ((w3.setCell ⟨b3, 0, none⟩ (.int .i64 0)).setCell ⟨b3, 1, none⟩ (.int .i64 0)).setCell ⟨b3, 2, none⟩ (.string { data := #[] }) = wE at hrow hks ⊢
  refine bodyPost_ret (v := .tuple #[.slice ad n c, .agg #[.int .i64 0, .int .i64 0, .string { data := #[] }]]) (by simp [results, Tryz.results100, go_sem, hrow.cell (k := 0) rfl, hrow.cell (k := 1) rfl, hrow.cell (k := 2) rfl]) rfl ?_
  exact ⟨⟨_, _, _, rfl⟩, KE.out.trans hks (fun q hq e => by have e' : q = b3 := e; have := HB.out; omega)⟩
end Go.Proofs.YtbkkpcignmcjnaaGreatDoor

/- Layer 2: the token "x". Printed by genin3.py. -/
namespace Go.Proofs.YtbkkpcignmcjnaaGreatDoor
open Go.RowKit
set_option linter.unusedVariables false
set_option linter.unusedSimpArgs false
set_option linter.unnecessarySimpa false

def words : List Value := [.string { data := #[97, 100, 100] }, .string { data := #[97, 115, 115, 101, 114, 116] }, .string { data := #[99, 101, 108, 108] }, .string { data := #[101, 108, 115, 101] }, .string { data := #[105, 102] }, .string { data := #[106, 111, 105, 110] }, .string { data := #[108, 111, 99, 107] }, .string { data := #[109, 117, 116, 101, 120] }, .string { data := #[114, 101, 112, 101, 97, 116] }, .string { data := #[115, 116, 97, 114, 116] }, .string { data := #[116, 104, 114, 101, 97, 100] }, .string { data := #[117, 110, 108, 111, 99, 107] }]
theorem words_any (w : World) : Calls Tryz.prog 118 #[] w fun e w' => ∃ g, e = .returned (.slice (some ⟨g, 0, none⟩) 12 12) ∧ RowAt w' g words ∧ Keeps NoBlk w w' := by
  go_enter Tryz.func118, Tryz.ntmps118
  go_wp2_with fail
  go_ret
  exact ⟨_, rfl, RowAt.ofBlock (heap_alloc_new w _), (Keeps.refl _ _).alloc _⟩
set_option maxRecDepth 8000 in
theorem index_x (w : World) (g : Nat) (h : RowAt w g words) : Calls Tryz.prog 128 #[.slice (some ⟨g, 0, none⟩) 12 12, .string { data := #[120] }] w fun e w' => e = .returned (.int .i64 (-1)) ∧ Keeps NoBlk w w' := by
  have c0 := h.cell (k := 0) (v := .string { data := #[97, 100, 100] }) rfl
  have c1 := h.cell (k := 1) (v := .string { data := #[97, 115, 115, 101, 114, 116] }) rfl
  have c2 := h.cell (k := 2) (v := .string { data := #[99, 101, 108, 108] }) rfl
  have c3 := h.cell (k := 3) (v := .string { data := #[101, 108, 115, 101] }) rfl
  have c4 := h.cell (k := 4) (v := .string { data := #[105, 102] }) rfl
  have c5 := h.cell (k := 5) (v := .string { data := #[106, 111, 105, 110] }) rfl
  have c6 := h.cell (k := 6) (v := .string { data := #[108, 111, 99, 107] }) rfl
  have c7 := h.cell (k := 7) (v := .string { data := #[109, 117, 116, 101, 120] }) rfl
  have c8 := h.cell (k := 8) (v := .string { data := #[114, 101, 112, 101, 97, 116] }) rfl
  have c9 := h.cell (k := 9) (v := .string { data := #[115, 116, 97, 114, 116] }) rfl
  have c10 := h.cell (k := 10) (v := .string { data := #[116, 104, 114, 101, 97, 100] }) rfl
  have c11 := h.cell (k := 11) (v := .string { data := #[117, 110, 108, 111, 99, 107] }) rfl
  clear h
  go_enter Tryz.func128, Tryz.ntmps128
  go_wp2_with fail
  refine wp_loop_rounds 13 ?_
  iterate 13 (rw [rounds_succ]; go_wp2_with fail)
  go_ret
  exact ⟨rfl, Keeps.refl _ _⟩
theorem contains_x (w : World) (g : Nat) (h : RowAt w g words) : Calls Tryz.prog 117 #[.slice (some ⟨g, 0, none⟩) 12 12, .string { data := #[120] }] w fun e w' => e = .returned (.bool false) ∧ Keeps NoBlk w w' := by
  have HI := Lib.hid (index_x w g h)
  clear h
  go_enter Tryz.func117, Tryz.ntmps117
  go_wp2_with (go_at_call 128; refine HI.out.mono ?_; rintro e w1 ⟨rfl, g1⟩; have G1 := Lib.hid g1; clear g1)
  go_ret
  exact ⟨rfl, G1.out⟩
theorem runeCount_x (w : World) : Calls Tryz.prog 119 #[.string { data := #[120] }] w fun e w' => e = .returned (.int .i64 1) ∧ Keeps NoBlk w w' := by
  have h1 := next_x w
  have h2 := next_xe w
  go_enter Tryz.func119, Tryz.ntmps119
  go_wp2_with fail
  refine wp_loop_rounds 2 ?_
  rw [rounds_succ]
  go_wp2_with fail
  rw [rounds_succ]
  go_wp2_with fail
  go_ret
  exact ⟨rfl, (Keeps.refl _ _).alloc _⟩
set_option maxRecDepth 8000 in
set_option maxHeartbeats 1000000 in
theorem token_x (w : World) : Calls Tryz.prog 102 #[.string { data := #[120] }] w fun e w' => e = .returned (.tuple #[.agg #[.int .i64 1, .string { data := #[120] }, .int .i64 0, .int .i64 0], .int .i64 0]) ∧ Keeps NoBlk w w' := by
  go_enter Tryz.func102, Tryz.ntmps102
  go_upto_region 1 with fail
  obtain ⟨b2, hb2⟩ : ∃ z, z = w.heap.size := ⟨_, rfl⟩
  have hr2 : RowAt (w.alloc (.cells #[.int .i64 0, .string { data := #[] }, .int .i64 0, .int .i64 0] 136)) b2 [.int .i64 0, .string { data := #[] }, .int .i64 0, .int .i64 0] := by rw [hb2]; exact RowAt.ofBlock (heap_alloc_new w _)
  have hk1 : Keeps NoBlk w (w.alloc (.cells #[.int .i64 0, .string { data := #[] }, .int .i64 0, .int .i64 0] 136)) := (Keeps.refl _ _).alloc _
  have HB : Hid (w.heap.size ≤ b2) := by show _ ≤ _; omega
  rw [← hb2]
  generalize w.alloc (.cells #[.int .i64 0, .string { data := #[] }, .int .i64 0, .int .i64 0] 136) = w1 at hr2 hk1 ⊢
  have R2 := Lib.hid hr2
  have K1 := Lib.hid hk1
  clear hr2 hk1 hb2
  go_upto_region 2 with (go_at_call 111; refine (decode_x _).mono ?_; rintro e w2 ⟨rfl, g1⟩; have G1 := Lib.hid g1; clear g1)
  go_upto_region 7 with (go_at_call 112; refine (goes_x _).mono ?_; rintro e w3 ⟨rfl, g1⟩; have G2 := Lib.hid g1; clear g1)
  go_upto_region 8 with (go_at_call 114; refine (word_x _).mono ?_; rintro e w4 ⟨rfl, g1⟩; have G3 := Lib.hid g1; clear g1)
  obtain ⟨b7, hb7⟩ : ∃ z, z = w4.heap.size := ⟨_, rfl⟩
  have r7 : RowAt (w4.alloc (.cells #[.int .i64 1, .string { data := #[120] }, .int .i64 0, .int .i64 0] 136)) b7 [.int .i64 1, .string { data := #[120] }, .int .i64 0, .int .i64 0] := by rw [hb7]; exact RowAt.ofBlock (heap_alloc_new w4 _)
  have k5 : Keeps NoBlk w1 (w4.alloc (.cells #[.int .i64 1, .string { data := #[120] }, .int .i64 0, .int .i64 0] 136)) := (G1.out.trans0 (G2.out.trans0 G3.out)).alloc _
  rw [← hb7]
  generalize w4.alloc (.cells #[.int .i64 1, .string { data := #[120] }, .int .i64 0, .int .i64 0] 136) = w5 at r7 k5 ⊢
  have R7 := Lib.hid r7
  have K5 := Lib.hid k5
  clear r7 k5 hb7 G1 G2 G3
  go_upto_region 13 with (go_at_call 115; refine (digit_x _).mono ?_; rintro e w6 ⟨rfl, g1⟩; have G1 := Lib.hid g1; clear g1)
  refine wp_region_table 4 (by kernel_rfl) (by kernel_rfl) (Keeps NoBlk) (Keeps.refl NoBlk) (fun a b c h h' => Keeps.trans0 h h') (TabV [none, some (.pointer (some ⟨b7, 1, none⟩)), some (.string { data := #[120] }), some (.bool false)] (fun _ v W => ∃ g, v = .slice (some ⟨g, 0, none⟩) 12 12 ∧ RowAt W g words)) (TabV.st (fun j v W W' h hk => by obtain ⟨g, e, h1⟩ := h; exact ⟨g, e, h1.keeps hk (fun h => h)⟩)) ?_ ?_
  · intro q oo hq ho vs W Q' hR0 hd hK
    have hR : Keeps NoBlk w5 W := G1.out.trans0 (((Keeps.refl NoBlk w6).drew).trans0 hR0)
    obtain ⟨d0, d1, d2, d3⟩ := (R7.out.keeps hR (fun h => h)).four
    clear hR hR0
    rcases (show q = 0 ∨ q = 1 ∨ q = 2 ∨ q = 3 by omega) with rfl | rfl | rfl | rfl
    all_goals (simp only [List.getElem?_cons_zero, List.getElem?_cons_succ, Option.some.injEq] at ho; subst ho; simp only [putsTo, List.getElem?_cons_zero, List.getElem?_cons_succ, Option.bind_some, Option.bind, Act.put, List.setIfInBounds_toArray, List.set_cons_zero, List.set_cons_succ] at hK ⊢; clear hq)
    · clear hd
      go_wp2_with (go_at_call 118; refine (words_any _).mono ?_; rintro e W1 ⟨g, rfl, h1, g1⟩)
      exact hK _ _ g1 ⟨g, rfl, h1⟩
    · clear hd
      go_wp2_with fail
      exact hK _ _ (Keeps.refl _ _) rfl
    · have e1 : vs 1 = _ := hd 1 (by kernel_rfl)
      rw [e1] at hK ⊢
      clear hd
      go_wp2_with fail
      exact hK _ _ (Keeps.refl _ _) rfl
    · obtain ⟨g, e0, hg⟩ := (hd 0 (by kernel_rfl) : ∃ g, vs 0 = .slice (some ⟨g, 0, none⟩) 12 12 ∧ RowAt W g words)
      have HG := Lib.hid hg
      have e2 : vs 2 = _ := hd 2 (by kernel_rfl)
      rw [e0, e2] at hK ⊢
      clear hg
      clear hd
      go_wp2_with (go_at_call 117; refine (contains_x _ _ HG.out).mono ?_; rintro e W1 ⟨rfl, g1⟩)
      exact hK _ _ g1 rfl
  · intro vs W hR0 hF
    have hR : Keeps NoBlk w5 W := G1.out.trans0 (((Keeps.refl NoBlk w6).drew).trans0 hR0)
    have e3 : vs 3 = _ := hF 3 (by decide)
    have r7 := R7.out.keeps hR (fun h => h)
    have r2 := R2.out.keeps (K5.out.trans0 hR) (fun h => h)
    have KW : Hid (Keeps NoBlk w W) := K1.out.trans0 (K5.out.trans0 hR)
    simp only [putsTo, List.getElem?_cons_zero, List.getElem?_cons_succ, Option.bind_some, Option.bind, Act.put, List.setIfInBounds_toArray, List.set_cons_zero, List.set_cons_succ, List.drop_succ_cons, List.drop_zero]
    rw [e3]
    clear hF e3 
    generalize vs 0 = y0
    generalize vs 1 = y1
    generalize vs 2 = y2
    obtain ⟨d0, d1, d2, d3⟩ := r7.four
    have R7W := Lib.hid r7
    have R2W := Lib.hid r2
    clear hR hR0 r2 r7
    go_upto_region 17 with (go_at_call 119; refine (runeCount_x _).mono ?_; rintro e w8 ⟨rfl, g1⟩; have G8 := Lib.hid g1; clear g1)
    have r7 := R7W.out.keeps G8.out (fun h => h)
    have r2 := R2W.out.keeps G8.out (fun h => h)
    clear d0 d1 d2 d3
    obtain ⟨d0, d1, d2, d3⟩ := r7.four
    obtain ⟨a0, a1, a2, a3⟩ := r2.four
    have f0 := r2.free (k := 0) (by simp)
    have f1 := r2.free (k := 1) (by simp)
    have f2 := r2.free (k := 2) (by simp)
    have f3 := r2.free (k := 3) (by simp)
    have R2X := Lib.hid r2
    clear r7 r2
    go_wp2_with fail
    have hks : Keeps (fun q => q = b2) w8 ((((w8.setCell ⟨b2, 0, none⟩ (.int .i64 1)).setCell ⟨b2, 1, none⟩ (.string { data := #[120] })).setCell ⟨b2, 2, none⟩ (.int .i64 0)).setCell ⟨b2, 3, none⟩ (.int .i64 0)) := ((((Keeps.refl (fun q => q = b2) w8).setCell (p := ⟨b2, 0, none⟩) (fun _ => rfl) _).setCell (p := ⟨b2, 1, none⟩) (fun _ => rfl) _).setCell (p := ⟨b2, 2, none⟩) (fun _ => rfl) _).setCell (p := ⟨b2, 3, none⟩) (fun _ => rfl) _
    have hrow : RowAt ((((w8.setCell ⟨b2, 0, none⟩ (.int .i64 1)).setCell ⟨b2, 1, none⟩ (.string { data := #[120] })).setCell ⟨b2, 2, none⟩ (.int .i64 0)).setCell ⟨b2, 3, none⟩ (.int .i64 0)) b2 [.int .i64 1, .string { data := #[120] }, .int .i64 0, .int .i64 0] := (((R2X.out.set 0 (by simp) _).set 1 (by simp) _).set 2 (by simp) _).set 3 (by simp) _
    generalize (((w8.setCell ⟨b2, 0, none⟩ (.int .i64 1)).setCell ⟨b2, 1, none⟩ (.string { data := #[120] })).setCell ⟨b2, 2, none⟩ (.int .i64 0)).setCell ⟨b2, 3, none⟩ (.int .i64 0) = wE at hrow hks ⊢
    refine bodyPost_ret (v := .tuple #[.agg #[.int .i64 1, .string { data := #[120] }, .int .i64 0, .int .i64 0], .int .i64 0]) (by simp [results, Tryz.results102, go_sem, hrow.cell (k := 0) rfl, hrow.cell (k := 1) rfl, hrow.cell (k := 2) rfl, hrow.cell (k := 3) rfl]) rfl ?_
    exact ⟨rfl, (KW.out.trans0 G8.out).trans hks (fun q hq e => by have e' : q = b2 := e; have := HB.out; omega)⟩
end Go.Proofs.YtbkkpcignmcjnaaGreatDoor
