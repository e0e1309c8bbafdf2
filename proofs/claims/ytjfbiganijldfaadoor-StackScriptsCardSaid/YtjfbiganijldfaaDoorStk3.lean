/- Contracts of the methods of package stack: Close (whole), Open. -/
import Derived.Test.YtjfbiganijldfaaDoorStk2
namespace Go.Proofs.YtjfbiganijldfaaDoor
open Go.RowKit
set_option linter.unusedVariables false
set_option linter.unusedSimpArgs false
set_option linter.unnecessarySimpa false

/-- what Close does -/
def closeN (L : List Nd) : Bool × List Nd :=
  if topOpen L then (true, match L.dropLast.getLast? with | none => [] | some x => L.dropLast.dropLast ++ [x.tried]) else (false, L)

theorem stk_same {w : World} {b : Nat} {v : Value} {L : List Nd} (h : StackAt w b v L) (r : Value) (k : Nat) : StkPost w b v r L (.returned r) (w.drewN k) :=
  ⟨v, rfl, h.drewN k, (Keeps.refl _ _).drewN k, fun k hk => .inl hk⟩

/-- what top hands back -/
theorem top_any (w : World) (b : Nat) (v : Value) (L : List Nd) (h : StackAt w b v L) (hok : StkOk L) :
    (topOpen L = false → Calls Tryd.prog 27 #[.pointer (some ⟨b, 0, none⟩)] w fun e w' => e = .returned (.pointer none) ∧ ∃ k, w' = w.drewN k) ∧
    (topOpen L = true → ∃ g cap, v = .slice (some ⟨g, 0, none⟩) L.length cap ∧ Calls Tryd.prog 27 #[.pointer (some ⟨b, 0, none⟩)] w fun e w' => e = .returned (.pointer (some ⟨g, (L.length - 1) * 4, none⟩)) ∧ ∃ k, w' = w.drewN k) := by
  cases hx : L.getLast? with
  | none =>
    have e : L = [] := List.getLast?_eq_none_iff.1 hx
    subst e
    refine ⟨fun _ => ?_, fun h' => by simp [topOpen] at h'⟩
    rcases h.shape with ⟨rfl, _⟩ | ⟨g, cap, rfl, _⟩
    · exact top_raw_empty none b 0 w h.cell0
    · exact top_raw_empty _ b cap w h.cell0
  | some x =>
    obtain ⟨L0, rfl⟩ := last_split hx
    have hlen : (L0 ++ [x]).length = L0.length + 1 := by simp
    have hl60 : L0.length ≤ 60 := by have := hok.1; omega
    rcases h.shape with ⟨_, e⟩ | ⟨g, cap, rfl, hg, hn, hm⟩
    · simp at e
    have hget := h.get (i := L0.length) (x := x) (by simp)
    refine ⟨fun ht => ?_, fun ht => ⟨g, cap, rfl, ?_⟩⟩
    · simp only [topOpen, hx, decide_eq_false_iff_not] at ht
      exact top_raw_tried b g L0.length cap _ w hl60 (by omega) (by rw [← hlen]; exact h.cell0) hget.2.2.2
    · simp only [topOpen, hx, decide_eq_true_eq] at ht
      rw [show (L0 ++ [x]).length - 1 = L0.length by simp]
      exact top_raw_open b g L0.length cap _ w hl60 ht (by rw [← hlen]; exact h.cell0) hget.2.2.2

theorem close_any (w : World) (b : Nat) (v : Value) (L : List Nd) (h : StackAt w b v L) (hok : StkOk L) :
    Calls Tryd.prog 18 #[.pointer (some ⟨b, 0, none⟩)] w (StkPost w b v (.bool (closeN L).1) (closeN L).2) := by
  obtain ⟨t1, t2⟩ := top_any w b v L h hok
  cases ht : topOpen L with
  | false =>
    rw [show closeN L = (false, L) by simp [closeN, ht]]
    refine (close_raw_none b w (t1 ht)).mono ?_
    rintro e w' ⟨rfl, k, rfl⟩
    exact stk_same h _ k
  | true =>
    obtain ⟨g, cap, rfl, hc⟩ := t2 ht
    have hcap : L.length ≤ cap := by
      rcases h.shape with ⟨e, _⟩ | ⟨g', cap', e, _, h1, _⟩
      · simp at e
      · simp at e; omega
    rcases List.eq_nil_or_concat L with rfl | ⟨L1, y, rfl⟩
    · simp [topOpen] at ht
    rw [List.concat_eq_append] at *
    rcases List.eq_nil_or_concat L1 with rfl | ⟨L0, x, rfl⟩
    · rw [show closeN ([] ++ [y]) = (true, []) by unfold closeN; rw [if_pos ht]; rfl]
      refine (close_raw_last b g cap w _ (by simpa using hcap) hc h.cell0 h.free0).mono ?_
      rintro e w' ⟨rfl, k, rfl⟩
      have h1 := (h.drewN k).shrink 0 (by simp)
      exact ⟨_, rfl, h1, ((Keeps.refl _ _).drewN k).setCell (fun _ => .inl rfl) _, fun k hk => .inl hk⟩
    · rw [List.concat_eq_append, List.append_assoc] at *
      have hlen : (L0 ++ ([x] ++ [y])).length = L0.length + 2 := by simp
      rw [show closeN (L0 ++ ([x] ++ [y])) = (true, L0 ++ [x.tried]) by
        unfold closeN
        rw [if_pos ht, ← List.append_assoc, List.dropLast_concat, List.getLast?_concat, List.dropLast_concat]]
      have hget := h.get (i := L0.length) (x := x) (by simp)
      have hg : g ≠ b := fun e => h.apart (by rw [e]; rfl)
      refine close_raw_more b g L0.length cap x.sleep x.back x.done x.thread w _ (by have := hok.1; omega) (by omega) hg hc (by rw [← hlen]; exact h.cell0) h.free0 hget.1 hget.2.1 hget.2.2.1 hget.2.2.2 (fun j => h.free j) _ _ ?_
      intro k
      exact close_fin w b g cap k L0 x y _ h

/-- what Open lays on top -/
def openNd (a e : Int) : Nd := ⟨a % 256, putN 0 (leastN (bits .andNot .u64 e (a % 256))), 0, -1⟩
def openN (L : List Nd) (a e : Int) : Bool × List Nd := if L.length = 61 ∨ topOpen L = true then (false, L) else (true, L ++ [openNd a e])

theorem infoNode : (Tryd.prog.info? 52).map (fun i => (i.zero, i.size, i.bytes)) = some (some (.agg #[.int .u64 0, .int .u64 0, .int .u64 0, .int .i64 0]), 4, 32) := by kernel_rfl

theorem open_fin (w W w1 : World) (b : Nat) (v : Value) (L : List Nd) (x : Nd) (g cap k : Nat) (h : StackAt w b v L) (hW : Keeps NoBlk w W) 
    (hown : w1.ownsRow 0 52 4 (.slice (some ⟨g, 0, none⟩) (L.length + 1) cap) (L.length + 1) (ndCells L ++ x.cells)) (hg : W.grownBy w1 v.ownBlock) (hat : v.ownBlock = some g ∨ g = W.heap.size) :
    StkPost w b v (.bool true) (L ++ [x]) (.returned (.bool true)) ((w1.setCell ⟨b, 0, none⟩ (.slice (some ⟨g, 0, none⟩) (L.length + 1) cap)).drewN k) := by
  have hb := lt_of_block h.blk
  have hbW : W.heap.size ≥ w.heap.size := hW.size
  have hgb : g ≠ b := by
    rcases hat with e | e
    · exact fun e' => h.apart (by rw [e, e'])
    · omega
  have hblk : w1.heap[b]? = some (.cells #[v] 50 (0, 0)) := by
    rw [hg.block b (by omega) (fun e => h.apart e.symm)]
    exact hW.heap (fun h => h) h.blk
  have hlen : (L ++ [x]).length = L.length + 1 := by simp
  refine ⟨.slice (some ⟨g, 0, none⟩) (L.length + 1) cap, rfl, ⟨one_setCell hblk, ?_, by simp [Value.ownBlock, hgb]⟩, ?_, ?_⟩
  · have := ownsRow_setCell_other hown (a := ⟨b, 0, none⟩) (by simp [Value.ownBlock, hgb]) (.slice (some ⟨g, 0, none⟩) (L.length + 1) cap)
    rw [hlen]
    rw [show ndCells (L ++ [x]) = ndCells L ++ x.cells by simp [ndCells]]
    exact this
  · exact (((hW.mono (fun _ _ h => h.elim)).grown hg (fun k e _ => .inr e)).setCell (fun _ => .inl rfl) _).drewN _
  · intro k e
    simp [Value.ownBlock] at e
    subst e
    rcases hat with e | e
    · exact .inl e
    · exact .inr (by omega)

section
variable (b n : Nat) (v : Value) (xs : List Value) (a e : Int) (w : World)

set_option maxHeartbeats 400000 in
theorem open_raw_full (cap : Nat) (ad : Option Addr) (hv : w.cell? ⟨b, 0, none⟩ = some (.slice ad 61 cap)) :
    Calls Tryd.prog 14 #[.pointer (some ⟨b, 0, none⟩), .int .u64 a, .int .u64 e] w fun r w' => r = .returned (.bool false) ∧ ∃ k, w' = w.drewN k := by
  go_enter Tryd.func14, Tryd.ntmps14
  go_wp2
  go_ret
  exact ⟨rfl, 0, rfl⟩

set_option maxHeartbeats 400000 in
theorem open_raw_busy (cap : Nat) (ad : Option Addr) (p : Addr) (hn : n < 61) (hv : w.cell? ⟨b, 0, none⟩ = some (.slice ad n cap))
    (h : Calls Tryd.prog 27 #[.pointer (some ⟨b, 0, none⟩)] w fun e w' => e = .returned (.pointer (some p)) ∧ ∃ k, w' = w.drewN k) :
    Calls Tryd.prog 14 #[.pointer (some ⟨b, 0, none⟩), .int .u64 a, .int .u64 e] w fun r w' => r = .returned (.bool false) ∧ ∃ k, w' = w.drewN k := by
  have H := Lib.hid h
  have e1 : ((n : Int) == 61) = false := by rw [beq_eq_false_iff_ne]; omega
  clear h
  go_enter Tryd.func14, Tryd.ntmps14
  go_wp2_with (go_at_call 27; refine H.out.mono ?_; rintro e w' ⟨rfl, k, rfl⟩)
  go_ret
  exact ⟨rfl, _, rfl⟩

set_option maxHeartbeats 1000000 in
theorem open_raw_push (cap : Nat) (ad : Option Addr) (hn : n < 61) (hv : w.cell? ⟨b, 0, none⟩ = some (.slice ad n cap)) (hf : w.frozen? ⟨b, 0, none⟩ = false)
    (hne : (Value.slice ad n cap).ownBlock ≠ some b) (hown : w.ownsRow 0 52 4 (.slice ad n cap) n xs)
    (ha : 0 ≤ a ∧ a < 18446744073709551616) (he : 0 ≤ e ∧ e < 18446744073709551616) (hT : TabOK w)
    (h : Calls Tryd.prog 27 #[.pointer (some ⟨b, 0, none⟩)] w fun e w' => e = .returned (.pointer none) ∧ ∃ k, w' = w.drewN k) (L' : List Nd)
    (hR : ∀ W w1 g cap' k, Keeps NoBlk w W → w1.ownsRow 0 52 4 (.slice (some ⟨g, 0, none⟩) (n + 1) cap') (n + 1) (xs ++ (openNd a e).cells) → W.grownBy w1 (Value.slice ad n cap).ownBlock → ((Value.slice ad n cap).ownBlock = some g ∨ g = W.heap.size) →
       StkPost w b (.slice ad n cap) (.bool true) L' (.returned (.bool true)) ((w1.setCell ⟨b, 0, none⟩ (.slice (some ⟨g, 0, none⟩) (n + 1) cap')).drewN k)) :
    Calls Tryd.prog 14 #[.pointer (some ⟨b, 0, none⟩), .int .u64 a, .int .u64 e] w (StkPost w b (.slice ad n cap) (.bool true) L') := by
  have H := Lib.hid h
  have HR := Lib.hid hR
  have HT := Lib.hid hT
  have HO := Lib.hid hown
  have e1 : ((n : Int) == 61) = false := by rw [beq_eq_false_iff_ne]; omega
  have e2 := and255 a ha
  have hbd := andNot_bd e (a % 256) he (by omega)
  have q1 : b < w.heap.size := World.block_lt_of_cell? w _ hv
  have q2 : b ≠ w.heap.size := by omega
  have q3 : w.heap.size ≠ b := by omega
  clear h hR hT hown
  go_enter Tryd.func14, Tryd.ntmps14
  go_wp2_with (go_at_call 27; refine H.out.mono ?_; rintro e W ⟨rfl, k, hk⟩; have hv1 : W.cell? ⟨b, 0, none⟩ = some (.slice ad n cap) := (by rw [hk]; exact hv); have hf1 : W.frozen? ⟨b, 0, none⟩ = false := (by rw [hk]; exact hf); have q1 : b < W.heap.size := (by rw [hk]; exact q1); have q2 : b ≠ W.heap.size := (by omega); have q3 : W.heap.size ≠ b := (by omega); have HT1 : Hid (TabOK W) := (by rw [hk]; exact HT.out); have HO1 : Hid (W.ownsRow 0 52 4 (.slice ad n cap) n xs) := (by rw [hk]; exact HO.out); have Hk : Hid (Keeps NoBlk w W) := (by rw [hk]; exact (Keeps.refl _ _).drewN _); clear hk hv hf)
  have HT2 : ∀ o : Obj, TabOK (W.alloc o).drew := fun o j hj => by
    have h1 := HT1.out j hj
    rw [← h1]
    exact World.cell?_of_block (Below.heap_alloc _ _ _ (World.block_lt_of_cell? W _ h1))
  have HT3 := Lib.hid HT2
  clear HT2
  go_region_with (first | (go_at_call 28; refine (put_any _ _ _).mono ?_; rintro e w' ⟨rfl, rfl⟩) | (go_at_call 29; refine (least_any _ _ (by omega) (by exact HT3.out _)).mono ?_; rintro e w' ⟨rfl, rfl⟩))
  all_goals (
    go_wp2_with fail
    obtain ⟨i0, hi0, hz0, hz1, hz2⟩ := info_parts infoNode
    go_region_law ((refine step_append_lies _ (by rfl) _ _ _ (by rfl) 0 52 i0 _ 4 32 Tryd.underlying48 hi0 hz0 hz1 hz2 rfl (by decide) (.slice ad n cap) n xs (by rfl) (by exact ownsRow_keeps HO1.out (S := NoBlk) (by repeat (first | exact Keeps.refl _ _ | apply Keeps.drew | apply Keeps.alloc)) (fun _ _ h => h)) ⟨W.heap.size + 1, 0, none⟩ 1 1 (openNd a e).cells (by rfl) (by rfl) (World.news_of_block (cs := (openNd a e).cells.toArray) (t := 52) (fr := (0, 0)) (by exact heap_alloc2 W _ _)) (by simp [Value.oneCell', openNd, Nd.cells]) (by omega) (by unfold maxLen; omega) (by omega) (by simp) (W.heap.size + 2) (by simp) ?_; intro gg cap' w1 hown1 hgrow hat hlt; have hv2 : w1.cell? ⟨b, 0, none⟩ = some (.slice ad n cap) := (hgrow.cell (by go_simp) (Ne.symm hne)); have hf2 : w1.frozen? ⟨b, 0, none⟩ = false := (by rw [hgrow.frozen_far _ (by simp; omega) (Ne.symm hne)]; go_simp)))
    all_goals (
      go_wp2
      go_ret
      exact HR.out _ w1 gg cap' 0 (by repeat (first | exact Hk.out | apply Keeps.drew | apply Keeps.alloc)) hown1 hgrow (by exact hat.imp_right (fun h => (by simpa using h)))))

theorem open_any (w : World) (b : Nat) (v : Value) (L : List Nd) (a e : Int) (h : StackAt w b v L) (hok : StkOk L) (hT : TabOK w)
    (ha : 0 ≤ a ∧ a < 18446744073709551616) (he : 0 ≤ e ∧ e < 18446744073709551616) :
    Calls Tryd.prog 14 #[.pointer (some ⟨b, 0, none⟩), .int .u64 a, .int .u64 e] w (StkPost w b v (.bool (openN L a e).1) (openN L a e).2) := by
  obtain ⟨t1, t2⟩ := top_any w b v L h hok
  obtain ⟨ad, n, cap, rfl, hn⟩ : ∃ ad n cap, v = .slice ad n cap ∧ n = L.length := by
    rcases h.shape with ⟨rfl, rfl⟩ | ⟨g, cap, rfl, _⟩
    · exact ⟨_, _, _, rfl, rfl⟩
    · exact ⟨_, _, _, rfl, rfl⟩
  subst hn
  by_cases h61 : L.length = 61
  · rw [show openN L a e = (false, L) by simp [openN, h61]]
    have hv := h.cell0
    rw [h61] at hv
    refine (open_raw_full b a e w cap ad hv).mono ?_
    rintro r w' ⟨rfl, k, rfl⟩
    exact stk_same h _ k
  · have hlt : L.length < 61 := by have := hok.1; omega
    cases ht : topOpen L with
    | true =>
      rw [show openN L a e = (false, L) by simp [openN, ht]]
      obtain ⟨g, cap', _, hc⟩ := t2 ht
      refine (open_raw_busy b L.length a e w cap ad _ hlt h.cell0 hc).mono ?_
      rintro r w' ⟨rfl, k, rfl⟩
      exact stk_same h _ k
    | false =>
      rw [show openN L a e = (true, L ++ [openNd a e]) by simp [openN, ht, h61]]
      exact open_raw_push b L.length (ndCells L) a e w cap ad hlt h.cell0 h.free0 h.apart h.own ha he hT (t1 ht) _ (fun W w1 g cap' k hk ho hg hat => open_fin w W w1 b _ L _ g cap' k h hk ho hg hat)
end
end Go.Proofs.YtjfbiganijldfaaDoor
