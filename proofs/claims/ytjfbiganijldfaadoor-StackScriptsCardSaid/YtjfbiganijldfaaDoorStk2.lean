/- Contracts of the methods of package stack: Len, New, Node, Close. -/
import Derived.Test.YtjfbiganijldfaaDoorStk
namespace Go.Proofs.YtjfbiganijldfaaDoor
open Go.RowKit
set_option linter.unusedVariables false
set_option linter.unusedSimpArgs false
set_option linter.unnecessarySimpa false

set_option maxHeartbeats 400000 in
theorem stkLen_raw (b n cap : Nat) (a : Option Addr) (w : World) (hv : w.cell? ⟨b, 0, none⟩ = some (.slice a n cap)) :
    Calls Tryd.prog 9 #[.pointer (some ⟨b, 0, none⟩)] w fun e w' => e = .returned (.int .i64 n) ∧ w = w' := by
  go_enter Tryd.func9, Tryd.ntmps9
  go_wp2
  go_ret
  exact ⟨rfl, rfl⟩
theorem stkLen_any (w : World) (b : Nat) (v : Value) (L : List Nd) (h : StackAt w b v L) :
    Calls Tryd.prog 9 #[.pointer (some ⟨b, 0, none⟩)] w fun e w' => e = .returned (.int .i64 L.length) ∧ w = w' := by
  rcases h.shape with ⟨rfl, rfl⟩ | ⟨g, cap, rfl, _⟩
  · exact stkLen_raw b 0 0 none w h.cell0
  · exact stkLen_raw b _ cap _ w h.cell0

set_option maxHeartbeats 400000 in
theorem stkNew_any (w : World) :
    Calls Tryd.prog 7 #[] w fun e w' => e = .returned (.pointer (some ⟨w.heap.size, 0, none⟩)) ∧ w' = w.alloc (.cells #[.slice none 0 0] 50 (0, 0)) := by
  go_enter Tryd.func7, Tryd.ntmps7
  go_wp2
  go_ret
  exact ⟨rfl, rfl⟩
theorem StackAt.fresh (w : World) : StackAt (w.alloc (.cells #[.slice none 0 0] 50 (0, 0))) w.heap.size (.slice none 0 0) [] :=
  ⟨heap_alloc_new w _, World.ownsRow_nil _ _ _ _, by simp [Value.ownBlock]⟩

section
variable (a : Option Addr) (b g n cap : Nat) (sl bk dn t at_ : Int) (w : World)

set_option maxHeartbeats 400000 in
/-- Node where there is none -/
theorem node_raw_none (hv : w.cell? ⟨b, 0, none⟩ = some (.slice a n cap)) (h : at_ < 0 ∨ n ≤ at_) :
    Calls Tryd.prog 31 #[.pointer (some ⟨b, 0, none⟩), .int .i64 at_] w fun e w' => e = .returned (.tuple #[.agg #[.int .u64 0, .int .u64 0, .int .u64 0, .int .i64 0], .bool false]) ∧ Below w.heap.size w w' := by
  rcases h with h | h
  · go_enter Tryd.func31, Tryd.ntmps31
    go_wp2
    refine bodyPost_ret (v := .tuple #[.agg #[.int .u64 0, .int .u64 0, .int .u64 0, .int .i64 0], .bool false]) (by simp [results, Tryd.results31, go_sem]) rfl ⟨rfl, ?_⟩
    exact (Below.refl _ _).alloc (Nat.le_refl _) _
  · have h' : ¬ at_ < 0 := by omega
    have q1 : b < w.heap.size := World.block_lt_of_cell? w _ hv
    go_enter Tryd.func31, Tryd.ntmps31
    go_wp2
    refine bodyPost_ret (v := .tuple #[.agg #[.int .u64 0, .int .u64 0, .int .u64 0, .int .i64 0], .bool false]) (by simp [results, Tryd.results31, go_sem]) rfl ⟨rfl, ?_⟩
    exact (Below.refl _ _).alloc (Nat.le_refl _) _

set_option maxHeartbeats 400000 in
theorem node_raw_some (i : Nat) (hi : i < n) (hn : n ≤ 61) (hv : w.cell? ⟨b, 0, none⟩ = some (.slice (some ⟨g, 0, none⟩) n cap))
    (h0 : w.cell? ⟨g, i * 4, none⟩ = some (.int .u64 sl)) (h1 : w.cell? ⟨g, i * 4 + 1, none⟩ = some (.int .u64 bk)) (h2 : w.cell? ⟨g, i * 4 + 2, none⟩ = some (.int .u64 dn)) (h3 : w.cell? ⟨g, i * 4 + 3, none⟩ = some (.int .i64 t)) :
    Calls Tryd.prog 31 #[.pointer (some ⟨b, 0, none⟩), .int .i64 i] w fun e w' => e = .returned (.tuple #[.agg #[.int .u64 sl, .int .u64 bk, .int .u64 dn, .int .i64 t], .bool true]) ∧ Below w.heap.size w w' := by
  have e1 : ¬ ((i : Int) < 0) := by omega
  have q1 : b < w.heap.size := World.block_lt_of_cell? w _ hv
  have q2 : g < w.heap.size := World.block_lt_of_cell? w _ h0
  go_enter Tryd.func31, Tryd.ntmps31
  go_wp2
  refine bodyPost_ret (v := .tuple #[.agg #[.int .u64 sl, .int .u64 bk, .int .u64 dn, .int .i64 t], .bool true]) (by simp [results, Tryd.results31, go_sem]) rfl ⟨rfl, ?_⟩
  exact (Below.refl _ _).alloc (Nat.le_refl _) _

set_option maxHeartbeats 400000 in
theorem close_raw_none (h : Calls Tryd.prog 27 #[.pointer (some ⟨b, 0, none⟩)] w fun e w' => e = .returned (.pointer none) ∧ ∃ k, w' = w.drewN k) :
    Calls Tryd.prog 18 #[.pointer (some ⟨b, 0, none⟩)] w fun e w' => e = .returned (.bool false) ∧ ∃ k, w' = w.drewN k := by
  have H := Lib.hid h
  clear h
  go_enter Tryd.func18, Tryd.ntmps18
  go_wp2_with (go_at_call 27; refine H.out.mono ?_; rintro e w' ⟨rfl, k, rfl⟩)
  go_ret
  exact ⟨rfl, _, rfl⟩

set_option maxHeartbeats 400000 in
theorem close_raw_last (p : Addr) (hcap : 1 ≤ cap) (h : Calls Tryd.prog 27 #[.pointer (some ⟨b, 0, none⟩)] w fun e w' => e = .returned (.pointer (some p)) ∧ ∃ k, w' = w.drewN k)
    (hv : w.cell? ⟨b, 0, none⟩ = some (.slice (some ⟨g, 0, none⟩) 1 cap)) (hf : w.frozen? ⟨b, 0, none⟩ = false) :
    Calls Tryd.prog 18 #[.pointer (some ⟨b, 0, none⟩)] w fun e w' => e = .returned (.bool true) ∧ ∃ k, w' = (w.drewN k).setCell ⟨b, 0, none⟩ (.slice (some ⟨g, 0, none⟩) 0 cap) := by
  have H := Lib.hid h
  clear h
  go_enter Tryd.func18, Tryd.ntmps18
  go_wp2_with (go_at_call 27; refine H.out.mono ?_; rintro e w' ⟨rfl, k, rfl⟩)
  go_region
  go_wp2
  go_ret
  exact ⟨rfl, _, rfl⟩

theorem StackAt.shrink {w : World} {b g cap : Nat} {L : List Nd} (h : StackAt w b (.slice (some ⟨g, 0, none⟩) L.length cap) L) (n : Nat) (hn : n ≤ L.length) :
    StackAt (w.setCell ⟨b, 0, none⟩ (.slice (some ⟨g, 0, none⟩) n cap)) b (.slice (some ⟨g, 0, none⟩) (L.take n).length cap) (L.take n) := by
  have hl : (L.take n).length = n := by rw [List.length_take]; omega
  have hg : g ≠ b := fun e => h.apart (by rw [e]; rfl)
  rw [hl]
  refine ⟨one_setCell h.blk, ?_, h.apart⟩
  have ho := ownsRow_setCell_other h.own (a := ⟨b, 0, none⟩) h.apart (.slice (some ⟨g, 0, none⟩) n cap)
  refine ⟨by rw [ndCells_len], .inr ?_⟩
  rcases ho.2 with ⟨h', _⟩ | ⟨g', cap', cur, h', hb, hgg, hnc, hcm, hcs, htake⟩
  · simp at h'
  · simp only [Value.slice.injEq, Option.some.injEq, Addr.mk.injEq, and_true] at h'
    obtain ⟨rfl, _, rfl⟩ := h'
    refine ⟨g, cap, cur, by rw [hl], hb, hgg, by omega, hcm, hcs, ?_⟩
    have : cur.toList.take ((L.take n).length * 4) = (cur.toList.take (L.length * 4)).take (n * 4) := by
      rw [List.take_take, hl]; congr 1; omega
    rw [this, htake]
    show (L.flatMap Nd.cells).take (n * 4) = (L.take n).flatMap Nd.cells
    exact take_cells _ 4 nd_len L n

/-- the node below the top, behind a Close -/
def Nd.tried (x : Nd) : Nd := ⟨putN x.sleep x.thread, x.back, putN x.done x.thread, -1⟩

theorem close_fin (w : World) (b g cap k : Nat) (L0 : List Nd) (x y : Nd) (o : Obj) (h : StackAt w b (.slice (some ⟨g, 0, none⟩) (L0 ++ [x, y]).length cap) (L0 ++ [x, y])) :
    StkPost w b (.slice (some ⟨g, 0, none⟩) (L0 ++ [x, y]).length cap) (.bool true) (L0 ++ [x.tried]) (.returned (.bool true))
      (((((((w.drewN k).setCell ⟨b, 0, none⟩ (.slice (some ⟨g, 0, none⟩) (L0.length + 1) cap)).alloc o).setCell ⟨g, L0.length * 4, none⟩ (.int .u64 (putN x.sleep x.thread))).setCell ⟨g, L0.length * 4 + 1, none⟩ (.int .u64 x.back)).setCell ⟨g, L0.length * 4 + 2, none⟩ (.int .u64 (putN x.done x.thread))).setCell ⟨g, L0.length * 4 + 3, none⟩ (.int .i64 (-1))).drew := by
  have e0 : (L0 ++ [x, y]).take (L0.length + 1) = L0 ++ [x] := by simp [List.take_append, List.take_of_length_le]
  have h1 := (h.drewN k).shrink (L0.length + 1) (by simp)
  rw [e0] at h1
  have h2 := h1.alloc o
  have es : ∀ z z' : Nd, (L0 ++ [z]).set L0.length z' = L0 ++ [z'] := fun z z' => by simp
  have h3 := h2.set (i := L0.length) (j := 0) (by decide) (x := x) (y := { x with sleep := putN x.sleep x.thread }) (by simp) (u := .int .u64 (putN x.sleep x.thread)) rfl
  rw [es] at h3
  have h4 := h3.set (i := L0.length) (j := 1) (by decide) (x := { x with sleep := putN x.sleep x.thread }) (y := { x with sleep := putN x.sleep x.thread }) (by simp) (u := .int .u64 x.back) rfl
  rw [es] at h4
  have h5 := h4.set (i := L0.length) (j := 2) (by decide) (x := { x with sleep := putN x.sleep x.thread }) (y := { x with sleep := putN x.sleep x.thread, done := putN x.done x.thread }) (by simp) (u := .int .u64 (putN x.done x.thread)) rfl
  rw [es] at h5
  have h6 := h5.set (i := L0.length) (j := 3) (by decide) (x := { x with sleep := putN x.sleep x.thread, done := putN x.done x.thread }) (y := x.tried) (by simp) (u := .int .i64 (-1)) rfl
  rw [es] at h6
  refine ⟨_, rfl, h6.drewN 1, ?_, fun k hk => .inl hk⟩
  exact ((((((((Keeps.refl _ _).drewN k).setCell (fun _ => .inl rfl) _).alloc _).setCell (fun _ => .inr rfl) _).setCell (fun _ => .inr rfl) _).setCell (fun _ => .inr rfl) _).setCell (fun _ => .inr rfl) _).drew

set_option maxHeartbeats 1000000 in
theorem close_raw_more (p : Addr) (hn : n ≤ 59) (hcap : n + 2 ≤ cap) (hgb : g ≠ b) (h : Calls Tryd.prog 27 #[.pointer (some ⟨b, 0, none⟩)] w fun e w' => e = .returned (.pointer (some p)) ∧ ∃ k, w' = w.drewN k)
    (hv : w.cell? ⟨b, 0, none⟩ = some (.slice (some ⟨g, 0, none⟩) (n + 2) cap)) (hf : w.frozen? ⟨b, 0, none⟩ = false)
    (h0 : w.cell? ⟨g, n * 4, none⟩ = some (.int .u64 sl)) (h1 : w.cell? ⟨g, n * 4 + 1, none⟩ = some (.int .u64 bk)) (h2 : w.cell? ⟨g, n * 4 + 2, none⟩ = some (.int .u64 dn)) (h3 : w.cell? ⟨g, n * 4 + 3, none⟩ = some (.int .i64 t))
    (hfg : ∀ j, w.frozen? ⟨g, j, none⟩ = false) (v : Value) (L' : List Nd)
    (hR : ∀ k, StkPost w b v (.bool true) L' (.returned (.bool true)) (((((((w.drewN k).setCell ⟨b, 0, none⟩ (.slice (some ⟨g, 0, none⟩) (n + 1) cap)).alloc (.cells #[.int .u64 sl, .int .u64 bk, .int .u64 dn, .int .i64 t] 52)).setCell ⟨g, n * 4, none⟩ (.int .u64 (putN sl t))).setCell ⟨g, n * 4 + 1, none⟩ (.int .u64 bk)).setCell ⟨g, n * 4 + 2, none⟩ (.int .u64 (putN dn t))).setCell ⟨g, n * 4 + 3, none⟩ (.int .i64 (-1))).drew) :
    Calls Tryd.prog 18 #[.pointer (some ⟨b, 0, none⟩)] w (StkPost w b v (.bool true) L') := by
  have HR := Lib.hid hR
  clear hR
  have H := Lib.hid h
  have e1 := wrapNat (n + 1) (by omega)
  have e2 := wrapNat n (by omega)
  have q1 : b < w.heap.size := World.block_lt_of_cell? w _ hv
  have q2 : g < w.heap.size := World.block_lt_of_cell? w _ h0
  clear h
  go_enter Tryd.func18, Tryd.ntmps18
  go_wp2_with (go_at_call 27; refine H.out.mono ?_; rintro e w' ⟨rfl, k, rfl⟩)
  go_region
  go_wp2
  obtain ⟨W, hW⟩ : ∃ W, W = ((w.drewN (k + 1)).setCell ⟨b, 0, none⟩ (.slice (some ⟨g, 0, none⟩) (n + 1) cap)).alloc (.cells #[.int .u64 sl, .int .u64 bk, .int .u64 dn, .int .i64 t] 52) := ⟨_, rfl⟩
  rw [← hW]
  have hv' : W.cell? ⟨b, 0, none⟩ = some (.slice (some ⟨g, 0, none⟩) (n + 1) cap) := by rw [hW]; go_simp
  have l0 : W.cell? ⟨w.heap.size, 0, none⟩ = some (.int .u64 sl) := by rw [hW]; go_simp
  have l1 : W.cell? ⟨w.heap.size, 1, none⟩ = some (.int .u64 bk) := by rw [hW]; go_simp
  have l2 : W.cell? ⟨w.heap.size, 2, none⟩ = some (.int .u64 dn) := by rw [hW]; go_simp
  have l3 : W.cell? ⟨w.heap.size, 3, none⟩ = some (.int .i64 t) := by rw [hW]; go_simp
  have g0 : W.cell? ⟨g, n * 4, none⟩ = some (.int .u64 sl) := by rw [hW]; go_simp
  have g1 : W.cell? ⟨g, n * 4 + 1, none⟩ = some (.int .u64 bk) := by rw [hW]; go_simp
  have g2 : W.cell? ⟨g, n * 4 + 2, none⟩ = some (.int .u64 dn) := by rw [hW]; go_simp
  have g3 : W.cell? ⟨g, n * 4 + 3, none⟩ = some (.int .i64 t) := by rw [hW]; go_simp
  have f0 : W.frozen? ⟨g, n * 4, none⟩ = false := by rw [hW]; go_simp
  have f1 : W.frozen? ⟨g, n * 4 + 1, none⟩ = false := by rw [hW]; go_simp
  have f2 : W.frozen? ⟨g, n * 4 + 2, none⟩ = false := by rw [hW]; go_simp
  have f3 : W.frozen? ⟨g, n * 4 + 3, none⟩ = false := by rw [hW]; go_simp
  have HW := Lib.hid hW
  have q3 : w.heap.size ≠ g := by omega
  have q4 : g ≠ w.heap.size := by omega
  clear hW h0 h1 h2 h3 hfg hv hf q1 q2
  have e3 : (0 : Int) ≤ n := by omega
  have e4 : (n : Int) < (n : Int) + 1 := by omega
  have e5 : (n : Int) + 1 - 1 = n := by omega
  go_region_held3 (fun w' => w'.cell? ⟨b, 0, none⟩ = some (.slice (some ⟨g, 0, none⟩) (n + 1) cap) ∧ w'.cell? ⟨w.heap.size, 0, none⟩ = some (.int .u64 sl) ∧ w'.cell? ⟨w.heap.size, 1, none⟩ = some (.int .u64 bk) ∧ w'.cell? ⟨w.heap.size, 2, none⟩ = some (.int .u64 dn) ∧ w'.cell? ⟨w.heap.size, 3, none⟩ = some (.int .i64 t)) (go_keep)
    (first | (go_at_call 28; refine (put_any _ _ _).mono ?_; rintro e w' ⟨rfl, rfl⟩))
  go_wp2
  go_ret
  rw [HW.out]
  exact HR.out (k + 1)
end
end Go.Proofs.YtjfbiganijldfaaDoor
