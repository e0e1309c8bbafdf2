/- Contracts of the methods of package stack: top, Take, Len, Node, New. -/
import Derived.Test.YtjfbiganijldfaaDoorBits
namespace Go.Proofs.YtjfbiganijldfaaDoor
open Go.RowKit
set_option linter.unusedVariables false
set_option linter.unusedSimpArgs false
set_option linter.unnecessarySimpa false

/-- A node of a path. -/
structure Nd where
  sleep : Int
  back : Int
  done : Int
  thread : Int
def Nd.cells (x : Nd) : List Value := [.int .u64 x.sleep, .int .u64 x.back, .int .u64 x.done, .int .i64 x.thread]
def Nd.Ok (x : Nd) : Prop := (0 ≤ x.sleep ∧ x.sleep < 256) ∧ (0 ≤ x.back ∧ x.back < 256) ∧ (0 ≤ x.done ∧ x.done < 256) ∧ -1 ≤ x.thread ∧ x.thread < 8
def StkOk (L : List Nd) : Prop := L.length ≤ 61 ∧ ∀ x ∈ L, x.Ok
def ndCells (L : List Nd) : List Value := L.flatMap Nd.cells
theorem nd_len (x : Nd) : x.cells.length = 4 := rfl
theorem ndCells_len (L : List Nd) : (ndCells L).length = L.length * 4 := length_cells _ 4 nd_len L

/-- The stack in block b: its one cell holds v, and v owns the nodes. -/
structure StackAt (w : World) (b : Nat) (v : Value) (L : List Nd) : Prop where
  blk : w.heap[b]? = some (.cells #[v] 50 (0, 0))
  own : w.ownsRow 0 52 4 v L.length (ndCells L)
  apart : v.ownBlock ≠ some b

/-- the blocks of a stack -/
def OwnS (b : Nat) (v : Value) (k : Nat) : Prop := k = b ∨ v.ownBlock = some k

theorem StackAt.cell0 {w : World} {b : Nat} {v : Value} {L : List Nd} (h : StackAt w b v L) : w.cell? ⟨b, 0, none⟩ = some v := cell_of_one h.blk
theorem StackAt.free0 {w : World} {b : Nat} {v : Value} {L : List Nd} (h : StackAt w b v L) : w.frozen? ⟨b, 0, none⟩ = false := free_of_one h.blk
theorem StackAt.keeps {S : Nat → Prop} {w w' : World} {b : Nat} {v : Value} {L : List Nd} (h : StackAt w b v L) (hk : Keeps S w w') (hn : ∀ k, OwnS b v k → ¬ S k) : StackAt w' b v L :=
  ⟨hk.heap (hn b (.inl rfl)) h.blk, ownsRow_keeps h.own hk (fun k e => hn k (.inr e)), h.apart⟩
theorem StackAt.shape {w : World} {b : Nat} {v : Value} {L : List Nd} (h : StackAt w b v L) : (v = .slice none 0 0 ∧ L = []) ∨ ∃ g cap, v = .slice (some ⟨g, 0, none⟩) L.length cap ∧ g ≠ b ∧ L.length ≤ cap ∧ cap ≤ maxLen := by
  rcases h.own.2 with ⟨h1, h2⟩ | ⟨g, cap, cur, hv, _, _, hn, hm, _⟩
  · exact .inl ⟨h1, List.eq_nil_of_length_eq_zero h2⟩
  · refine .inr ⟨g, cap, hv, fun e => h.apart ?_, hn, hm⟩
    rw [hv, e]; rfl
theorem StackAt.get {w : World} {b g cap : Nat} {L : List Nd} (h : StackAt w b (.slice (some ⟨g, 0, none⟩) L.length cap) L) {i : Nat} {x : Nd} (hx : L[i]? = some x) :
    w.cell? ⟨g, i * 4, none⟩ = some (.int .u64 x.sleep) ∧ w.cell? ⟨g, i * 4 + 1, none⟩ = some (.int .u64 x.back) ∧ w.cell? ⟨g, i * 4 + 2, none⟩ = some (.int .u64 x.done) ∧ w.cell? ⟨g, i * 4 + 3, none⟩ = some (.int .i64 x.thread) := by
  have hi : i < L.length := (List.getElem?_eq_some_iff.1 hx).1
  have hc : ∀ j, j < 4 → w.cell? ⟨g, i * 4 + j, none⟩ = x.cells[j]? := fun j hj => by
    rw [h.own.cellAt (i * 4 + j) (by omega)]
    show (L.flatMap Nd.cells)[i * 4 + j]? = _
    rw [get_cells _ 4 nd_len L i j hj, hx]; rfl
  exact ⟨hc 0 (by decide), hc 1 (by decide), hc 2 (by decide), hc 3 (by decide)⟩
theorem StackAt.set {w : World} {b g cap : Nat} {L : List Nd} (h : StackAt w b (.slice (some ⟨g, 0, none⟩) L.length cap) L) {i j : Nat} (hj : j < 4) {x y : Nd} (hx : L[i]? = some x) {u : Value} (hy : y.cells = x.cells.set j u) :
    StackAt (w.setCell ⟨g, i * 4 + j, none⟩ u) b (.slice (some ⟨g, 0, none⟩) (L.set i y).length cap) (L.set i y) := by
  have hg : g ≠ b := fun e => h.apart (by rw [e]; rfl)
  refine ⟨?_, ?_, h.apart⟩
  · rw [Below.heap_setCell _ _ _ _ (show b ≠ g from fun e => hg e.symm), List.length_set]; exact h.blk
  · have := (h.own.stored (i * 4 + j) u).1
    rw [List.length_set]
    have e : (ndCells L).set (i * 4 + j) u = ndCells (L.set i y) := set_cells _ 4 nd_len L i j hj u x y hx hy
    rw [e] at this
    exact this
theorem StackAt.free {w : World} {b g n cap : Nat} {L : List Nd} (h : StackAt w b (.slice (some ⟨g, 0, none⟩) n cap) L) (j : Nat) : w.frozen? ⟨g, j, none⟩ = false := by
  rcases h.own.2 with ⟨h', _⟩ | ⟨g', cap', cur, h', _, hg, _⟩
  · simp at h'
  · simp only [Value.slice.injEq, Option.some.injEq, Addr.mk.injEq, and_true, true_and] at h'
    obtain ⟨rfl, _⟩ := h'
    exact frozen_of_row w g j cur _ hg
theorem StackAt.alloc {w : World} {b : Nat} {v : Value} {L : List Nd} (h : StackAt w b v L) (o : Obj) : StackAt (w.alloc o) b v L :=
  h.keeps (S := NoBlk) ((Keeps.refl _ _).alloc o) (fun _ _ h => h)
theorem StackAt.drewN {w : World} {b : Nat} {v : Value} {L : List Nd} (h : StackAt w b v L) (n : Nat) : StackAt (w.drewN n) b v L := ⟨h.blk, h.own, h.apart⟩

/-- how a call on a stack ends: this result, these nodes; nothing else has changed -/
def StkPost (w : World) (b : Nat) (v : Value) (r : Value) (L' : List Nd) (e : Ending) (w' : World) : Prop :=
  ∃ v', e = .returned r ∧ StackAt w' b v' L' ∧ Keeps (OwnS b v) w w' ∧ ∀ k, v'.ownBlock = some k → v.ownBlock = some k ∨ w.heap.size ≤ k

theorem wrapNat (n : Nat) (hn : n ≤ 100) : IntKind.i64.wrap (n : Int) = n := IntWalk.i64_in _ (by omega)

section
variable (a : Option Addr) (b g n cap : Nat) (sl bk dn t : Int) (w : World) 

set_option maxHeartbeats 400000 in
theorem top_raw_empty (hv : w.cell? ⟨b, 0, none⟩ = some (.slice a 0 cap)) :
    Calls Tryd.prog 27 #[.pointer (some ⟨b, 0, none⟩)] w fun e w' => e = .returned (.pointer none) ∧ ∃ k, w' = w.drewN k := by
  go_enter Tryd.func27, Tryd.ntmps27
  go_wp2
  go_quiet (fail)
  go_wp2
  go_ret
  exact ⟨rfl, _, rfl⟩

set_option maxHeartbeats 400000 in
theorem top_raw_open (hn : n ≤ 60) (ht : t < 0)
    (hv : w.cell? ⟨b, 0, none⟩ = some (.slice (some ⟨g, 0, none⟩) (n + 1) cap)) (hc : w.cell? ⟨g, n * 4 + 3, none⟩ = some (.int .i64 t)) :
    Calls Tryd.prog 27 #[.pointer (some ⟨b, 0, none⟩)] w fun e w' => e = .returned (.pointer (some ⟨g, n * 4, none⟩)) ∧ ∃ k, w' = w.drewN k := by
  have e1 := wrapNat n (by omega)
  have e2 : (0 : Int) ≤ n := by omega
  have e3 : (n : Int) < (n : Int) + 1 := by omega
  have e4 : ((n : Int) + 1 == 0) = false := by rw [beq_eq_false_iff_ne]; omega
  have e5 : decide (0 ≤ t) = false := by simp; omega
  go_enter Tryd.func27, Tryd.ntmps27
  go_wp2
  go_quiet (fail)
  go_wp2
  go_quiet (fail)
  go_wp2
  go_ret
  exact ⟨rfl, _, World.drewN_drewN ..⟩

set_option maxHeartbeats 400000 in
theorem top_raw_tried (hn : n ≤ 60) (ht : 0 ≤ t)
    (hv : w.cell? ⟨b, 0, none⟩ = some (.slice (some ⟨g, 0, none⟩) (n + 1) cap)) (hc : w.cell? ⟨g, n * 4 + 3, none⟩ = some (.int .i64 t)) :
    Calls Tryd.prog 27 #[.pointer (some ⟨b, 0, none⟩)] w fun e w' => e = .returned (.pointer none) ∧ ∃ k, w' = w.drewN k := by
  have e1 := wrapNat n (by omega)
  have e2 : (0 : Int) ≤ n := by omega
  have e3 : (n : Int) < (n : Int) + 1 := by omega
  have e4 : ((n : Int) + 1 == 0) = false := by rw [beq_eq_false_iff_ne]; omega
  have e5 : decide (0 ≤ t) = true := by simp; omega
  go_enter Tryd.func27, Tryd.ntmps27
  go_wp2
  go_quiet (fail)
  go_wp2
  go_ret
  exact ⟨rfl, _, rfl⟩

set_option maxHeartbeats 400000 in
/-- Take where there is no open top -/
theorem take_raw_none (h : Calls Tryd.prog 27 #[.pointer (some ⟨b, 0, none⟩)] w fun e w' => e = .returned (.pointer none) ∧ ∃ k, w' = w.drewN k) :
    Calls Tryd.prog 16 #[.pointer (some ⟨b, 0, none⟩)] w fun e w' => e = .returned (.tuple #[.int .i64 0, .bool false]) ∧ ∃ k, w' = w.drewN k := by
  have H := Lib.hid h
  clear h
  go_enter Tryd.func16, Tryd.ntmps16
  go_wp2_with (go_at_call 27; refine H.out.mono ?_; rintro e w' ⟨rfl, k, rfl⟩)
  go_ret2
  exact ⟨rfl, _, rfl⟩

set_option maxHeartbeats 400000 in
theorem take_raw_open (hn : n ≤ 60) (hs : 0 ≤ sl ∧ sl < 256) (hb : 0 ≤ bk ∧ bk < 256) (hT : TabOK w) (hl : leastN (bits .andNot .u64 bk sl) ≠ -1)
    (h : Calls Tryd.prog 27 #[.pointer (some ⟨b, 0, none⟩)] w fun e w' => e = .returned (.pointer (some ⟨g, n * 4, none⟩)) ∧ ∃ k, w' = w.drewN k)
    (h0 : w.cell? ⟨g, n * 4, none⟩ = some (.int .u64 sl)) (h1 : w.cell? ⟨g, n * 4 + 1, none⟩ = some (.int .u64 bk)) (h3 : w.cell? ⟨g, n * 4 + 3, none⟩ = some (.int .i64 t))
    (hf : w.frozen? ⟨g, n * 4 + 3, none⟩ = false) :
    Calls Tryd.prog 16 #[.pointer (some ⟨b, 0, none⟩)] w fun e w' => e = .returned (.tuple #[.int .i64 (leastN (bits .andNot .u64 bk sl)), .bool true]) ∧ ∃ k, w' = (w.drewN k).setCell ⟨g, n * 4 + 3, none⟩ (.int .i64 (leastN (bits .andNot .u64 bk sl))) := by
  have H := Lib.hid h
  have HT := Lib.hid hT
  have hbd := andNot_bd bk sl (by omega) (by omega)
  have hlen : (lenN (bits .andNot .u64 bk sl % 256) == 0) = false := (len_least _ hbd.1).2 hl
  clear h hl hT
  go_enter Tryd.func16, Tryd.ntmps16
  go_wp2_with (first | (go_at_call 27; refine H.out.mono ?_; rintro e w' ⟨rfl, k, rfl⟩) | (go_at_call 26; refine (len_any _ _ (by omega)).mono ?_; rintro e w' ⟨rfl, rfl⟩))
  go_quiet (fail)
  go_wp2_with (first | (go_at_call 26; refine (len_any _ _ (by omega)).mono ?_; rintro e w' ⟨rfl, rfl⟩) | (go_at_call 29; refine (least_any _ _ (by omega) (by exact HT.out)).mono ?_; rintro e w' ⟨rfl, rfl⟩))
  go_ret2
  exact ⟨rfl, _, rfl⟩

set_option maxHeartbeats 400000 in
theorem take_raw_out (hn : n ≤ 60) (hs : 0 ≤ sl ∧ sl < 256) (hb : 0 ≤ bk ∧ bk < 256) (hl : leastN (bits .andNot .u64 bk sl) = -1)
    (h : Calls Tryd.prog 27 #[.pointer (some ⟨b, 0, none⟩)] w fun e w' => e = .returned (.pointer (some ⟨g, n * 4, none⟩)) ∧ ∃ k, w' = w.drewN k)
    (h0 : w.cell? ⟨g, n * 4, none⟩ = some (.int .u64 sl)) (h1 : w.cell? ⟨g, n * 4 + 1, none⟩ = some (.int .u64 bk)) :
    Calls Tryd.prog 16 #[.pointer (some ⟨b, 0, none⟩)] w fun e w' => e = .returned (.tuple #[.int .i64 0, .bool false]) ∧ ∃ k, w' = w.drewN k := by
  have H := Lib.hid h
  have hbd := andNot_bd bk sl (by omega) (by omega)
  have hlen : (lenN (bits .andNot .u64 bk sl % 256) == 0) = true := (len_least _ hbd.1).1 hl
  clear h hl
  go_enter Tryd.func16, Tryd.ntmps16
  go_wp2_with (go_at_call 27; refine H.out.mono ?_; rintro e w' ⟨rfl, k, rfl⟩)
  go_quiet (fail)
  go_wp2_with (go_at_call 26; refine (len_any _ _ (by omega)).mono ?_; rintro e w' ⟨rfl, rfl⟩)
  go_ret2
  exact ⟨rfl, _, rfl⟩
end

/-- is there a top of which no thread is tried? -/
def topOpen (L : List Nd) : Bool := match L.getLast? with | some x => decide (x.thread < 0) | none => false

/-- what Take does -/
def takeN (L : List Nd) : Int × Bool × List Nd :=
  match L.getLast? with
  | none => (0, false, L)
  | some x => if 0 ≤ x.thread then (0, false, L) else if leastN (bits .andNot .u64 x.back x.sleep) = -1 then (0, false, L) else
    (leastN (bits .andNot .u64 x.back x.sleep), true, L.dropLast ++ [{ x with thread := leastN (bits .andNot .u64 x.back x.sleep) }])

theorem last_split {L : List Nd} {x : Nd} (h : L.getLast? = some x) : ∃ L0, L = L0 ++ [x] := by
  rcases List.eq_nil_or_concat L with rfl | ⟨L0, y, rfl⟩
  · simp at h
  · rw [List.concat_eq_append, List.getLast?_concat] at h; cases h; exact ⟨L0, List.concat_eq_append ..⟩

theorem take_any (w : World) (b : Nat) (v : Value) (L : List Nd) (h : StackAt w b v L) (hok : StkOk L) (hT : TabOK w) :
    Calls Tryd.prog 16 #[.pointer (some ⟨b, 0, none⟩)] w (StkPost w b v (.tuple #[.int .i64 (takeN L).1, .bool (takeN L).2.1]) (takeN L).2.2) := by
  have none_case : takeN L = (0, false, L) → (Calls Tryd.prog 16 #[.pointer (some ⟨b, 0, none⟩)] w fun e w' => e = .returned (.tuple #[.int .i64 0, .bool false]) ∧ ∃ k, w' = w.drewN k) →
      Calls Tryd.prog 16 #[.pointer (some ⟨b, 0, none⟩)] w (StkPost w b v (.tuple #[.int .i64 (takeN L).1, .bool (takeN L).2.1]) (takeN L).2.2) := by
    intro e hc
    rw [e]
    refine hc.mono ?_
    rintro e' w' ⟨rfl, k, rfl⟩
    exact ⟨v, rfl, h.drewN k, (Keeps.refl _ _).drewN k, fun k hk => .inl hk⟩
  cases hx : L.getLast? with
  | none =>
    have e : L = [] := List.getLast?_eq_none_iff.1 hx
    subst e
    refine none_case rfl (take_raw_none _ _ ?_)
    rcases h.shape with ⟨rfl, _⟩ | ⟨g, cap, rfl, _⟩
    · exact top_raw_empty none b 0 w h.cell0
    · exact top_raw_empty _ b cap w h.cell0
  | some x =>
    obtain ⟨L0, rfl⟩ := last_split hx
    have hlen : (L0 ++ [x]).length = L0.length + 1 := by simp
    have hl60 : L0.length ≤ 60 := by have := hok.1; omega
    have hxo : x.Ok := hok.2 x (by simp)
    rcases h.shape with ⟨_, e⟩ | ⟨g, cap, rfl, hg, hn, hm⟩
    · simp at e
    have hget := h.get (i := L0.length) (x := x) (by simp)
    by_cases ht : 0 ≤ x.thread
    · refine none_case (by simp [takeN, ht]) (take_raw_none _ _ ?_)
      exact top_raw_tried b g L0.length cap _ w hl60 ht (by rw [← hlen]; exact h.cell0) hget.2.2.2
    · have htop := top_raw_open b g L0.length cap _ w hl60 (by omega : x.thread < 0) (by rw [← hlen]; exact h.cell0) hget.2.2.2
      by_cases hl : leastN (bits .andNot .u64 x.back x.sleep) = -1
      · exact none_case (by simp [takeN, ht, hl]) (take_raw_out b g L0.length _ _ w hl60 hxo.1 hxo.2.1 hl htop hget.1 hget.2.1)
      · have e : takeN (L0 ++ [x]) = (leastN (bits .andNot .u64 x.back x.sleep), true, L0 ++ [{ x with thread := leastN (bits .andNot .u64 x.back x.sleep) }]) := by simp [takeN, ht, hl]
        rw [e]
        refine (take_raw_open b g L0.length _ _ _ w hl60 hxo.1 hxo.2.1 hT hl htop hget.1 hget.2.1 hget.2.2.2 (h.free _)).mono ?_
        rintro e' w' ⟨rfl, k, rfl⟩
        have hs := (h.drewN k).set (i := L0.length) (j := 3) (by decide) (x := x) (y := { x with thread := leastN (bits .andNot .u64 x.back x.sleep) }) (by simp) (u := .int .i64 (leastN (bits .andNot .u64 x.back x.sleep))) rfl
        have e2 : (L0 ++ [x]).set L0.length { x with thread := leastN (bits .andNot .u64 x.back x.sleep) } = L0 ++ [{ x with thread := leastN (bits .andNot .u64 x.back x.sleep) }] := by simp
        rw [e2] at hs
        exact ⟨_, rfl, hs, ((Keeps.refl _ _).drewN k).setCell (fun _ => .inr rfl) _, fun k hk => .inl hk⟩
end Go.Proofs.YtjfbiganijldfaaDoor
