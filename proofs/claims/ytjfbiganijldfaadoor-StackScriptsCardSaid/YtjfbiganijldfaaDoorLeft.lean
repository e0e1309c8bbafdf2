/- Contracts of the methods of package stack: Left. -/
import Derived.Test.YtjfbiganijldfaaDoorDo
namespace Go.Proofs.YtjfbiganijldfaaDoor
open Go.RowKit
set_option linter.unusedVariables false
set_option linter.unusedSimpArgs false
set_option linter.unnecessarySimpa false

/-- how much is left at a node -/
def leftNd (x : Nd) : Int := 2 * (8 - lenN (x.done % 256)) + if x.thread < 0 then 1 else 0
/-- how much is left: node by node -/
def leftN (L : List Nd) : List Int := L.map leftNd ++ List.replicate (61 - L.length) 18

theorem lenN_fin : ∀ k : Fin 256, 0 ≤ lenN k.val ∧ lenN k.val ≤ 8 := by decide +kernel
theorem lenN_bd (s : Int) : 0 ≤ lenN (s % 256) ∧ lenN (s % 256) ≤ 8 := by
  have h := lenN_fin ⟨(s % 256).toNat, by omega⟩
  have e : (((s % 256).toNat : Nat) : Int) = s % 256 := by omega
  simp only [e] at h
  exact h

/-- the row while it is filled -/
def leftRow (ls : List Int) (k : Nat) : List Int := ls.take k ++ List.replicate (61 - k) 18
theorem leftRow_len (ls : List Int) (k : Nat) (h : k ≤ ls.length) (h61 : k ≤ 61) : (leftRow ls k).length = 61 := by simp [leftRow]; omega
theorem leftRow_set (ls : List Int) (k : Nat) (h : k < ls.length) (h61 : k < 61) (u : Int) (hu : u = ls.getD k 0) : ((leftRow ls k).map (Value.int .i64)).set k (.int .i64 u) = (leftRow ls (k + 1)).map (Value.int .i64) := by
  unfold leftRow
  rw [← List.map_set, List.set_append_right _ _ (by rw [List.length_take]; omega), List.length_take, Nat.min_eq_left (by omega), Nat.sub_self]
  congr 1
  rw [List.take_succ_eq_append_getElem h, List.append_assoc]
  congr 1
  rw [show 61 - k = (61 - (k + 1)) + 1 by omega, List.replicate_succ, List.set_cons_zero, hu]
  simp [List.getD, h]

theorem add_none0 (g n : Nat) : (⟨g, 0, none⟩ : Addr).add n = ⟨g, 0 + n, none⟩ := by
  unfold Addr.add
  split
  · simp_all
  · rfl

theorem IntsAt.ofBlock {w : World} {g cap : Nat} {xs : List Int} {e : TypeId} {fr : Nat × Nat} (h : w.heap[g]? = some (.cells (xs.map (Value.int .i64)).toArray e fr)) : IntsAt w (.slice (some ⟨g, 0, none⟩) xs.length cap) xs := by
  refine ⟨_, _, rfl, (fun e => by cases e), fun g' o s e => ?_⟩
  cases e
  refine ⟨rfl, fun i hi => ?_⟩
  have := World.news_of_block h i (.int .i64 (xs.getD i 0)) (getD_ints xs i hi)
  rwa [add_none0] at this

set_option maxHeartbeats 1000000 in
theorem left_raw (b n cap : Nat) (ad : Option Addr) (ds ts ls : List Int) (w : World) (hd : ds.length = n) (ht : ts.length = n) (hls : ls.length = n) (hv : w.cell? ⟨b, 0, none⟩ = some (.slice ad n cap)) (hn : n ≤ 61)
    (hc : ∀ k, k < n → ∃ g s bk, ad = some ⟨g, 0, none⟩ ∧ w.cell? ⟨g, k * 4, none⟩ = some (.int .u64 s) ∧ w.cell? ⟨g, k * 4 + 1, none⟩ = some (.int .u64 bk) ∧ w.cell? ⟨g, k * 4 + 2, none⟩ = some (.int .u64 (ds.getD k 0)) ∧ w.cell? ⟨g, k * 4 + 3, none⟩ = some (.int .i64 (ts.getD k 0)))
    (hl : ∀ k, k < n → (0 ≤ ds.getD k 0 ∧ ds.getD k 0 < 256) ∧ ls.getD k 0 = 2 * (8 - lenN (ds.getD k 0 % 256)) + if ts.getD k 0 < 0 then 1 else 0) :
    Calls Tryd.prog 12 #[.pointer (some ⟨b, 0, none⟩)] w (IntsPost w (leftRow ls n)) := by
  have q1 : b < w.heap.size := World.block_lt_of_cell? w _ hv
  have hk0 : ∀ o, Keeps NoBlk w (w.alloc o) := fun o => (Keeps.refl _ _).alloc o
  have HREP := Lib.hid (repeat_any w.heap.size 61 18 (by decide) (w.alloc (.cells #[.int .i64 18] 3)) (cell_of_one (heap_alloc_new w _)))
  go_enter Tryd.func12, Tryd.ntmps12
  go_upto_region 2 with (go_at_call 25; refine HREP.out.mono ?_; rintro e w1 ⟨rfl, r1, r2⟩)
  have hr1 : Hid (w1.heap[w.heap.size + 1]? = some (.cells ((leftRow ls 0).map (Value.int .i64)).toArray 3 (0, 0))) := by
    have e : (w.alloc (.cells #[.int .i64 18] 3)).heap.size = w.heap.size + 1 := by simp
    rw [e] at r1
    show _ = _
    rw [r1]
    simp [leftRow]
  have hb1 : Hid (Below w.heap.size w w1) := by
    have e : (w.alloc (.cells #[.int .i64 18] 3)).heap.size = w.heap.size + 1 := by simp
    exact ((Below.refl _ _).alloc (Nat.le_refl _) _).trans (r2.mono (by omega))
  have hv1 : w1.cell? ⟨b, 0, none⟩ = some (.slice ad n cap) := (hb1.out.cell (p := ⟨b, 0, none⟩) q1).trans hv
  clear r1 r2 hv HREP hk0
  go_wp2
  go_loopw [13] (fun i wr => ∃ k : Nat, k ≤ n ∧ i = .int .i64 k ∧ Hid (wr.heap[w.heap.size + 1]? = some (.cells ((leftRow ls k).map (Value.int .i64)).toArray 3 (0, 0))) ∧ Hid (Below w.heap.size w wr)) (fun i _ => n - (intOf i).toNat)
  case atStart => exact ⟨0, Nat.zero_le _, rfl, hr1, hb1⟩
  case round =>
    obtain ⟨k, hk, rfl, hr, hb⟩ := hrel
    clear hr1 hb1
    by_cases hlt : k < n
    · obtain ⟨g, s, bk, e, h0, h1, h2, h3⟩ := hc k hlt
      subst e
      obtain ⟨⟨hd0, hd1⟩, hval⟩ := hl k hlt
      have hlen := leftRow_len ls k (by omega) (by omega)
      have hset := leftRow_set ls k (by omega) (by omega)
      obtain ⟨d, ed⟩ : ∃ d, d = ds.getD k 0 := ⟨_, rfl⟩
      obtain ⟨t, et⟩ : ∃ t, t = ts.getD k 0 := ⟨_, rfl⟩
      rw [← ed] at h2 hd0 hd1 hval
      rw [← et] at h3 hval
      have i1 : (0 : Int) ≤ k := by omega
      have i2 : (k : Int) < (n : Int) := by omega
      have i3 : (k : Int) < 61 := by omega
      have q2 : g < w.heap.size := World.block_lt_of_cell? w _ h0
      have q3 : w.heap.size ≤ wr.heap.size := hb.out.size
      have q4 : w.heap.size + 1 < wr.heap.size := lt_of_block hr.out
      have c0 := (hb.out.cell (p := ⟨g, k * 4, none⟩) q2).trans h0
      have c1 := (hb.out.cell (p := ⟨g, k * 4 + 1, none⟩) q2).trans h1
      have c2 := (hb.out.cell (p := ⟨g, k * 4 + 2, none⟩) q2).trans h2
      have c3 := (hb.out.cell (p := ⟨g, k * 4 + 3, none⟩) q2).trans h3
      have q5 : g < wr.heap.size := by omega
      have q6 : w.heap.size + 1 ≠ wr.heap.size := by omega
      have hcell : ∃ v, wr.cell? ⟨w.heap.size + 1, k, none⟩ = some v := by
        have := cell_of_row wr (w.heap.size + 1) k _ _ (0, 0) hr.out
        rw [this]
        exact ⟨_, Array.getElem?_eq_getElem (by simp [hlen]; omega)⟩
      obtain ⟨v, hcell⟩ := hcell
      have hfree : wr.frozen? ⟨w.heap.size + 1, k, none⟩ = false := frozen_of_row wr (w.heap.size + 1) k _ _ hr.out
      have lb := lenN_bd d
      have hfin : Hid (∀ u, u = ls.getD k 0 → (wr.setCell ⟨w.heap.size + 1, k, none⟩ (.int .i64 u)).heap[w.heap.size + 1]? = some (.cells ((leftRow ls (k + 1)).map (Value.int .i64)).toArray 3 (0, 0))) := by
        intro u hu
        rw [heap_setCell_same wr (w.heap.size + 1) k _ _ _ hr.out, ← hset u hu]
        simp
      have hfin2 : Hid (∀ u1 u, u = ls.getD k 0 → ((wr.setCell ⟨w.heap.size + 1, k, none⟩ (.int .i64 u1)).setCell ⟨w.heap.size + 1, k, none⟩ (.int .i64 u)).heap[w.heap.size + 1]? = some (.cells ((leftRow ls (k + 1)).map (Value.int .i64)).toArray 3 (0, 0))) := by
        intro u1 u hu
        rw [heap_setCell_same _ (w.heap.size + 1) k _ _ _ (heap_setCell_same wr (w.heap.size + 1) k _ _ _ hr.out), ← hset u hu]
        simp
      have HV := Lib.hid hval
      clear hc hv1 h0 h1 h2 h3 ed et hl hset hlen hval
      by_cases htn : t < 0
      · have e1 : decide (t < 0) = true := by simpa using htn
        go_wp2_with (go_at_call 26; refine (len_any _ _ (by omega)).mono ?_; rintro e w' ⟨rfl, rfl⟩)
        have hv2 : 2 * (8 - lenN (d % 256)) + 1 = ls.getD k 0 := by rw [HV.out, if_pos htn]
        exact ⟨⟨k + 1, by omega, by go_num, (Below.heap_alloc _ _ _ (by simp [World.setCell]; omega)).trans (hfin2.out _ _ hv2), ((hb.out.setCell (by simp) _).setCell (by simp) _).alloc (by simp [World.setCell]; omega) _⟩, by simp [intOf]; omega⟩
      · have e1 : decide (t < 0) = false := by simpa using htn
        go_wp2_with (go_at_call 26; refine (len_any _ _ (by omega)).mono ?_; rintro e w' ⟨rfl, rfl⟩)
        have hv2 : 2 * (8 - lenN (d % 256)) = ls.getD k 0 := by rw [HV.out, if_neg (by omega)]; omega
        exact ⟨⟨k + 1, by omega, by go_num, (Below.heap_alloc _ _ _ (by simp [World.setCell]; omega)).trans (hfin.out _ hv2), (hb.out.setCell (by simp) _).alloc (by simp [World.setCell]; omega) _⟩, by simp [intOf]; omega⟩
    · have hkn : k = n := by omega
      subst hkn
      have hx : Hid (IntsAt wr (.slice (some ⟨w.heap.size + 1, 0, none⟩) 61 61) (leftRow ls k)) := by
        have := IntsAt.ofBlock (cap := 61) hr.out
        rw [leftRow_len ls k (by omega) (by omega)] at this
        exact this
      clear hc hl hlt hv1
      go_wp2
      go_ret
      refine ⟨_, rfl, hx.out, hb.out, fun k' e => ?_⟩
      simp [Value.ownBlock] at e
      have := lt_of_block hr.out
      omega

theorem left_any (w : World) (b : Nat) (v : Value) (L : List Nd) (h : StackAt w b v L) (hok : StkOk L) :
    Calls Tryd.prog 12 #[.pointer (some ⟨b, 0, none⟩)] w (IntsPost w (leftN L)) := by
  obtain ⟨ad, cap, rfl⟩ : ∃ ad cap, v = .slice ad L.length cap := by
    rcases h.shape with ⟨rfl, rfl⟩ | ⟨g, cap, rfl, _⟩
    · exact ⟨_, _, rfl⟩
    · exact ⟨_, _, rfl⟩
  have e : leftN L = leftRow (L.map leftNd) L.length := by
    unfold leftN leftRow
    rw [List.take_of_length_le (by simp)]
  rw [e]
  refine left_raw b L.length cap ad (L.map Nd.done) (L.map Nd.thread) (L.map leftNd) w (by simp) (by simp) (by simp) h.cell0 hok.1 ?_ ?_
  · intro k hk
    rcases h.shape with ⟨_, e⟩ | ⟨g, cap', e, _⟩
    · subst e; simp at hk
    · simp at e
      obtain ⟨rfl, rfl⟩ := e
      have hx : L[k]? = some L[k] := List.getElem?_eq_getElem hk
      have hg := h.get hx
      refine ⟨g, _, _, rfl, hg.1, hg.2.1, ?_, ?_⟩
      · rw [hg.2.2.1]; simp [List.getD, hk]
      · rw [hg.2.2.2]; simp [List.getD, hk]
  · intro k hk
    have hx := hok.2 L[k] (List.getElem_mem hk)
    have e1 : (L.map Nd.done).getD k 0 = L[k].done := by simp [List.getD, hk]
    have e2 : (L.map Nd.thread).getD k 0 = L[k].thread := by simp [List.getD, hk]
    have e3 : (L.map leftNd).getD k 0 = leftNd L[k] := by simp [List.getD, hk]
    rw [e1, e2, e3]
    exact ⟨hx.2.2.1, rfl⟩
end Go.Proofs.YtjfbiganijldfaaDoor
