/- The reference's calls on rows of nodes: Take, Close. -/
import Derived.Test.YtjfbiganijldfaaDoorRef
namespace Go.Proofs.YtjfbiganijldfaaDoor
open Go.RowKit
set_option linter.unusedVariables false
set_option linter.unusedSimpArgs false
set_option linter.unnecessarySimpa false

theorem set_tail {α : Type} (a b : List α) (k n : Nat) (u : α) (h : a.length = n) : (a ++ b).set (n + k) u = a ++ b.set k u := by
  rw [List.set_append_right _ _ (by omega), h, Nat.add_sub_cancel_left]
theorem rcells_set_thread (x : Nd) (t : Int) : ({ x with thread := t } : Nd).rcells = x.rcells.set 24 (.int .i64 t) := by
  unfold Nd.rcells
  rw [set_tail _ _ 16 8 _ (by simp [bitsN_len]), set_tail _ _ 8 8 _ (by simp [bitsN_len]), set_tail _ _ 0 8 _ (by simp [bitsN_len])]
  rfl
theorem rcells_set_back (x : Nd) (k : Nat) (s : Int) (b : Bool) (hk : k < 8) (h : bitsN s = (bitsN x.back).set k b) : ({ x with back := s } : Nd).rcells = x.rcells.set (8 + k) (.bool b) := by
  unfold Nd.rcells
  rw [set_tail _ _ k 8 _ (by simp [bitsN_len]), List.set_append_left _ _ (by simp [bitsN_len]; exact hk), ← List.map_set, ← h]
theorem rcells_set_sleep (x : Nd) (k : Nat) (s : Int) (b : Bool) (hk : k < 8) (h : bitsN s = (bitsN x.sleep).set k b) : ({ x with sleep := s } : Nd).rcells = x.rcells.set k (.bool b) := by
  unfold Nd.rcells
  rw [List.set_append_left _ _ (by simp [bitsN_len]; exact hk), ← List.map_set, ← h]
theorem rcells_set_done (x : Nd) (k : Nat) (s : Int) (b : Bool) (hk : k < 8) (h : bitsN s = (bitsN x.done).set k b) : ({ x with done := s } : Nd).rcells = x.rcells.set (16 + k) (.bool b) := by
  unfold Nd.rcells
  rw [show 16 + k = 8 + (8 + k) by omega, set_tail _ _ (8 + k) 8 _ (by simp [bitsN_len]), set_tail _ _ k 8 _ (by simp [bitsN_len]), List.set_append_left _ _ (by simp [bitsN_len]; exact hk), ← List.map_set, ← h]
/-- a thread put into a set, bit by bit -/
theorem bitsN_put (s : Int) (k : Nat) (hk : k < 8) (hs : 0 ≤ s ∧ s < 256) : bitsN (putN s k) = (bitsN s).set k true := by
  have h : ∀ a : Fin 256, ∀ j : Fin 8, bitsN (putN a.val j.val) = (bitsN a.val).set j.val true := by decide +kernel
  have := h ⟨s.toNat, by omega⟩ ⟨k, hk⟩
  have e : ((s.toNat : Nat) : Int) = s := by omega
  simp only [e] at this
  exact this

/-- the blocks of a row -/
def OwnV (v : Value) (k : Nat) : Prop := v.ownBlock = some k
/-- how a call on the reference's row ends -/
def RefPost (w : World) (v v' : Value) (r : Value) (L' : List Nd) (e : Ending) (w' : World) : Prop :=
  e = .returned r ∧ RefAt w' v' L' ∧ Keeps (OwnV v) w w' ∧ ∀ k, v'.ownBlock = some k → v.ownBlock = some k ∨ w.heap.size ≤ k

section
variable (g n cap : Nat) (ad : Option Addr) (t : Int) (w : World)
set_option maxHeartbeats 400000 in
theorem rtake_empty :
    Calls Tryd.prog 17 #[.slice ad 0 cap] w fun e w' => e = .returned (.tuple #[.int .i64 0, .bool false]) ∧ w' = w := by
  go_enter Tryd.func17, Tryd.ntmps17
  go_wp2
  go_ret2
  exact ⟨rfl, rfl⟩
set_option maxHeartbeats 400000 in
theorem rtake_tried (hn : n ≤ 60) (h0 : 0 ≤ t) (ht : w.cell? ⟨g, n * 25 + 24, none⟩ = some (.int .i64 t)) :
    Calls Tryd.prog 17 #[.slice (some ⟨g, 0, none⟩) (n + 1) cap] w fun e w' => e = .returned (.tuple #[.int .i64 0, .bool false]) ∧ w' = w := by
  have e1 := wrapNat n (by omega)
  have e2 : (0 : Int) ≤ n := by omega
  have e3 : (n : Int) < (n : Int) + 1 := by omega
  have e4 : ((n : Int) + 1 == 0) = false := by rw [beq_eq_false_iff_ne]; omega
  have e5 : (t == -1) = false := by rw [beq_eq_false_iff_ne]; omega
  have e6 : (t != -1) = true := by rw [bne_iff_ne]; omega
  go_enter Tryd.func17, Tryd.ntmps17
  go_wp2
  go_ret2
  exact ⟨rfl, rfl⟩
end

theorem rtake_any (w : World) (v : Value) (L : List Nd) (h : RefAt w v L) (hok : StkOk L) :
    Calls Tryd.prog 17 #[v] w (RefPost w v v (.tuple #[.int .i64 (takeN L).1, .bool (takeN L).2.1]) (takeN L).2.2) := by
  have same : takeN L = (0, false, L) → (Calls Tryd.prog 17 #[v] w fun e w' => e = .returned (.tuple #[.int .i64 0, .bool false]) ∧ w' = w) →
      Calls Tryd.prog 17 #[v] w (RefPost w v v (.tuple #[.int .i64 (takeN L).1, .bool (takeN L).2.1]) (takeN L).2.2) := by
    intro e hc
    rw [e]
    refine hc.mono ?_
    rintro e' w' ⟨rfl, rfl⟩
    exact ⟨rfl, h, Keeps.refl _ _, fun k hk => .inl hk⟩
  rcases List.eq_nil_or_concat L with rfl | ⟨L0, x, rfl⟩
  · refine same rfl ?_
    rcases h.shape with ⟨rfl, _⟩ | ⟨g, cap, rfl, _⟩
    · exact rtake_empty _ _ _
    · exact rtake_empty _ _ _
  · rw [List.concat_eq_append] at *
    have hx : (L0 ++ [x])[L0.length]? = some x := by simp
    have hl : (L0 ++ [x]).length = L0.length + 1 := by simp
    have hxo : x.Ok := hok.2 x (by simp)
    have hn : L0.length ≤ 60 := by have := hok.1; omega
    rcases h.shape with ⟨_, e⟩ | ⟨g, cap, rfl, _⟩
    · simp at e
    · by_cases h0 : 0 ≤ x.thread
      · refine same (by simp [takeN, h0]) ?_
        have := rtake_tried g L0.length cap x.thread w hn h0 (h.thread hx)
        rw [hl]
        exact this
      · have e1 : x.thread = -1 := by have := hxo.2.2.2.1; omega
        have hth := h.thread hx
        rw [e1] at hth
        have hc := rtake_raw g L0.length cap x.sleep x.back w hn hxo.1 hxo.2.1 hth (h.free _) (fun k hk => h.sleep hx k hk) (fun k hk => h.back hx k hk)
        by_cases hm : leastN (bits .andNot .u64 x.back x.sleep) = -1
        · refine same (by simp [takeN, h0, hm]) ?_
          rw [hl]
          refine hc.mono ?_
          rintro e w' (⟨_, rfl, rfl⟩ | ⟨hm', _⟩)
          · exact ⟨rfl, rfl⟩
          · exact absurd hm hm'
        · have et : takeN (L0 ++ [x]) = (leastN (bits .andNot .u64 x.back x.sleep), true, L0 ++ [{ x with thread := leastN (bits .andNot .u64 x.back x.sleep) }]) := by simp [takeN, h0, hm]
          rw [et]
          have hs := h.set (j := 24) (by decide) hx (u := .int .i64 (leastN (bits .andNot .u64 x.back x.sleep))) (rcells_set_thread x _)
          have es : (L0 ++ [x]).set L0.length { x with thread := leastN (bits .andNot .u64 x.back x.sleep) } = L0 ++ [{ x with thread := leastN (bits .andNot .u64 x.back x.sleep) }] := by simp
          rw [es] at hs
          have el : (L0 ++ [{ x with thread := leastN (bits .andNot .u64 x.back x.sleep) }]).length = (L0 ++ [x]).length := by simp
          rw [el] at hs
          rw [hl] at hs ⊢
          refine hc.mono ?_
          rintro e w' (⟨hm', _⟩ | ⟨_, rfl, rfl⟩)
          · exact absurd hm' hm
          · exact ⟨rfl, hs, (Keeps.refl (OwnV (.slice (some ⟨g, 0, none⟩) (L0.length + 1) cap)) w).setCell (p := ⟨g, L0.length * 25 + 24, none⟩) (fun _ => rfl) _, fun k hk => .inl hk⟩
end Go.Proofs.YtjfbiganijldfaaDoor
