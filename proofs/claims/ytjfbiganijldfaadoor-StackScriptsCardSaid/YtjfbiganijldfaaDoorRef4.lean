/- The reference's calls on rows of nodes: Close, at any row. -/
import Derived.Test.YtjfbiganijldfaaDoorRef3
import Derived.Test.YtjfbiganijldfaaDoorStkLaw
namespace Go.Proofs.YtjfbiganijldfaaDoor
open Go.RowKit
set_option linter.unusedVariables false
set_option linter.unusedSimpArgs false
set_option linter.unnecessarySimpa false

theorem RefAt.shrink {w : World} {g cap : Nat} {L : List Nd} (h : RefAt w (.slice (some ⟨g, 0, none⟩) L.length cap) L) (n : Nat) (hn : n ≤ L.length) :
    RefAt w (.slice (some ⟨g, 0, none⟩) (L.take n).length cap) (L.take n) := by
  have hl : (L.take n).length = n := by rw [List.length_take]; omega
  unfold RefAt
  rw [hl]
  refine ⟨by rw [rdCells_len, hl], .inr ?_⟩
  rcases h.2 with ⟨h', _⟩ | ⟨g', cap', cur, h', hb, hgg, hnc, hcm, hcs, htake⟩
  · simp at h'
  · simp only [Value.slice.injEq, Option.some.injEq, Addr.mk.injEq, and_true] at h'
    obtain ⟨rfl, _, rfl⟩ := h'
    refine ⟨g, cap, cur, rfl, hb, hgg, by omega, hcm, hcs, ?_⟩
    have : cur.toList.take (n * 25) = (cur.toList.take (L.length * 25)).take (n * 25) := by
      rw [List.take_take]; congr 1; omega
    rw [this, htake]
    show (L.flatMap Nd.rcells).take (n * 25) = (L.take n).flatMap Nd.rcells
    exact take_cells _ 25 rd_len L n

theorem rclose_any (w : World) (v : Value) (L : List Nd) (h : RefAt w v L) (hok : StkOk L) (hrow : StkRow L) :
    Calls Tryd.prog 19 #[v] w fun e w' => ∃ v', RefPost w v v' (.tuple #[v', .bool (closeN L).1]) (closeN L).2 e w' := by
  have same : closeN L = (false, L) → (Calls Tryd.prog 19 #[v] w fun e w' => e = .returned (.tuple #[v, .bool false]) ∧ w' = w) →
      Calls Tryd.prog 19 #[v] w fun e w' => ∃ v', RefPost w v v' (.tuple #[v', .bool (closeN L).1]) (closeN L).2 e w' := by
    intro e hc
    rw [e]
    refine hc.mono ?_
    rintro e' w' ⟨rfl, rfl⟩
    exact ⟨v, rfl, h, Keeps.refl _ _, fun k hk => .inl hk⟩
  rcases List.eq_nil_or_concat L with rfl | ⟨L1, y, rfl⟩
  · refine same rfl ?_
    rcases h.shape with ⟨rfl, _⟩ | ⟨g, cap, rfl, _⟩
    · exact rclose_empty _ _ _
    · exact rclose_empty _ _ _
  · rw [List.concat_eq_append] at *
    have hy : (L1 ++ [y])[L1.length]? = some y := by simp
    have hl : (L1 ++ [y]).length = L1.length + 1 := by simp
    have hyo : y.Ok := hok.2 y (by simp)
    have hn : L1.length ≤ 60 := by have := hok.1; omega
    rcases h.shape with ⟨_, e⟩ | ⟨g, cap, rfl, hcap, _⟩
    · simp at e
    · by_cases h0 : 0 ≤ y.thread
      · refine same (by simp [closeN, topOpen_last]; omega) ?_
        have := rclose_tried g L1.length cap y.thread w hn h0 (h.thread hy)
        rw [hl]
        exact this
      · have ey : y.thread = -1 := by have := hyo.2.2.2.1; omega
        have hth := h.thread hy
        rw [ey] at hth
        have htop : topOpen (L1 ++ [y]) = true := by rw [topOpen_last]; simp; omega
        rcases List.eq_nil_or_concat L1 with rfl | ⟨L0, x, rfl⟩
        · have ec : closeN ([] ++ [y]) = (true, []) := by simp [closeN, htop]; exact htop
          rw [ec]
          have hsh := h.shrink 0 (Nat.zero_le _)
          simp only [List.length_nil, Nat.zero_mul, Nat.zero_add] at hth hl
          rw [hl] at hcap ⊢
          refine (rclose_last g cap w hcap hth).mono ?_
          rintro e w' ⟨rfl, rfl⟩
          exact ⟨.slice (some ⟨g, 0, none⟩) 0 cap, rfl, hsh, Keeps.refl _ _, fun k hk => .inl hk⟩
        · rw [List.concat_eq_append] at *
          have hx : (L0 ++ [x] ++ [y])[L0.length]? = some x := by simp
          have hxo : x.Ok := hok.2 x (by simp)
          have hx0 : 0 ≤ x.thread := hrow x (by simp)
          have ec : closeN (L0 ++ [x] ++ [y]) = (true, L0 ++ [x.tried]) := by simp only [closeN, htop, if_true, List.dropLast_concat, List.getLast?_concat]
          rw [ec]
          have hl1 : (L0 ++ [x]).length = L0.length + 1 := by simp
          have hl2 : (L0 ++ [x] ++ [y]).length = L0.length + 2 := by simp
          rw [hl1] at hth hn
          obtain ⟨k, ek⟩ : ∃ k : Nat, x.thread = k := ⟨x.thread.toNat, by omega⟩
          have hk : k < 8 := by have := hxo.2.2.2.2; omega
          have hth2 := h.thread hx
          rw [ek] at hth2
          have s1 := h.set (i := L0.length) (j := 16 + k) (by omega) hx (u := .bool true) (rcells_set_done x k (putN x.done k) true hk (bitsN_put _ k hk hxo.2.2.1))
          have es : ∀ z z' : Nd, (L0 ++ [z] ++ [y]).set L0.length z' = L0 ++ [z'] ++ [y] := fun z z' => by simp
          rw [es] at s1
          have s2 := s1.set (i := L0.length) (j := k) (by omega) (x := { x with done := putN x.done k }) (by simp) (u := .bool true) (rcells_set_sleep { x with done := putN x.done k } k (putN x.sleep k) true hk (bitsN_put _ k hk hxo.1))
          rw [es] at s2
          have s3 := s2.set (i := L0.length) (j := 24) (by omega) (x := { x with done := putN x.done k, sleep := putN x.sleep k }) (by simp) (u := .int .i64 (-1)) (rcells_set_thread _ _)
          rw [es] at s3
          have s4 := s3.shrink (L0.length + 1) (by simp)
          have et : (L0 ++ [{ x with done := putN x.done k, sleep := putN x.sleep k, thread := -1 }] ++ [y]).take (L0.length + 1) = L0 ++ [x.tried] := by
            rw [List.take_append_of_le_length (by simp), List.take_of_length_le (by simp)]
            unfold Nd.tried
            rw [ek]
          have et' : (L0 ++ [x.tried]).length = L0.length + 1 := by simp
          have s5 := s4
          dsimp only at s5
          rw [et, et'] at s5
          rw [hl2] at hcap
          have hc := rclose_more g L0.length cap k w (by omega) hcap hk hth hth2 _ _ (h.done hx k hk) (h.sleep hx k hk) (h.free)
          rw [hl2]
          refine hc.mono ?_
          rintro e w' ⟨rfl, rfl⟩
          refine ⟨.slice (some ⟨g, 0, none⟩) (L0.length + 1) cap, rfl, ?_, ?_, fun k hk => .inl hk⟩
          · rw [Nat.add_assoc]; exact s5
          · exact (((Keeps.refl (OwnV (.slice (some ⟨g, 0, none⟩) (L0.length + 2) cap)) w).setCell (p := ⟨g, L0.length * 25 + 16 + k, none⟩) (fun _ => rfl) _).setCell (p := ⟨g, L0.length * 25 + k, none⟩) (fun _ => rfl) _).setCell (p := ⟨g, L0.length * 25 + 24, none⟩) (fun _ => rfl) _
end Go.Proofs.YtjfbiganijldfaaDoor
