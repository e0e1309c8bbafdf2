/- The reference's calls on rows of nodes: Path. -/
import Derived.Test.YtjfbiganijldfaaDoorRef9
namespace Go.Proofs.YtjfbiganijldfaaDoor
open Go.RowKit
set_option linter.unusedVariables false
set_option linter.unusedSimpArgs false
set_option linter.unnecessarySimpa false

theorem pathN_take (ts : List Int) (k : Nat) (hk : k < ts.length) : pathN (ts.take (k + 1)) = if 0 ≤ ts.getD k 0 then pathN (ts.take k) ++ [ts.getD k 0] else pathN (ts.take k) := by
  rw [List.take_succ_eq_append_getElem hk]
  unfold pathN
  rw [List.filter_append]
  have : ts.getD k 0 = ts[k] := by simp [List.getD, hk]
  rw [this]
  by_cases h : 0 ≤ ts[k]
  · simp [h]
  · simp [h]
theorem pathN_len (ts : List Int) : (pathN ts).length ≤ ts.length := List.length_filter_le _ _

set_option maxHeartbeats 1000000 in
theorem rpath_raw (n cap : Nat) (ad : Option Addr) (ts : List Int) (w : World) (hts : ts.length = n) (hn : n ≤ 61)
    (hc : ∀ k, k < n → ∃ g, ad = some ⟨g, 0, none⟩ ∧ w.cell? ⟨g, k * 25 + 24, none⟩ = some (.int .i64 (ts.getD k 0)) ∧ -1 ≤ ts.getD k 0) :
    Calls Tryd.prog 34 #[.slice ad n cap] w (IntsPost w (pathN ts)) := by
  obtain ⟨i0, hi0, hz0, hz1, hz2⟩ := info_parts infoInt
  have n1 : (0 : Int) ≤ n := by omega
  go_enter Tryd.func34, Tryd.ntmps34
  go_wp2
  go_loopw [3, 4] (fun v i wr => ∃ k m adv capv, k ≤ n ∧ i = .int .i64 (k : Nat) ∧ v = .slice adv m capv ∧ Hid (m = (pathN (ts.take k)).length ∧ wr.ownsRow 0 3 1 (.slice adv m capv) m ((pathN (ts.take k)).map (Value.int .i64))) ∧ Hid (Below w.heap.size w wr) ∧ Hid (∀ kb, (Value.slice adv m capv).ownBlock = some kb → w.heap.size ≤ kb)) (fun _ i _ => n - (intOf i).toNat)
  case atStart => exact ⟨0, 0, none, 0, Nat.zero_le _, rfl, rfl, ⟨rfl, World.ownsRow_nil _ _ _ _⟩, Below.refl _ _, fun kb e => by simp [Value.ownBlock] at e⟩
  case round =>
    obtain ⟨k, m, adv, capv, hk, rfl, rfl, hown, hb, hq⟩ := hrel
    by_cases hlt : k < n
    · obtain ⟨g, e, h0, ht⟩ := hc k hlt
      subst e
      have i1 : (0 : Int) ≤ k := by omega
      have i2 : (k : Int) < (n : Int) := by omega
      have q2 : g < w.heap.size := World.block_lt_of_cell? w _ h0
      have q3 : w.heap.size ≤ wr.heap.size := hb.out.size
      have c0 := (hb.out.cell (p := ⟨g, k * 25 + 24, none⟩) q2).trans h0
      have hm : Hid (m ≤ 61) := by
        have h1 := pathN_len (ts.take k)
        have h2 := hown.out.1
        rw [List.length_take] at h1
        show m ≤ 61
        omega
      have HP := Lib.hid (pathN_take ts k (by omega))
      obtain ⟨x, ex⟩ : ∃ x, x = ts.getD k 0 := ⟨_, rfl⟩
      rw [← ex] at c0 ht HP
      have q5 : g < wr.heap.size := by omega
      clear hc h0 ex
      by_cases hx : 0 ≤ x
      · have e6 : (x != -1) = true := by rw [bne_iff_ne]; omega
        have HQ : Hid (pathN (ts.take (k + 1)) = pathN (ts.take k) ++ [x]) := by rw [HP.out, if_pos hx]; exact rfl
        clear HP
        go_wp2_with (at_builtin; refine wpList_append_lies _ (by rfl) _ _ 32 (by rfl) 0 3 i0 _ 1 8 Tryd.underlying32 hi0 hz0 hz1 hz2 rfl (by decide) (.slice adv m capv) m _ (by rfl) (by exact hown.out.2.alloc _) ⟨wr.heap.size, 0, none⟩ 1 1 [.int .i64 x] (by rfl) (by rfl) (World.news_of_block (cs := #[.int .i64 x]) (t := 3) (fr := (0, 0)) (heap_alloc_new wr _)) (by simp [Value.oneCell']) (by decide) (by have := hm.out; unfold maxLen; omega) (by have := hm.out; omega) (Nat.zero_le _) (wr.heap.size + 1) (by simp) ?_; intro gg cm' w6 hown6 hgr6 hat6 hlt6; have hB6 : Hid (Below w.heap.size w w6) := (by exact ((hb.out.alloc q3 _).grown hgr6 (by simp; omega) (by intro kb e; exact hq.out kb e))); have hO6 : Hid (m + 1 = (pathN (ts.take (k + 1))).length ∧ w6.ownsRow 0 3 1 (.slice (some ⟨gg, 0, none⟩) (m + 1) cm') (m + 1) ((pathN (ts.take (k + 1))).map (Value.int .i64))) := (by rw [HQ.out]; refine ⟨by rw [List.length_append, hown.out.1]; rfl, ?_⟩; rw [List.map_append]; exact hown6); have hG6 : Hid (∀ kb, (Value.slice (some ⟨gg, 0, none⟩) (m + 1) cm').ownBlock = some kb → w.heap.size ≤ kb) := (by intro kb e; simp [Value.ownBlock] at e; subst e; rcases hat6 with h | h; exact hq.out _ h; omega); clear hown6 hgr6 hat6 hlt6)
        go_roundw
        case rel => exact ⟨k + 1, m + 1, _, _, by omega, by go_num, rfl, hO6, hB6, hG6⟩
        case measure => simp [intOf]; omega
      · have e6 : (x != -1) = false := by rw [bne_eq_false_iff_eq]; omega
        have HQ : Hid (m = (pathN (ts.take (k + 1))).length ∧ wr.ownsRow 0 3 1 (.slice adv m capv) m ((pathN (ts.take (k + 1))).map (Value.int .i64))) := by rw [HP.out, if_neg hx]; exact hown.out
        clear HP hown
        go_wp2
        exact ⟨⟨k + 1, m, adv, capv, by omega, by go_num, rfl, HQ, hb, hq⟩, by simp [intOf]; omega⟩
    · have hkn : k = n := by omega
      subst hkn
      have hx : Hid (IntsAt wr (.slice adv m capv) (pathN ts)) := by
        have := hown.out
        rw [List.take_of_length_le (by omega)] at this
        obtain ⟨e, ho⟩ := this
        subst e
        exact IntsAt.ofRow ho
      have hy : Hid (∀ k, (Value.slice adv m capv).ownBlock = some k → w.heap.size ≤ k ∧ k < wr.heap.size) := fun kb e => ⟨hq.out kb e, (hown.out.2.lt kb e).2⟩
      clear hc hown hlt hq
      go_wp2
      go_ret
      exact ⟨_, rfl, hx.out, hb.out, hy.out⟩

theorem rpath_any (w : World) (v : Value) (L : List Nd) (h : RefAt w v L) (hok : StkOk L) :
    Calls Tryd.prog 34 #[v] w (IntsPost w (pathN (L.map Nd.thread))) := by
  obtain ⟨ad, cap, rfl⟩ : ∃ ad cap, v = .slice ad L.length cap := by
    rcases h.shape with ⟨rfl, rfl⟩ | ⟨g, cap, rfl, _⟩
    · exact ⟨_, _, rfl⟩
    · exact ⟨_, _, rfl⟩
  refine rpath_raw L.length cap ad (L.map Nd.thread) w (by simp) hok.1 ?_
  intro k hk
  rcases h.shape with ⟨_, e⟩ | ⟨g, cap', e, _⟩
  · subst e; simp at hk
  · simp at e
    obtain ⟨rfl, rfl⟩ := e
    have hx : L[k]? = some L[k] := List.getElem?_eq_getElem hk
    have ho := hok.2 L[k] (List.getElem_mem hk)
    refine ⟨g, rfl, ?_, ?_⟩
    · rw [h.thread hx]; simp [List.getD, hk]
    · have := ho.2.2.2.1
      simp [List.getD, hk]; omega
end Go.Proofs.YtjfbiganijldfaaDoor
