/- The reference's calls on rows of nodes: Left. -/
import Derived.Test.YtjfbiganijldfaaDoorRefA
namespace Go.Proofs.YtjfbiganijldfaaDoor
open Go.RowKit
set_option linter.unusedVariables false
set_option linter.unusedSimpArgs false
set_option linter.unnecessarySimpa false

/-- the row while it is filled, zeros behind -/
def rowZ (ls : List Int) (k : Nat) : List Value := (ls.take k ++ List.replicate (61 - k) 0).map (Value.int .i64)
theorem rowZ_len (ls : List Int) (k : Nat) (h : ls.length = 61) (h61 : k ≤ 61) : (rowZ ls k).length = 61 := by simp [rowZ]; omega
theorem rowZ_set (ls : List Int) (k : Nat) (h : ls.length = 61) (h61 : k < 61) : (rowZ ls k).set k (.int .i64 (ls.getD k 0)) = rowZ ls (k + 1) := by
  unfold rowZ
  rw [← List.map_set, List.set_append_right _ _ (by rw [List.length_take]; omega), List.length_take, Nat.min_eq_left (by omega), Nat.sub_self]
  congr 1
  rw [List.take_succ_eq_append_getElem (by omega), List.append_assoc]
  congr 1
  rw [show 61 - k = (61 - (k + 1)) + 1 by omega, List.replicate_succ, List.set_cons_zero]
  simp [List.getD, h, h61]

/-- the row of sixty-one, its cells -/
def RowB (w : World) (B : Nat) (xs : List Value) : Prop := w.ownsRow 0 3 1 (.slice (some ⟨B, 0, none⟩) 61 61) 61 xs
theorem RowB.set {w : World} {B : Nat} {xs : List Value} (h : RowB w B xs) (k : Nat) (u : Value) : RowB (w.setCell ⟨B, k, none⟩ u) B (xs.set k u) := (World.ownsRow.stored h k u).1
theorem RowB.cell {w : World} {B : Nat} {xs : List Value} (h : RowB w B xs) (hx : xs.length = 61) (k : Nat) (hk : k < 61) : ∃ v, w.cell? ⟨B, k, none⟩ = some v := by
  rw [World.ownsRow.cellAt h k (by omega)]
  exact ⟨_, List.getElem?_eq_getElem (by omega)⟩
theorem RowB.free {w : World} {B : Nat} {xs : List Value} (h : RowB w B xs) (k : Nat) : w.frozen? ⟨B, k, none⟩ = false := World.ownsRow.frozenAt h k
theorem RowB.lt {w : World} {B : Nat} {xs : List Value} (h : RowB w B xs) : B < w.heap.size := (World.ownsRow.lt h B rfl).2
theorem RowB.below {w w' : World} {B : Nat} {xs : List Value} (h : RowB w B xs) (hb : Below w.heap.size w w') : RowB w' B xs := ownsRow_keeps (S := NoBlk) h (Keeps.ofBelow hb _) (fun _ _ h => h)

set_option maxHeartbeats 1000000 in
theorem rleft_raw (n cap : Nat) (ad : Option Addr) (ds ts ls : List Int) (w : World) (hls : ls.length = 61) (hn : n ≤ 61)
    (hc : ∀ k, k < n → ∃ g, ad = some ⟨g, 0, none⟩ ∧ w.rangeAt g (k * 25 + 16) ((bitsN (ds.getD k 0)).map Value.bool) ∧ w.cell? ⟨g, k * 25 + 24, none⟩ = some (.int .i64 (ts.getD k 0)))
    (hl : ∀ k, k < n → (0 ≤ ds.getD k 0 ∧ ds.getD k 0 < 256) ∧ -1 ≤ ts.getD k 0 ∧ ls.getD k 0 = 2 * (8 - lenN (ds.getD k 0 % 256)) + if ts.getD k 0 < 0 then 1 else 0)
    (hl2 : ∀ k, n ≤ k → k < 61 → ls.getD k 0 = 18) :
    Calls Tryd.prog 35 #[.slice ad n cap] w (IntsPost w ls) := by
  obtain ⟨i0, hi0, hz0, hz1, hz2⟩ := info_parts infoInt
  go_enter Tryd.func35, Tryd.ntmps35
  go_upto_region 2 with (at_make; refine wpList_make_full _ rfl _ _ _ rfl 0 3 i0 _ 1 Tryd.underlying32 hi0 hz0 hz1 _ _ _ _ 61 (by rfl) (by rfl) rfl rfl (by rw [hz2]; omega) (by unfold maxLen; omega) (Nat.zero_le _) ?_; intro w1 hown hgr)
  have hr1 : Hid (RowB w1 w.heap.size (rowZ ls 0)) := by
    have e : rowZ ls 0 = (madeCells (Value.int .i64 0).cells (61 * 1)).toList := by
      simp only [rowZ, List.take_zero, List.nil_append]
      kernel_rfl
    rw [e]
    exact hown
  have hb1 : Hid (Below w.heap.size w w1) := show Below _ _ _ from (Below.refl _ _).grown hgr (Nat.le_refl _) (by simp)
  clear hown hgr
  go_wp2
  go_loopw [4] (fun i wr => ∃ k : Nat, k ≤ 61 ∧ i = .int .i64 k ∧ Hid (RowB wr w.heap.size (rowZ ls k)) ∧ Hid (Below w.heap.size w wr)) (fun i _ => 61 - (intOf i).toNat)
  case atStart => exact ⟨0, Nat.zero_le _, rfl, hr1, hb1⟩
  case round =>
    obtain ⟨k, hk, rfl, hr, hb⟩ := hrel
    clear hr1 hb1
    by_cases hlt : k < 61
    · have hlen := rowZ_len ls k hls hk
      have HS := Lib.hid (rowZ_set ls k hls hlt)
      have i1 : (0 : Int) ≤ k := by omega
      have i3 : (k : Int) < 61 := by omega
      obtain ⟨v, hcell⟩ := hr.out.cell hlen k hlt
      have hfree := hr.out.free k
      have hlt2 := hr.out.lt
      by_cases hkn : k < n
      · obtain ⟨g, e, hrg, h3⟩ := hc k hkn
        subst e
        obtain ⟨⟨hd0, hd1⟩, htm, hval⟩ := hl k hkn
        have hkn' : (k : Int) < n := by omega
        obtain ⟨d, ed⟩ : ∃ d, d = ds.getD k 0 := ⟨_, rfl⟩
        obtain ⟨t, et⟩ : ∃ t, t = ts.getD k 0 := ⟨_, rfl⟩
        rw [← ed] at hrg hd0 hd1 hval
        rw [← et] at h3 htm hval
        have HV := Lib.hid hval
        have q2 : g < w.heap.size := World.block_lt_of_cell? w _ h3
        have HRG := Lib.hid hrg
        have HT := Lib.hid h3
        clear hc hl hl2 hrg h3 ed et hval hlen
        go_upto_region 7 with fail
        have hr2 : Hid (RowB (wr.setCell ⟨w.heap.size, k, none⟩ (.int .i64 18)) w.heap.size ((rowZ ls k).set k (.int .i64 18))) := hr.out.set k _
        have hb2 : Hid (Below w.heap.size w (wr.setCell ⟨w.heap.size, k, none⟩ (.int .i64 18))) := hb.out.setCell (Nat.le_refl _) _
        generalize wr.setCell ⟨w.heap.size, k, none⟩ (.int .i64 18) = w2 at hr2 hb2 ⊢
        clear hr hb hcell hfree hlt2
        iterate 13 go_step
        refine wpList_load_mid (by rfl) _ _ (by rfl) g (k * 25 + 16) (by rfl) ((bitsN d).map Value.bool) _ (range_keeps HRG.out (Keeps.ofBelow hb2.out NoBlk) (fun h => h)) Tryd.underlying59 rfl (by rw [List.length_map, bitsN_len]; kernel_rfl) ?_
        go_wp2_with fail
        refine (rlen_any (bitsN d) _ (bitsN_len _)).mono ?_
        rintro e w3 ⟨rfl, hb3⟩
        rw [trueN_bits]
        have hr3 : Hid (RowB w3 w.heap.size ((rowZ ls k).set k (.int .i64 18))) := hr2.out.below hb3
        have hb3' : Hid (Below w.heap.size w w3) := hb2.out.trans (hb3.mono hb2.out.size)
        have hlen3 : ((rowZ ls k).set k (.int .i64 18)).length = 61 := by rw [List.length_set]; exact rowZ_len ls k hls hk
        obtain ⟨v, hcell⟩ := hr3.out.cell hlen3 k hlt
        have hfree := hr3.out.free k
        have hlt2 := hr3.out.lt
        have c3 := (hb3'.out.cell (p := ⟨g, k * 25 + 24, none⟩) q2).trans HT.out
        have q5 : g < w3.heap.size := by omega
        have q6 : g ≠ w.heap.size := by omega
        have q7 : w.heap.size ≠ g := by omega
        have lb := lenN_bd d
        have ed : d % 256 = d := by omega
        rw [ed] at HV lb
        clear hr2 hb2 hb3 hlen3 ed
        have hf1 : Hid (∀ u, u = ls.getD k 0 → RowB (w3.setCell ⟨w.heap.size, k, none⟩ (.int .i64 u)) w.heap.size (rowZ ls (k + 1))) := fun u hu => by
          have := hr3.out.set k (.int .i64 u)
          rw [List.set_set, hu, HS.out] at this
          rw [hu]
          exact this
        have hf2 : Hid (∀ u1 u, u = ls.getD k 0 → RowB ((w3.setCell ⟨w.heap.size, k, none⟩ (.int .i64 u1)).setCell ⟨w.heap.size, k, none⟩ (.int .i64 u)) w.heap.size (rowZ ls (k + 1))) := fun u1 u hu => by
          have := (hr3.out.set k (.int .i64 u1)).set k (.int .i64 u)
          rw [List.set_set, List.set_set, hu, HS.out] at this
          rw [hu]
          exact this
        clear hr3 HS
        generalize lenN d = len at *
        by_cases htn : t < 0
        · have e1 : t = -1 := by omega
          subst e1
          go_wp2
          exact ⟨⟨k + 1, by omega, by go_num, hf2.out _ _ (by rw [HV.out, if_pos htn]), (hb3'.out.setCell (Nat.le_refl _) _).setCell (Nat.le_refl _) _⟩, by simp [intOf]; omega⟩
        · have e1 : (t == -1) = false := by rw [beq_eq_false_iff_ne]; omega
          go_wp2
          exact ⟨⟨k + 1, by omega, by go_num, hf1.out _ (by rw [HV.out, if_neg (by omega)]; omega), hb3'.out.setCell (Nat.le_refl _) _⟩, by simp [intOf]; omega⟩
      · have hkn' : ¬ ((k : Int) < n) := by omega
        have HV := hl2 k (by omega) hlt
        have hf : Hid (RowB (wr.setCell ⟨w.heap.size, k, none⟩ (.int .i64 18)) w.heap.size (rowZ ls (k + 1))) := by
          rw [← HS.out, HV]
          exact hr.out.set k _
        clear hc hl hl2 hlen HV
        go_wp2
        exact ⟨⟨k + 1, by omega, by go_num, hf, hb.out.setCell (Nat.le_refl _) _⟩, by simp [intOf]; omega⟩
    · have hk61 : k = 61 := by omega
      subst hk61
      have hx : Hid (IntsAt wr (.slice (some ⟨w.heap.size, 0, none⟩) 61 61) ls) := by
        have := hr.out
        unfold rowZ at this
        rw [List.take_of_length_le (by omega)] at this
        have h2 : RowB wr w.heap.size (ls.map (Value.int .i64)) := by simpa using this
        exact IntsAt.ofRow (xs := ls) (by rw [hls]; exact h2)
      have hlt2 := Lib.hid hr.out.lt
      clear hc hl hl2 hr hlt
      go_wp2
      go_ret
      exact ⟨_, rfl, hx.out, hb.out, fun kb e => by simp [Value.ownBlock] at e; subst e; exact ⟨Nat.le_refl _, hlt2.out⟩⟩

theorem leftN_len61 (L : List Nd) (h : L.length ≤ 61) : (leftN L).length = 61 := by simp [leftN]; omega
theorem rleft_any (w : World) (v : Value) (L : List Nd) (h : RefAt w v L) (hok : StkOk L) :
    Calls Tryd.prog 35 #[v] w (IntsPost w (leftN L)) := by
  obtain ⟨ad, cap, rfl⟩ : ∃ ad cap, v = .slice ad L.length cap := by
    rcases h.shape with ⟨rfl, rfl⟩ | ⟨g, cap, rfl, _⟩
    · exact ⟨_, _, rfl⟩
    · exact ⟨_, _, rfl⟩
  refine rleft_raw L.length cap ad (L.map Nd.done) (L.map Nd.thread) (leftN L) w (leftN_len61 L hok.1) hok.1 ?_ ?_ ?_
  · intro k hk
    rcases h.shape with ⟨_, e⟩ | ⟨g, cap', e, _⟩
    · subst e; simp at hk
    · simp at e
      obtain ⟨rfl, rfl⟩ := e
      have hx : L[k]? = some L[k] := List.getElem?_eq_getElem hk
      have e1 : (L.map Nd.done).getD k 0 = L[k].done := by simp [List.getD, hk]
      have e2 : (L.map Nd.thread).getD k 0 = L[k].thread := by simp [List.getD, hk]
      rw [e1, e2]
      refine ⟨g, rfl, fun j v hj => ?_, h.thread hx⟩
      rw [List.getElem?_map] at hj
      have hj8 : j < 8 := by
        rcases Nat.lt_or_ge j 8 with h | h
        · exact h
        · rw [List.getElem?_eq_none (by rw [bitsN_len]; exact h)] at hj; cases hj
      rw [bitsN_get _ j hj8] at hj
      cases hj
      exact h.done hx j hj8
  · intro k hk
    have hx := hok.2 L[k] (List.getElem_mem hk)
    have e1 : (L.map Nd.done).getD k 0 = L[k].done := by simp [List.getD, hk]
    have e2 : (L.map Nd.thread).getD k 0 = L[k].thread := by simp [List.getD, hk]
    have e3 : (leftN L).getD k 0 = leftNd L[k] := by simp [leftN, List.getD, List.getElem?_append_left, hk]
    rw [e1, e2, e3]
    exact ⟨hx.2.2.1, hx.2.2.2.1, rfl⟩
  · intro k hk hk2
    have : (leftN L)[k]? = some 18 := by
      unfold leftN
      rw [List.getElem?_append_right (by simpa using hk), List.getElem?_replicate]
      simp; omega
    simp [List.getD, this]
end Go.Proofs.YtjfbiganijldfaaDoor
