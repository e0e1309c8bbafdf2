/- Contracts of the methods of package stack: Path. -/
import Derived.Test.YtjfbiganijldfaaDoorStk5
import Derived.Test.YtjfbiganijldfaaDoorRep
namespace Go.Proofs.YtjfbiganijldfaaDoor
open Go.RowKit
set_option linter.unusedVariables false
set_option linter.unusedSimpArgs false
set_option linter.unnecessarySimpa false

/-- a call that makes a new slice of ints and changes nothing that was there -/
def IntsPost (w : World) (xs : List Int) (e : Ending) (w' : World) : Prop :=
  ∃ v, e = .returned v ∧ IntsAt w' v xs ∧ Below w.heap.size w w' ∧ ∀ k, v.ownBlock = some k → w.heap.size ≤ k ∧ k < w'.heap.size

/-- the threads of a path -/
def pathN (ts : List Int) : List Int := ts.filter fun t => decide (0 ≤ t)

theorem path_end_none (w w1 : World) (n : Nat) (ts : List Int) (hn : ts.length = n) (hown : w1.ownsRow 0 3 1 (.slice (some ⟨w.heap.size, 0, none⟩) n n) n (ts.map (Value.int .i64))) (hb : Below w.heap.size w w1) (h : ∀ j, j < n → 0 ≤ ts.getD j 0) (hm : n ≤ maxLen) :
    Calls Tryd.prog 23 #[.slice (some ⟨w.heap.size, 0, none⟩) n n, .func (.func 24) #[] #[]] w1 (IntsPost w (pathN ts)) := by
  subst hn
  have hi := IntsAt.ofRow hown
  refine (deleteNeg_none _ ts w1 hi hm h).mono ?_
  rintro e w' ⟨rfl, rfl⟩
  have hp : pathN ts = ts := by
    unfold pathN
    rw [List.filter_eq_self]
    intro t ht
    obtain ⟨j, hj, rfl⟩ := List.mem_iff_getElem.1 ht
    have := h j hj
    simp [List.getD, hj] at this
    simpa using this
  rw [hp]
  have hlt := (hown.lt w.heap.size rfl).2
  exact ⟨_, rfl, hi, hb, fun k hk => by simp [Value.ownBlock] at hk; omega⟩

theorem path_end_last (w w1 : World) (n : Nat) (ts : List Int) (t : Int) (hn : ts.length = n) (hown : w1.ownsRow 0 3 1 (.slice (some ⟨w.heap.size, 0, none⟩) (n + 1) (n + 1)) (n + 1) ((ts ++ [t]).map (Value.int .i64))) (hb : Below w.heap.size w w1) (h : ∀ j, j < n → 0 ≤ ts.getD j 0) (ht : t < 0) (hm : n + 1 ≤ maxLen) :
    Calls Tryd.prog 23 #[.slice (some ⟨w.heap.size, 0, none⟩) (n + 1) (n + 1), .func (.func 24) #[] #[]] w1 (IntsPost w (pathN (ts ++ [t]))) := by
  subst hn
  have e0 : (ts ++ [t]).length = ts.length + 1 := by simp
  have hi : IntsAt w1 (.slice (some ⟨w.heap.size, 0, none⟩) (ts.length + 1) (ts.length + 1)) (ts ++ [t]) := IntsAt.ofRow (by rw [e0]; exact hown)
  refine (deleteNeg_last w.heap.size (ts.length + 1) ts.length t ts w1 rfl (Nat.le_refl _) hm hi h ht (hown.frozenAt _)).mono ?_
  rintro e w' ⟨rfl, rfl⟩
  have hp : pathN (ts ++ [t]) = ts := by
    unfold pathN
    rw [List.filter_append, List.filter_eq_self.2, List.filter_cons_of_neg (by simpa using ht)]
    · simp
    · intro t ht
      obtain ⟨j, hj, rfl⟩ := List.mem_iff_getElem.1 ht
      have := h j hj
      simp [List.getD, hj] at this
      simpa using this
  rw [hp]
  refine ⟨_, rfl, ?_, hb.setCell (Nat.le_refl _) _, fun k hk => by simp [Value.ownBlock] at hk; have hlt := (hown.lt w.heap.size rfl).2; simp [World.setCell]; omega⟩
  refine ⟨_, _, rfl, (fun e => by cases e), fun g o s e => ?_⟩
  cases e
  refine ⟨rfl, fun i hi' => ?_⟩
  obtain ⟨ad, cap, e, _, h2⟩ := hi
  simp at e
  have h3 := (h2 _ 0 none e.1.symm).2 i (by simp; omega)
  have e3 : (ts ++ [t]).getD i 0 = ts.getD i 0 := by simp [List.getD, List.getElem?_append_left hi']
  rw [e3] at h3
  exact (World.cell?_setCell_other (a := ⟨w.heap.size, ts.length, none⟩) (b := ⟨w.heap.size, 0 + i, none⟩) _ _ (by intro e; have h9 : ts.length = 0 + i := congrArg Addr.off e; omega)).trans h3

set_option maxHeartbeats 1000000 in
theorem path_raw (b n cap : Nat) (ad : Option Addr) (ts : List Int) (w : World) (hts : ts.length = n) (hv : w.cell? ⟨b, 0, none⟩ = some (.slice ad n cap)) (hn : n ≤ 61)
    (hc : ∀ k, k < n → ∃ g s bk d, ad = some ⟨g, 0, none⟩ ∧ w.cell? ⟨g, k * 4, none⟩ = some (.int .u64 s) ∧ w.cell? ⟨g, k * 4 + 1, none⟩ = some (.int .u64 bk) ∧ w.cell? ⟨g, k * 4 + 2, none⟩ = some (.int .u64 d) ∧ w.cell? ⟨g, k * 4 + 3, none⟩ = some (.int .i64 (ts.getD k 0)))
    (hfin : ∀ w1, w1.ownsRow 0 3 1 (.slice (some ⟨w.heap.size, 0, none⟩) n n) n (ts.map (Value.int .i64)) → Below w.heap.size w w1 →
      Calls Tryd.prog 23 #[.slice (some ⟨w.heap.size, 0, none⟩) n n, .func (.func 24) #[] #[]] w1 (IntsPost w (pathN ts))) :
    Calls Tryd.prog 10 #[.pointer (some ⟨b, 0, none⟩)] w (IntsPost w (pathN ts)) := by
  have HF := Lib.hid hfin
  obtain ⟨i0, hi0, hz0, hz1, hz2⟩ := info_parts infoInt
  have q1 : b < w.heap.size := World.block_lt_of_cell? w _ hv
  have n1 : (0 : Int) ≤ n := by omega
  have n2 : (n : Int) ≤ 61 := by omega
  clear hfin
  go_enter Tryd.func10, Tryd.ntmps10
  go_upto_region 2 with ((at_make; refine wpList_make_own _ rfl _ _ _ rfl 0 3 i0 _ 1 Tryd.underlying32 hi0 hz0 hz1 _ _ _ n (by rfl) (by rfl) rfl (by rw [hz2]; omega) (by unfold maxLen; omega) (Nat.zero_le _) ?_; intro w1 hown hgr))
  have hv1 : w1.cell? ⟨b, 0, none⟩ = some (.slice ad n cap) := hgr.cell hv (by simp)
  have hbl : Hid (Below w.heap.size w w1) := show Below _ _ _ from (Below.refl _ _).grown hgr (Nat.le_refl _) (by simp)
  have HO := Lib.hid hown
  clear hown hgr
  go_wp2
  go_loopw [3, 17] (fun v i wr => ∃ k : Nat, k ≤ n ∧ i = .int .i64 k ∧ v = .slice (some ⟨w.heap.size, 0, none⟩) k n ∧ Hid (wr.ownsRow 0 3 1 (.slice (some ⟨w.heap.size, 0, none⟩) k n) k ((ts.take k).map (Value.int .i64))) ∧ Hid (Below w.heap.size w wr)) (fun _ i _ => n - (intOf i).toNat)
  case atStart => exact ⟨0, Nat.zero_le _, rfl, rfl, HO.out, hbl⟩
  case round =>
    obtain ⟨k, hk, rfl, rfl, hown, hb⟩ := hrel
    clear HO hbl
    by_cases hlt : k < n
    · obtain ⟨g, s, bk, d, e, h0, h1, h2, h3⟩ := hc k hlt
      subst e
      have i1 : (0 : Int) ≤ k := by omega
      have i2 : (k : Int) < (n : Int) := by omega
      have q2 : g < w.heap.size := World.block_lt_of_cell? w _ h0
      have q3 : w.heap.size ≤ wr.heap.size := hb.out.size
      have q4 : w.heap.size < wr.heap.size := (hown.out.lt w.heap.size rfl).2
      have c0 := (hb.out.cell (p := ⟨g, k * 4, none⟩) q2).trans h0
      have c1 := (hb.out.cell (p := ⟨g, k * 4 + 1, none⟩) q2).trans h1
      have c2 := (hb.out.cell (p := ⟨g, k * 4 + 2, none⟩) q2).trans h2
      have c3 := (hb.out.cell (p := ⟨g, k * 4 + 3, none⟩) q2).trans h3
      obtain ⟨x, ex⟩ : ∃ x, x = ts.getD k 0 := ⟨_, rfl⟩
      rw [← ex] at c3
      have et : Hid ((ts.take (k + 1)).map (Value.int .i64) = (ts.take k).map (Value.int .i64) ++ [.int .i64 x]) := by
        show _ = _
        rw [List.take_succ_eq_append_getElem (by omega), List.map_append, ex]
        simp [List.getD, show k < ts.length by omega]
      have q5 : g < wr.heap.size := by omega
      clear hc hv hv1 h0 h1 h2 h3 ex
      go_wp2_with (at_builtin; refine wpList_append_fits _ (by rfl) _ _ 32 (by rfl) 0 3 i0 1 Tryd.underlying32 hi0 hz1 w.heap.size k n _ (by rfl) ((hown.out.alloc _).alloc _) ⟨wr.heap.size + 1, 0, none⟩ 1 1 [.int .i64 x] (by rfl) (by rfl) (World.news_of_block (cs := #[.int .i64 x]) (t := 3) (fr := (0, 0)) (by exact heap_alloc2 wr _ _)) (by simp [Value.oneCell']) (by omega) ?_; intro w2 hown2 hgr2; have hb2 : Hid (Below w.heap.size w w2) := (by exact (((hb.out.alloc q3 _).alloc (by simp; omega) _).grown hgr2 (by simp; omega) (by intro k hk; cases hk; exact Nat.le_refl _))); have ho2 : Hid (w2.ownsRow 0 3 1 (.slice (some ⟨w.heap.size, 0, none⟩) (k + 1) n) (k + 1) ((ts.take (k + 1)).map (Value.int .i64))) := (by rw [et.out]; exact hown2); clear hown2 hgr2 et hown hb)
      go_roundw
      case rel => exact ⟨k + 1, by omega, by go_num, rfl, ho2, hb2⟩
      case measure => simp [intOf]; omega
    · have hkn : k = n := by omega
      subst hkn
      have hx : Hid (wr.ownsRow 0 3 1 (.slice (some ⟨w.heap.size, 0, none⟩) k k) k (ts.map (Value.int .i64))) := by
        have := hown.out
        rw [List.take_of_length_le (by omega)] at this
        exact this
      clear hc hown hlt
      go_wp2_with (go_at_call 23; refine (HF.out _ hx.out hb.out).mono ?_; rintro e w' ⟨v, rfl, h1, h2, h3⟩)
      go_ret
      exact ⟨v, rfl, h1, h2, h3⟩

/-- the order of a stack's threads: only the top's may be none -/
def StkRow (L : List Nd) : Prop := ∀ x ∈ L.dropLast, 0 ≤ x.thread

theorem path_any (w : World) (b : Nat) (v : Value) (L : List Nd) (h : StackAt w b v L) (hok : StkOk L) (hrow : StkRow L) :
    Calls Tryd.prog 10 #[.pointer (some ⟨b, 0, none⟩)] w (IntsPost w (pathN (L.map Nd.thread))) := by
  obtain ⟨ad, cap, rfl⟩ : ∃ ad cap, v = .slice ad L.length cap := by
    rcases h.shape with ⟨rfl, rfl⟩ | ⟨g, cap, rfl, _⟩
    · exact ⟨_, _, rfl⟩
    · exact ⟨_, _, rfl⟩
  refine path_raw b L.length cap ad (L.map Nd.thread) w (by simp) h.cell0 hok.1 ?_ ?_
  · intro k hk
    rcases h.shape with ⟨_, e⟩ | ⟨g, cap', e, _⟩
    · subst e; simp at hk
    · simp at e
      obtain ⟨rfl, rfl⟩ := e
      have hx : L[k]? = some L[k] := List.getElem?_eq_getElem hk
      have hg := h.get hx
      refine ⟨g, _, _, _, rfl, hg.1, hg.2.1, hg.2.2.1, ?_⟩
      rw [hg.2.2.2]
      simp [List.getD, hk]
  · intro w1 hown hb
    have hml : L.length ≤ maxLen := by have := hok.1; unfold maxLen; omega
    rcases List.eq_nil_or_concat L with rfl | ⟨L0, x, rfl⟩
    · exact path_end_none w w1 0 [] rfl hown hb (fun j hj => by omega) (by unfold maxLen; omega)
    · rw [List.concat_eq_append] at *
      have hL0 : ∀ j, j < L0.length → 0 ≤ (L0.map Nd.thread).getD j 0 := by
        intro j hj
        have := hrow L0[j] (by simp)
        simpa [List.getD, hj] using this
      by_cases hx : 0 ≤ x.thread
      · refine path_end_none w w1 _ _ (by simp) hown hb ?_ hml
        intro j hj
        rcases Nat.lt_or_ge j L0.length with hlt | hge
        · have := hL0 j hlt
          simpa [List.getD, List.getElem?_append_left, hlt] using this
        · have : j = L0.length := by simp at hj; omega
          subst this
          simpa using hx
      · have el : (L0 ++ [x]).length = L0.length + 1 := by simp
        rw [el] at hown ⊢
        rw [List.map_append] at hown ⊢
        exact path_end_last w w1 L0.length (L0.map Nd.thread) x.thread (by simp) hown hb hL0 (by omega) (by rw [← el]; exact hml)
end Go.Proofs.YtjfbiganijldfaaDoor
