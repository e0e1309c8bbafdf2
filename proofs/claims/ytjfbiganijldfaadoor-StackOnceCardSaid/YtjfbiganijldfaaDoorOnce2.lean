/- The walk of StackOnce: the loop. -/
import Derived.Test.YtjfbiganijldfaaDoorOnce
namespace Go.Proofs.YtjfbiganijldfaaDoor
open Go.RowKit
set_option linter.unusedVariables false
set_option linter.unusedSimpArgs false
set_option linter.unnecessarySimpa false

theorem infoRow : (Tryd.prog.info? 32).map (fun i => (i.zero, i.size, i.bytes)) = some (some (.slice none 0 0), 1, 24) := by kernel_rfl

/-- what holds at the head of each round -/
def OnceRel (w0 : World) (bs n : Nat) (mv : Value) (k : Nat) (w : World) : Prop :=
  ∃ v L M, OnceInv w0.heap.size w bs v mv L M ∧ Below w0.heap.size w0 w ∧ M.length ≤ k

theorem TabOK.below {w0 w : World} (h : TabOK w0) (hb : Below w0.heap.size w0 w) : TabOK w := fun j hj =>
  (hb.cell (p := ⟨1, j, none⟩) (World.block_lt_of_cell? w0 _ (h j hj))).trans (h j hj)

set_option maxHeartbeats 1000000 in
theorem once_walk (w0 : World) (sv : Value) (n : Nat) (ss : Nat → Stp) (hs : ScriptAt w0 sv n ss) (hT : TabOK w0) :
    Calls Tryd.prog 3 #[sv] w0 fun e w' => e = .returned (.bool true) ∧ Below w0.heap.size w0 w' := by
  obtain ⟨ad, cap, rfl, hnm, hcell⟩ := hs
  unfold maxLen at hnm
  have HT := Lib.hid hT
  have HA := Lib.hid (awake_any w0 hT)
  have HC := Lib.hid hcell
  clear hT hcell
  go_enter Tryd.func3, Tryd.ntmps3
  go_wp2_with (first | (go_at_call 6; refine HA.out.mono ?_; rintro e w1 ⟨rfl, h1⟩; have H1 := Lib.hid h1; clear h1) | (go_at_call 7; refine (stkNew_any _).mono ?_; rintro e w2 ⟨rfl, hw2⟩; have H2 := Lib.hid hw2; clear hw2))
  have HR : Hid (OnceRel w0 w1.heap.size n (.slice none 0 0) 0 w2) := by
    have h1 := H1.out
    have hk2 : Keeps NoBlk w1 w2 := by rw [H2.out]; exact (Keeps.refl _ _).alloc _
    have hst : StackAt w2 w1.heap.size (.slice none 0 0) [] := by rw [H2.out]; exact StackAt.fresh w1
    have hb := (h1.trans hk2 (fun _ _ h => h)).below (B := w0.heap.size) (fun _ _ h => h.elim) (Nat.le_refl _)
    refine ⟨_, [], [], ⟨hst, tidy_nil, ⟨World.ownsRow_nil _ _ _ _, fun k e => by simp [Value.ownBlock] at e, fun p hp => by simp at hp⟩, hb.size, ?_, fun k e => by simp [Value.ownBlock] at e⟩, hb, Nat.zero_le _⟩
    rintro k (rfl | e)
    · exact h1.size
    · simp [Value.ownBlock] at e
  clear H1 H2 HA
  generalize w1.heap.size = bs at *
  go_loopw [5, 6] (fun mv i wr => ∃ k : Nat, k ≤ n ∧ k ≤ 400 ∧ i = .int .i64 k ∧ Hid (OnceRel w0 bs n mv k wr)) (fun _ i _ => n - (intOf i).toNat)
  case atStart => exact ⟨0, Nat.zero_le _, by omega, rfl, HR⟩
  case round =>
    obtain ⟨k, hk, hk4, rfl, hR⟩ := hrel
    clear HR
    obtain ⟨v, L, M, hI, hB, hM⟩ := hR.out
    have HBL := Lib.hid hB
    by_cases hlt : k < n
    · by_cases hl4 : k < 400
      · obtain ⟨hok, g, o, e, c0, c1, c2, c3⟩ := HC.out k hlt
        subst e
        have HD0 := do_any wr bs v L (ss k).d (ss k).i (ss k).a (ss k).b hI.stk hI.tidy.ok (HT.out.below hB) hok.1 hok.2
        have ht0 := tidy_do hI.tidy (ss k).d (ss k).i (ss k).a (ss k).b
        obtain ⟨⟨d, i, a, b⟩, hx⟩ : ∃ x : Stp, x = ss k := ⟨_, rfl⟩
        rw [← hx] at c0 c1 c2 c3 HD0 ht0
        dsimp only at c0 c1 c2 c3 HD0 ht0
        obtain ⟨r, er⟩ : ∃ r, r = (doN L d i a b).1 := ⟨_, rfl⟩
        obtain ⟨L', eL⟩ : ∃ L', L' = (doN L d i a b).2 := ⟨_, rfl⟩
        rw [← er, ← eL] at HD0 ht0
        have HD := Lib.hid HD0
        obtain ⟨t1, t2, t3⟩ := ht0
        have HOwn := Lib.hid hI.own
        have HBase := Lib.hid hI.base
        have hBH := Lib.hid hB
        have q1 : g < w0.heap.size := World.block_lt_of_cell? w0 _ c0
        have c00 := c0
        have c0 := (hB.cell (p := ⟨g, o + k * 4, none⟩) q1).trans c0
        have c1 := (hB.cell (p := ⟨g, o + k * 4 + 1, none⟩) q1).trans c1
        have c2 := (hB.cell (p := ⟨g, o + k * 4 + 2, none⟩) q1).trans c2
        have c3 := (hB.cell (p := ⟨g, o + k * 4 + 3, none⟩) q1).trans c3
        have i1 : (0 : Int) ≤ k := by omega
        have i2 : (k : Int) < (n : Int) := by omega
        have i3 : (k : Int) < 400 := by omega
        have HI := Lib.hid hI
        obtain ⟨adm, cm, em, hgm⟩ := rowShape hI.met.own
        subst em
        clear hx er eL HD0 hI hB hR hok HC
        by_cases hz : L'.length = 0
        · obtain rfl : L' = [] := List.eq_nil_of_length_eq_zero hz
          have T1 := Lib.hid (t1 rfl)
          by_cases hd : d = 1
          · have hr : r = false := by
              cases r with
              | false => rfl
              | true => exact absurd rfl (t3 hd rfl).1
            subst hr
            have hd1 : (d != 1) = false := by rw [hd]; rfl
            clear t1 t2 t3 hz hd
            go_wp2_with (first | (go_at_call 8; refine HD.out.mono ?_; rintro e w3 ⟨v', rfl, g1, g2, g3⟩; have hB3 : Hid (Below w0.heap.size w0 w3) := (show Below _ _ _ from hBH.out.trans (g2.below (fun k' _ ho => HOwn.out k' ho) HBase.out)); have c0' : w3.cell? ⟨g, o + k * 4, none⟩ = some (.int .i64 d) := ((hB3.out.cell (p := ⟨g, o + k * 4, none⟩) q1).trans c00); have hS3 := Lib.hid g1; have hK3 := Lib.hid g2; have hN3 := Lib.hid g3; clear g1 g2 g3) | (go_at_call 9; refine (stkLen_any _ _ _ _ (by exact hS3.out)).mono ?_; rintro e w' ⟨rfl, rfl⟩))
            go_roundw
            case rel => exact ⟨k + 1, by omega, by omega, by go_num, v', [], [], (HI.out.none.call hS3.out hK3.out hN3.out T1.out), hB3.out, Nat.zero_le _⟩
            case measure => simp [intOf]; omega
          · have hd1 : (d != 1) = true := by rw [bne_iff_ne]; exact hd
            clear t1 t2 t3 hz hd
            go_wp2_with (first | (go_at_call 8; refine HD.out.mono ?_; rintro e w3 ⟨v', rfl, g1, g2, g3⟩; have hB3 : Hid (Below w0.heap.size w0 w3) := (show Below _ _ _ from hBH.out.trans (g2.below (fun k' _ ho => HOwn.out k' ho) HBase.out)); have c0' : w3.cell? ⟨g, o + k * 4, none⟩ = some (.int .i64 d) := ((hB3.out.cell (p := ⟨g, o + k * 4, none⟩) q1).trans c00); have hS3 := Lib.hid g1; have hK3 := Lib.hid g2; have hN3 := Lib.hid g3; clear g1 g2 g3) | (go_at_call 9; refine (stkLen_any _ _ _ _ (by exact hS3.out)).mono ?_; rintro e w' ⟨rfl, rfl⟩))
            go_roundw
            case rel => exact ⟨k + 1, by omega, by omega, by go_num, v', [], [], (HI.out.none.call hS3.out hK3.out hN3.out T1.out), hB3.out, Nat.zero_le _⟩
            case measure => simp [intOf]; omega
        · have hz1 : ((L'.length : Int) == 0) = false := by rw [beq_eq_false_iff_ne]; omega
          have hne : L' ≠ [] := fun e => hz (by rw [e]; rfl)
          by_cases hd : d = 1
          · have hd1 : (d != 1) = false := by rw [hd]; rfl
            cases r with
            | false =>
              have T2 := Lib.hid (t2 hne (.inr rfl))
              clear t1 t2 t3 hz hne hd
              go_wp2_with (first | (go_at_call 8; refine HD.out.mono ?_; rintro e w3 ⟨v', rfl, g1, g2, g3⟩; have hB3 : Hid (Below w0.heap.size w0 w3) := (show Below _ _ _ from hBH.out.trans (g2.below (fun k' _ ho => HOwn.out k' ho) HBase.out)); have c0' : w3.cell? ⟨g, o + k * 4, none⟩ = some (.int .i64 d) := ((hB3.out.cell (p := ⟨g, o + k * 4, none⟩) q1).trans c00); have hS3 := Lib.hid g1; have hK3 := Lib.hid g2; have hN3 := Lib.hid g3; clear g1 g2 g3) | (go_at_call 9; refine (stkLen_any _ _ _ _ (by exact hS3.out)).mono ?_; rintro e w' ⟨rfl, rfl⟩))
              go_roundw
              case rel => exact ⟨k + 1, by omega, by omega, by go_num, v', L', M, (HI.out.call hS3.out hK3.out hN3.out T2.out), hB3.out, by omega⟩
              case measure => simp [intOf]; omega
            | true =>
              obtain ⟨T0, T3, T4⟩ := t3 hd rfl
              have T3 := Lib.hid T3
              have T4 := Lib.hid T4
              clear t1 t2 t3 hz hne hd T0
              go_wp2_with (first | (go_at_call 8; refine HD.out.mono ?_; rintro e w3 ⟨v', rfl, g1, g2, g3⟩; have hB3 : Hid (Below w0.heap.size w0 w3) := (show Below _ _ _ from hBH.out.trans (g2.below (fun k' _ ho => HOwn.out k' ho) HBase.out)); have c0' : w3.cell? ⟨g, o + k * 4, none⟩ = some (.int .i64 d) := ((hB3.out.cell (p := ⟨g, o + k * 4, none⟩) q1).trans c00); have hS3 := Lib.hid g1; have hK3 := Lib.hid g2; have hN3 := Lib.hid g3; clear g1 g2 g3) | (go_at_call 9; refine (stkLen_any _ _ _ _ (by exact hS3.out)).mono ?_; rintro e w' ⟨rfl, rfl⟩) | (go_at_call 10; go_loud (refine (path_any _ _ _ _ (by exact hS3.out) (by exact T3.out.ok) (by exact T3.out.row)).mono ?_); rintro e w4 ⟨pv, rfl, p1, p2, p3⟩; obtain ⟨adp, capp, epv⟩ := p1.len; subst epv; have P1 := Lib.hid p1; have P2 := Lib.hid p2; have P3 := Lib.hid p3; clear p1 p2 p3))
              have I4 : Hid (OnceInv w0.heap.size w4 bs v' (.slice adm M.length cm) L' M) := (HI.out.call hS3.out hK3.out hN3.out T3.out.left).keeps (Keeps.ofBelow P2.out _)
              have PP : Hid (pathN (L'.map Nd.thread) = pathT L') := T3.out.path
              have hpl : (pathN (L'.map Nd.thread)).length ≤ 61 := by
                have h1 := List.length_filter_le (fun t : Int => decide (0 ≤ t)) (L'.map Nd.thread)
                have h2 := T3.out.len
                rw [List.length_map] at h1
                exact Nat.le_trans h1 h2
              have B4 : Hid (Below w0.heap.size w0 w4) := hB3.out.trans (P2.out.mono hB3.out.size |> fun h => h)
              have S3 : Hid (StackAt w3 bs v' L') := hS3.out
              have M3 : Hid (∀ k', (Value.slice adm M.length cm).ownBlock = some k' → k' < w3.heap.size) := fun k' e => Nat.lt_of_lt_of_le (HI.out.met.own.lt k' e).2 hK3.out.size
              clear hS3 hK3 hN3 hB3 c0' c0 c1 c2 c3 c00
              go_loopw [10] (fun x wx => ∃ j c : Nat, j ≤ M.length ∧ x = .int .i64 j ∧ wx = w4.drewN c) (fun x _ => M.length - (intOf x).toNat)
              case atStart => exact ⟨0, 0, Nat.zero_le _, rfl, rfl⟩
              case round =>
                obtain ⟨j, c, hj, rfl, rfl⟩ := hrel
                by_cases hjl : j < M.length
                · obtain ⟨gm, em⟩ := hgm (by omega)
                  subst em
                  have hmem : M[j] ∈ M := List.getElem_mem hjl
                  obtain ⟨a1, a2, a3, _⟩ := I4.out.met.mem _ hmem
                  have hcell := I4.out.met.own.cellAt j (by omega)
                  rw [List.getElem?_map, List.getElem?_eq_getElem hjl] at hcell
                  have hneq : Hid (decide (M[j].2 = pathN (L'.map Nd.thread)) = false) := by
                    rw [PP.out]
                    exact decide_eq_false (fun e => T4.out (e ▸ List.mem_map_of_mem hmem))
                  generalize M[j] = mj at *
                  obtain ⟨mv, mx⟩ := mj
                  dsimp only at a1 a2 a3 hcell hneq
                  obtain ⟨adj, cj, ej⟩ := a1.len
                  subst ej
                  have A1 := Lib.hid a1
                  have j1 : (0 : Int) ≤ j := by omega
                  have j2 : (j : Int) < (M.length : Int) := by omega
                  simp only [Option.map_some] at hcell
                  clear a1 hmem hgm
                  go_wp2_with (go_at_call 11; refine (equal_any _ _ _ _ _ (by exact A1.out.keeps ((Keeps.refl NoBlk _).drewN c) (fun _ _ h => h)) (by exact P1.out.keeps ((Keeps.refl NoBlk _).drewN c) (fun _ _ h => h)) (by unfold maxLen; omega) (by have := hpl; unfold maxLen; omega)).mono ?_; rintro e w5 ⟨rfl, c5, rfl⟩; rw [hneq.out])
                  go_roundw
                  case rel => exact ⟨j + 1, _, by omega, by go_num, rfl⟩
                  case measure => simp [intOf]; omega
                · have hjn : j = M.length := by omega
                  subst hjn
                  obtain ⟨W, hW⟩ : ∃ W, W = w4.drewN c := ⟨_, rfl⟩
                  rw [← hW]
                  have I5 : Hid (OnceInv w0.heap.size W bs v' (.slice adm M.length cm) L' M) := by rw [hW]; exact I4.out.keeps ((Keeps.refl NoBlk _).drewN c)
                  have P5 : Hid (IntsAt W (.slice adp (pathN (L'.map Nd.thread)).length capp) (pathN (L'.map Nd.thread))) := by rw [hW]; exact P1.out.keeps ((Keeps.refl NoBlk _).drewN c) (fun _ _ h => h)
                  have B5 : Hid (Below w0.heap.size w0 W) := by rw [hW]; exact below_drewN B4.out c
                  have hsz : Hid (W.heap.size = w4.heap.size) := by rw [hW]; rfl
                  clear hW I4 P1 B4 hlt hgm
                  obtain ⟨i0, hi0, hz0, hz1, hz2⟩ := info_parts infoRow
                  have hrest : Hid (∀ gg cm' w6, w6.ownsRow 0 32 1 (.slice (some ⟨gg, 0, none⟩) (M.length + 1) cm') (M.length + 1) (M.map Prod.fst ++ [.slice adp (pathN (L'.map Nd.thread)).length capp]) → (W.alloc (.cells #[.slice adp (pathN (L'.map Nd.thread)).length capp] 32)).grownBy w6 (Value.slice adm M.length cm).ownBlock → ((Value.slice adm M.length cm).ownBlock = some gg ∨ gg = W.heap.size + 1) → OnceRel w0 bs n (.slice (some ⟨gg, 0, none⟩) (M.length + 1) cm') (k + 1) w6) := by
                    intro gg cm' w6 h1 h2 h3
                    have ka : Keeps NoBlk W (W.alloc (.cells #[.slice adp (pathN (L'.map Nd.thread)).length capp] 32)) := (Keeps.refl _ _).alloc _
                    have I6 := I5.out.keeps ka
                    have hl6 : (W.alloc (.cells #[.slice adp (pathN (L'.map Nd.thread)).length capp] 32)).heap.size = W.heap.size + 1 := by simp
                    have f1 : ∀ k', (Value.slice adp (pathN (L'.map Nd.thread)).length capp).ownBlock = some k' → ¬ OwnS bs v' k' ∧ (Value.slice adm M.length cm).ownBlock ≠ some k' ∧ k' < (W.alloc (.cells #[.slice adp (pathN (L'.map Nd.thread)).length capp] 32)).heap.size := by
                      intro k' e
                      obtain ⟨e1, e2⟩ := P3.out k' e
                      have hs1 := hsz.out
                      refine ⟨fun ho => ?_, fun e' => ?_, by omega⟩
                      · have := OwnS.lt S3.out k' ho; omega
                      · have := M3.out k' e'; omega
                    refine ⟨v', L', M ++ [(_, pathN (L'.map Nd.thread))], I6.push (P5.out.keeps ka (fun _ _ h => h)) hpl rfl f1 h1 h2 ?_ ?_, ?_, by simp; omega⟩
                    · intro k' e
                      simp [Value.ownBlock] at e
                      subst e
                      rcases h3 with h3 | h3
                      · exact .inl h3
                      · exact .inr (by omega)
                    · rw [PP.out]; exact T3.out
                    · exact B5.out.trans ((((Keeps.refl (fun k => (Value.slice adm M.length cm).ownBlock = some k) W).alloc _).grown h2 (fun k e _ => e)).below (fun k _ e => I5.out.row k e) I5.out.base)
                  go_wp2_with (at_builtin; refine wpList_append_lies _ (by rfl) _ _ 26 (by rfl) 0 32 i0 _ 1 24 Tryd.underlying26 hi0 hz0 hz1 hz2 rfl (by decide) (.slice adm M.length cm) M.length (M.map Prod.fst) (by rfl) (by exact I5.out.met.own.alloc _) ⟨W.heap.size, 0, none⟩ 1 1 [.slice adp (pathN (L'.map Nd.thread)).length capp] (by rfl) (by rfl) (World.news_of_block (cs := #[.slice adp (pathN (L'.map Nd.thread)).length capp]) (t := 32) (fr := (0, 0)) (heap_alloc_new W _)) (by simp [Value.oneCell']) (by decide) (by unfold maxLen; omega) (by omega) (Nat.zero_le _) (W.heap.size + 1) (by simp) ?_; intro gg cm' w6 hown6 hgr6 hat6 hlt6; have hR6 := Lib.hid (hrest.out _ _ _ hown6 hgr6 hat6); clear hown6 hgr6 hat6 hlt6)
                  go_roundw
                  case rel => exact ⟨k + 1, by omega, by omega, by go_num, hR6⟩
                  case measure => simp [intOf]; omega
          · have hd1 : (d != 1) = true := by rw [bne_iff_ne]; exact hd
            have T2 := Lib.hid (t2 hne (.inl hd))
            clear t1 t2 t3 hz hd hne
            go_wp2_with (first | (go_at_call 8; go_loud (refine HD.out.mono ?_); go_loud (rintro e w3 ⟨v', rfl, g1, g2, g3⟩); have hB3 : Hid (Below w0.heap.size w0 w3) := (show Below _ _ _ from hBH.out.trans (g2.below (fun k' _ ho => HOwn.out k' ho) HBase.out)); have c0' : w3.cell? ⟨g, o + k * 4, none⟩ = some (.int .i64 d) := ((hB3.out.cell (p := ⟨g, o + k * 4, none⟩) q1).trans c00); have hS3 := Lib.hid g1; have hK3 := Lib.hid g2; have hN3 := Lib.hid g3; clear g1 g2 g3) | (go_at_call 9; refine (stkLen_any _ _ _ _ (by exact hS3.out)).mono ?_; rintro e w' ⟨rfl, rfl⟩))
            go_roundw
            case rel => exact ⟨k + 1, by omega, by omega, by go_num, v', L', M, (HI.out.call hS3.out hK3.out hN3.out T2.out), hB3.out, by omega⟩
            case measure => simp [intOf]; omega
      · have hk400 : k = 400 := by omega
        subst hk400
        clear hI hB
        go_wp2
        go_ret
        exact ⟨rfl, HBL.out⟩
    · have hkn : k = n := by omega
      subst hkn
      clear hI hB hlt
      go_wp2
      go_ret
      exact ⟨rfl, HBL.out⟩
end Go.Proofs.YtjfbiganijldfaaDoor
