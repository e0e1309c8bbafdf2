/- The document's Right. -/
import Derived.Test.YtmkfpkficmmlgaaK29
namespace Go.Proofs.Ytmkfpkficmmlgaa
open Go.RowKit
set_option linter.unusedVariables false
set_option linter.unusedSimpArgs false
set_option linter.unnecessarySimpa false

/-- what the operations ahead of a call of code leave -/
def RrF (b1 gt ot nt tc i : Nat) (iv cv : Value) (r : Bool) (j : Nat) (v : Value) (W : World) : Prop :=
  match j with
  | 0 => v = iv
  | 1 => v = .pointer (some ⟨b1, 2, none⟩)
  | 2 => v = .slice (some ⟨gt, ot, none⟩) nt tc
  | 3 => v = .int .i64 i
  | 4 => v = .pointer (some ⟨gt, ot + i * 2, none⟩)
  | 5 => v = cv
  | 6 => v = .bool r
  | _ => True
theorem RrF.st {b1 gt ot nt tc i : Nat} {iv cv : Value} {r : Bool} (j : Nat) (v : Value) (W W' : World) (h : RrF b1 gt ot nt tc i iv cv r j v W) (_ : Keeps NoBlk W W') : RrF b1 gt ot nt tc i iv cv r j v W' := h

set_option maxRecDepth 20000 in
set_option maxHeartbeats 4000000 in
theorem refRight_any (w : World) (cv tv : Value) (x : Img) (h : ImgR w cv tv x) :
    Calls Try.prog 18 #[imgV cv tv x] w fun e w' => e = .returned (.bool (rightN x)) ∧ Keeps NoBlk w w' := by
  have HI := Lib.hid h
  obtain ⟨ca, cc, rfl, _⟩ := h.cells.ints
  obtain ⟨ta, tc, rfl, _⟩ := h.thr
  unfold imgV
  obtain ⟨nc, hnc⟩ : ∃ n, n = x.cells.length := ⟨_, rfl⟩
  obtain ⟨nt, hnt⟩ : ∃ n, n = x.threads.length := ⟨_, rfl⟩
  obtain ⟨mu, hmu⟩ : ∃ n, n = x.mutexes := ⟨_, rfl⟩
  have HE : Hid (nc = x.cells.length ∧ nt = x.threads.length ∧ mu = x.mutexes) := ⟨hnc, hnt, hmu⟩
  have HFT : Hid (∀ W rg u (c' : Cod), rg = c'.regs → SrcAt W u c'.ins.length (insCells c'.ins) → Calls Try.prog 41 #[.agg #[.slice ca nc cc, .int .i64 mu, .slice ta nt tc], .agg #[.int .i64 rg, u]] W fun e w' => e = .returned (.bool (codN x c')) ∧ Keeps NoBlk W w') := by
    rintro W rg u c' rfl hs
    rw [hnc, hnt, hmu]
    exact rcode_any W ca ta cc tc x c' u hs
  rw [← hnc, ← hnt] at HI
  rw [← hnc, ← hnt, ← hmu]
  obtain ⟨R, hR⟩ : ∃ R, R = rightN x := ⟨_, rfl⟩
  rw [← hR]
  have HR : Hid (R = rightN x) := hR
  have HBAD : Hid (¬ (1 ≤ nt ∧ nt ≤ 8 ∧ nc ≤ 8 ∧ 0 ≤ mu ∧ mu ≤ 8) → R = false) := fun h => by rw [hR]; rw [hnc, hnt, hmu] at h; exact right_false h
  clear h hnc hnt hmu hR
  by_cases h0 : nt < 1
  · have q0 : decide ((nt : Int) < 1) = true := decide_eq_true (by omega)
    have HB : Hid (R = false) := HBAD.out (by omega)
    clear h0
    clear HBAD
    go_enter Try.func18, Try.ntmps18
    go_wp2_with fail
    go_ret
    exact ⟨congrArg (fun b => Ending.returned (.bool b)) HB.out.symm, (Keeps.refl _ _).alloc _⟩
  by_cases h1 : 8 < nt
  · have q0 : decide ((nt : Int) < 1) = false := decide_eq_false (by omega)
    have q1 : decide ((8 : Int) < nt) = true := decide_eq_true (by omega)
    have HB : Hid (R = false) := HBAD.out (by omega)
    clear h0 h1
    clear HBAD
    go_enter Try.func18, Try.ntmps18
    go_wp2_with fail
    go_ret
    exact ⟨congrArg (fun b => Ending.returned (.bool b)) HB.out.symm, (Keeps.refl _ _).alloc _⟩
  by_cases h2 : 8 < nc
  · have q0 : decide ((nt : Int) < 1) = false := decide_eq_false (by omega)
    have q1 : decide ((8 : Int) < nt) = false := decide_eq_false (by omega)
    have q2 : decide ((8 : Int) < nc) = true := decide_eq_true (by omega)
    have HB : Hid (R = false) := HBAD.out (by omega)
    clear h0 h1 h2
    clear HBAD
    go_enter Try.func18, Try.ntmps18
    go_wp2_with fail
    go_ret
    exact ⟨congrArg (fun b => Ending.returned (.bool b)) HB.out.symm, (Keeps.refl _ _).alloc _⟩
  by_cases h3 : mu < 0
  · have q0 : decide ((nt : Int) < 1) = false := decide_eq_false (by omega)
    have q1 : decide ((8 : Int) < nt) = false := decide_eq_false (by omega)
    have q2 : decide ((8 : Int) < nc) = false := decide_eq_false (by omega)
    have q3 : decide (mu < 0) = true := decide_eq_true (by omega)
    have HB : Hid (R = false) := HBAD.out (by omega)
    clear h0 h1 h2 h3
    clear HBAD
    go_enter Try.func18, Try.ntmps18
    go_wp2_with fail
    go_ret
    exact ⟨congrArg (fun b => Ending.returned (.bool b)) HB.out.symm, (Keeps.refl _ _).alloc _⟩
  by_cases h4 : 8 < mu
  · have q0 : decide ((nt : Int) < 1) = false := decide_eq_false (by omega)
    have q1 : decide ((8 : Int) < nt) = false := decide_eq_false (by omega)
    have q2 : decide ((8 : Int) < nc) = false := decide_eq_false (by omega)
    have q3 : decide (mu < 0) = false := decide_eq_false (by omega)
    have q4 : decide (8 < mu) = true := decide_eq_true (by omega)
    have HB : Hid (R = false) := HBAD.out (by omega)
    clear h0 h1 h2 h3 h4
    clear HBAD
    go_enter Try.func18, Try.ntmps18
    go_wp2_with fail
    go_ret
    exact ⟨congrArg (fun b => Ending.returned (.bool b)) HB.out.symm, (Keeps.refl _ _).alloc _⟩
  have q0 : decide ((nt : Int) < 1) = false := decide_eq_false (by omega)
  have q1 : decide ((8 : Int) < nt) = false := decide_eq_false (by omega)
  have q2 : decide ((8 : Int) < nc) = false := decide_eq_false (by omega)
  have q3 : decide (mu < 0) = false := decide_eq_false (by omega)
  have q4 : decide (8 < mu) = false := decide_eq_false (by omega)
  have n1 : 1 ≤ nt := by omega
  have n2 : nt ≤ 8 := by omega
  have n3 : nc ≤ 8 := by omega
  have HOK : Hid ((∀ j, j < nc → numN' (x.cells.getD j 0) = true) → (∀ i, i < nt → codN x (x.cod i) = true) → R = true) := fun a b => by
    obtain ⟨e1, e2, e3⟩ := HE.out
    rw [HR.out]
    exact right_true (by omega) (by omega) (by omega) (by omega) (by omega) (by rw [← e1]; exact a) (by rw [← e2]; exact b)
  have HBC : Hid (∀ j, j < nc → numN' (x.cells.getD j 0) = false → R = false) := fun j hj h => by rw [HR.out]; exact right_cell (by rw [← HE.out.1]; exact hj) h
  have HBT : Hid (∀ j, j < nt → codN x (x.cod j) = false → R = false) := fun j hj h => by rw [HR.out]; exact right_thr (by rw [← HE.out.2.1]; exact hj) h
  clear h0 h1 h2 h3 h4 HBAD
  go_enter Try.func18, Try.ntmps18
  go_upto_region 3 with fail
  obtain ⟨bi, hbi⟩ : ∃ z, z = w.heap.size := ⟨_, rfl⟩
  have hrow : RowAt (w.alloc (.cells #[.slice ca nc cc, .int .i64 mu, .slice ta nt tc] 25)) bi [.slice ca nc cc, .int .i64 mu, .slice ta nt tc] := by rw [hbi]; exact RowAt.ofBlock (heap_alloc_new w _)
  have hk0 : Keeps NoBlk w (w.alloc (.cells #[.slice ca nc cc, .int .i64 mu, .slice ta nt tc] 25)) := (Keeps.refl _ _).alloc _
  rw [← hbi]
  generalize w.alloc (.cells #[.slice ca nc cc, .int .i64 mu, .slice ta nt tc] 25) = w0 at hrow hk0 ⊢
  have HROW := Lib.hid hrow
  have HK0 := Lib.hid hk0
  clear hrow hk0 hbi
  go_wp2_with fail
  go_loopw [3] (fun kv wr => ∃ k : Nat, k ≤ nc ∧ kv = .int .i64 k ∧ Hid (∀ j, j < k → numN' (x.cells.getD j 0) = true) ∧ Hid (Keeps NoBlk w0 wr)) (fun kv _ => nc - (intOf kv).toNat)
  case atStart => exact ⟨0, Nat.zero_le _, rfl, fun j hj => absurd hj (Nat.not_lt_zero _), Keeps.refl _ _⟩
  case round =>
    obtain ⟨k, hk, rfl, hag, hkp⟩ := hrel
    have HKW : Hid (Keeps NoBlk w wr) := HK0.out.trans0 hkp.out
    have z0 := (HROW.out.keeps hkp.out (fun h => h)).cell (k := 0) (v := .slice ca nc cc) rfl
    by_cases hlt : k < nc
    · have i1 : (0 : Int) ≤ k := by omega
      have i2 : (k : Int) < nc := by omega
      obtain ⟨ad, cap, e1, f1⟩ := (HI.out.keeps0 HKW.out).cells.ints
      obtain ⟨g, o, e2, c0⟩ := f1 k (by rw [← HE.out.1]; exact hlt)
      have HN2 : Hid (numN' (x.cells.getD k 0) = true → ∀ j, j < k + 1 → numN' (x.cells.getD j 0) = true) := fun h j hj => by
        by_cases e : j = k
        · subst e; exact h
        · exact hag.out j (by omega)
      have HB2 : Hid (numN' (x.cells.getD k 0) = false → R = false) := fun h => HBC.out k hlt h
      cases e1
      subst e2
      generalize x.cells.getD k 0 = num at c0 HN2 HB2
      clear f1 hag hk
      by_cases v1 : num < -2147483647
      · have d1 : decide (num < -2147483647) = true := decide_eq_true v1
        have HB : Hid (R = false) := HB2.out (by simp [numN']; omega)
        clear HN2 HB2 v1
        go_wp2_with fail
        go_ret
        exact ⟨congrArg (fun b => Ending.returned (.bool b)) HB.out.symm, HKW.out⟩
      have d1 : decide (num < -2147483647) = false := decide_eq_false v1
      by_cases v2 : 2147483647 < num
      · have d2 : decide (2147483647 < num) = true := decide_eq_true v2
        have HB : Hid (R = false) := HB2.out (by simp [numN']; omega)
        clear HN2 HB2 v1 v2
        go_wp2_with fail
        go_ret
        exact ⟨congrArg (fun b => Ending.returned (.bool b)) HB.out.symm, HKW.out⟩
      have d2 : decide (2147483647 < num) = false := decide_eq_false v2
      have HN3 := Lib.hid (HN2.out (by simp [numN']; omega))
      clear HN2 HB2 v1 v2
      go_wp2_with fail
      exact ⟨⟨k + 1, by omega, by go_num, HN3.out, hkp.out⟩, by simp [intOf]; omega⟩
    · have hkn : nc = k := by omega
      subst hkn
      have HCELLS := hag
      have HKP : Hid (Keeps NoBlk w wr) := HKW
      have HR0 : Hid (RowAt wr bi [.slice ca nc cc, .int .i64 mu, .slice ta nt tc]) := HROW.out.keeps hkp.out (fun h => h)
      clear hlt hk hag HKW HROW
      go_wp2_with fail
      go_loopw [4] (fun kv w2 => ∃ i : Nat, i ≤ nt ∧ kv = .int .i64 i ∧ Hid (∀ j, j < i → codN x (x.cod j) = true) ∧ Hid (Keeps NoBlk wr w2)) (fun kv _ => nt - (intOf kv).toNat)
      case atStart => exact ⟨0, Nat.zero_le _, rfl, fun j hj => absurd hj (Nat.not_lt_zero _), Keeps.refl _ _⟩
      case round =>
        obtain ⟨i, hi, rfl, hag, hkp2⟩ := hrel
        have HKW : Hid (Keeps NoBlk w wr) := HKP.out.trans0 hkp2.out
        have HRI : Hid (RowAt wr bi [.slice ca nc cc, .int .i64 mu, .slice ta nt tc]) := HR0.out.keeps hkp2.out (fun h => h)
        have z2 := HRI.out.cell (k := 2) (v := .slice ta nt tc) rfl
        by_cases hlt : i < nt
        · have i1 : (0 : Int) ≤ i := by omega
          have i2 : (i : Int) < nt := by omega
          obtain ⟨ad, cap, e1, f1⟩ := (HI.out.keeps0 HKW.out).thr
          obtain ⟨g, o, u, e2, c0, c1, hsrc⟩ := f1 i (by rw [← HE.out.2.1]; exact hlt)
          obtain ⟨c, hc⟩ : ∃ c, c = x.threads.getD i ⟨0, []⟩ := ⟨_, rfl⟩
          have hc' : x.cod i = c := hc.symm
          rw [← hc] at c0 hsrc
          have HN2 : Hid (codN x c = true → ∀ j, j < i + 1 → codN x (x.cod j) = true) := fun h j hj => by
            by_cases e : j = i
            · subst e; rw [hc']; exact h
            · exact hag.out j (by omega)
          have HB2 : Hid (codN x c = false → R = false) := fun h => HBT.out i hlt (by rw [hc']; exact h)
          have hta : ta = ad := by cases e1; rfl
          subst hta
          subst e2
          obtain ⟨ua, un, uc, hu⟩ : ∃ a n c, u = .slice a n c := by obtain ⟨a, q, e, _⟩ := hsrc; exact ⟨a, _, q, e⟩
          subst hu
          obtain ⟨rg, hrg⟩ : ∃ q, q = c.regs := ⟨_, rfl⟩
          have HRG : Hid (rg = c.regs) := hrg
          rw [← hrg] at c0
          have HS := Lib.hid hsrc
          have HC0 := Lib.hid c0
          have HC1 := Lib.hid c1
          have HF : Hid (∀ W, Keeps NoBlk wr W → Calls Try.prog 41 #[.agg #[.slice ca nc cc, .int .i64 mu, .slice (some ⟨g, o, none⟩) nt tc], .agg #[.int .i64 rg, .slice ua un uc]] W fun e w' => e = .returned (.bool (codN x c)) ∧ Keeps NoBlk W w') := fun W hk => HFT.out W rg _ c HRG.out (HS.out.keeps0 hk)
          clear f1 hag hi hc hc' hsrc hrg e1
          generalize codN x c = rr at HF HN2 HB2
          go_upto_region 11 with fail
          clear z2 c0 c1
          refine wp_region_table 7 (by kernel_rfl) (by kernel_rfl) (Keeps NoBlk) (Keeps.refl NoBlk) (fun a b c h h' => Keeps.trans0 h h') (RrF bi g o nt tc i (.agg #[.slice ca nc cc, .int .i64 mu, .slice (some ⟨g, o, none⟩) nt tc]) (.agg #[.int .i64 rg, .slice ua un uc]) rr) RrF.st ?_ ?_
          · intro j o' hi ho vs W Q' hR hd hK
            have HR' : Keeps NoBlk wr W := ((Keeps.refl NoBlk wr).drew).trans0 hR
            have x0 := (HRI.out.keeps HR' (fun h => h)).cell (k := 0) (v := .slice ca nc cc) rfl
            have x1 := (HRI.out.keeps HR' (fun h => h)).cell (k := 1) (v := .int .i64 mu) rfl
            have x2 := (HRI.out.keeps HR' (fun h => h)).cell (k := 2) (v := .slice (some ⟨g, o, none⟩) nt tc) rfl
            have y0 := HR'.cell (p := ⟨g, _, none⟩) (fun h => h) HC0.out
            have y1 := HR'.cell (p := ⟨g, _, none⟩) (fun h => h) HC1.out
            rcases (show j = 0 ∨ j = 1 ∨ j = 2 ∨ j = 3 ∨ j = 4 ∨ j = 5 ∨ j = 6 by omega) with rfl | rfl | rfl | rfl | rfl | rfl | rfl
            all_goals (simp only [List.getElem?_cons_zero, List.getElem?_cons_succ, Option.some.injEq] at ho; subst ho; simp only [putsTo, List.getElem?_cons_zero, List.getElem?_cons_succ, Option.bind_some, Option.bind, Act.put, List.setIfInBounds_toArray, List.set_cons_zero, List.set_cons_succ] at hK ⊢; clear hi)
            · clear hd
              go_wp2_with fail
              exact hK _ _ (Keeps.refl _ _) rfl
            · clear hd
              go_wp2_with fail
              exact hK _ _ (Keeps.refl _ _) rfl
            · have e1 : vs 1 = _ := hd 1 (by kernel_rfl)
              rw [e1] at hK ⊢
              clear hd
              go_wp2_with fail
              exact hK _ _ (Keeps.refl _ _) rfl
            · clear hd
              go_wp2_with fail
              exact hK _ _ (Keeps.refl _ _) rfl
            · have e2 : vs 2 = _ := hd 2 (by kernel_rfl)
              have e3 : vs 3 = _ := hd 3 (by kernel_rfl)
              rw [e2, e3] at hK ⊢
              clear hd
              go_wp2_with fail
              exact hK _ _ (Keeps.refl _ _) rfl
            · have e4 : vs 4 = _ := hd 4 (by kernel_rfl)
              rw [e4] at hK ⊢
              clear hd
              go_wp2_with fail
              exact hK _ _ (Keeps.refl _ _) rfl
            · have e0 : vs 0 = _ := hd 0 (by kernel_rfl)
              have e5 : vs 5 = _ := hd 5 (by kernel_rfl)
              rw [e0, e5] at hK ⊢
              clear hd
              go_wp2_with (go_at_call 41; refine (HF.out _ HR').mono ?_; rintro e W1 ⟨rfl, g1⟩)
              exact hK _ _ g1 rfl
          intro vs wA hR hF
          have KA : Hid (Keeps NoBlk wr wA) := ((Keeps.refl NoBlk wr).drew).trans0 hR
          have e6 : vs 6 = _ := hF 6 (by decide)
          simp only [putsTo, List.getElem?_cons_zero, List.getElem?_cons_succ, Option.bind_some, Option.bind, Act.put, List.setIfInBounds_toArray, List.set_cons_zero, List.set_cons_succ, List.drop_succ_cons, List.drop_zero]
          rw [e6]
          clear hF e6
          generalize vs 0 = yy0
          generalize vs 1 = yy1
          generalize vs 2 = yy2
          generalize vs 3 = yy3
          generalize vs 4 = yy4
          generalize vs 5 = yy5
          clear hR vs
          cases rr
          · have HB : Hid (R = false) := HB2.out rfl
            clear HN2 HB2
            go_wp2_with fail
            go_ret
            exact ⟨congrArg (fun b => Ending.returned (.bool b)) HB.out.symm, HKW.out.trans0 KA.out⟩
          · have HN4 := Lib.hid (HN2.out rfl)
            clear HN2 HB2
            go_wp2_with fail
            exact ⟨⟨i + 1, by omega, by go_num, HN4.out, hkp2.out.trans0 KA.out⟩, by simp [intOf]; omega⟩
        · have hin : nt = i := by omega
          subst hin
          clear hlt hi
          have HT : Hid (R = true) := HOK.out HCELLS.out hag.out
          go_wp2_with fail
          go_ret
          exact ⟨congrArg (fun b => Ending.returned (.bool b)) HT.out.symm, HKW.out⟩
end Go.Proofs.Ytmkfpkficmmlgaa

/- Tags grow: a machine that is being made. -/
namespace Go.Proofs.Ytmkfpkficmmlgaa
open Go.RowKit
set_option linter.unusedVariables false
set_option linter.unusedSimpArgs false
set_option linter.unnecessarySimpa false

/-- a value's block is tagged so -/
def tagV (T : Tags) (id : Nat) (t : Tg) (v : Value) : Tags := fun q => if v.ownBlock = some q then some (id, t) else T q
/-- more tags, all of this machine's -/
def ExtI (T T' : Tags) (id : Nat) (w : World) : Prop := Ext T T' ∧ ∀ k y, T' k = some y → T k = some y ∨ (w.heap.size ≤ k ∧ y.1 = id)
theorem ExtI.refl (T : Tags) (id : Nat) (w : World) : ExtI T T id w := ⟨Ext.refl T, fun _ _ h => .inl h⟩
theorem ExtI.trans {T1 T2 T3 : Tags} {id : Nat} {w : World} (h : ExtI T1 T2 id w) (h' : ExtI T2 T3 id w) : ExtI T1 T3 id w :=
  ⟨h.1.trans h'.1, fun k y e => by
    rcases h'.2 k y e with h1 | h1
    · exact h.2 k y h1
    · exact .inr h1⟩
theorem ExtI.later {T T' : Tags} {id : Nat} {w w' : World} (h : ExtI T T' id w') (hs : w.heap.size ≤ w'.heap.size) : ExtI T T' id w :=
  ⟨h.1, fun k y e => (h.2 k y e).imp _root_.id (fun h => ⟨Nat.le_trans hs h.1, h.2⟩)⟩
theorem ExtI.ofN {T T' : Tags} {id : Nat} {w : World} (h : ExtN T T' id w) : ExtI T T' id w := ⟨h.1, fun k y e => (h.2 k y e).imp _root_.id (fun h => ⟨h.1, h.2.1⟩)⟩
/-- the block is either tagged so already, or new -/
def NewTag (T : Tags) (id : Nat) (t : Tg) (v : Value) (B : Nat) : Prop := ∀ kb, v.ownBlock = some kb → T kb = some (id, t) ∨ (T kb = none ∧ B ≤ kb)
theorem tagV_ext {T : Tags} {id : Nat} {t : Tg} {v : Value} {w : World} (h : NewTag T id t v w.heap.size) : ExtI T (tagV T id t v) id w := by
  constructor
  · intro k y e
    unfold tagV
    by_cases hk : v.ownBlock = some k
    · rw [if_pos hk]
      rcases h k hk with h1 | h1
      · rw [← e, h1]
      · rw [h1.1] at e; cases e
    · rw [if_neg hk]; exact e
  · intro k y e
    unfold tagV at e
    by_cases hk : v.ownBlock = some k
    · rw [if_pos hk] at e
      cases e
      rcases h k hk with h1 | h1
      · exact .inl h1
      · exact .inr ⟨h1.2, rfl⟩
    · rw [if_neg hk] at e
      exact .inl e
theorem tagV_own {T : Tags} {id : Nat} {t : Tg} {v : Value} {kb : Nat} (h : v.ownBlock = some kb) : tagV T id t v kb = some (id, t) := if_pos h
theorem tagV_ok {T : Tags} {id : Nat} {t : Tg} {v : Value} {w : World} (hok : TOk T w) (hv : ∀ kb, v.ownBlock = some kb → kb < w.heap.size) : TOk (tagV T id t v) w := by
  intro k y e
  unfold tagV at e
  by_cases hk : v.ownBlock = some k
  · exact hv k hk
  · rw [if_neg hk] at e; exact hok k y e
theorem TOk.keeps {T : Tags} {S : Nat → Prop} {w w' : World} (h : TOk T w) (hk : Keeps S w w') : TOk T w' := fun k y e => Nat.lt_of_lt_of_le (h k y e) hk.size
theorem TOk.free {T : Tags} {w : World} (h : TOk T w) {z : Nat} (hz : w.heap.size ≤ z) : T z = none := by
  cases e : T z with
  | none => rfl
  | some y => exact absurd (h z y e) (Nat.not_lt.2 hz)
theorem IRow.nil (w : World) (T : Tags) (id : Nat) (t : Tg) : IRow w T id t nilV [] := ⟨none, 0, rfl, fun h => absurd rfl h⟩
/-- an owned row of ints, tagged -/
theorem IRow.of {w : World} {T : Tags} {id : Nat} {t : Tg} {v : Value} {xs : List Int} {B : Nat} (h : FRow w B v xs.length (ints xs)) (hT : ∀ kb, v.ownBlock = some kb → T kb = some (id, t)) : IRow w T id t v xs := by
  obtain ⟨ad, cap, rfl, _, _, h1⟩ := h
  refine ⟨ad, cap, rfl, fun hn => ?_⟩
  obtain ⟨g, rfl, _, hr⟩ := h1 (by simpa using hn)
  exact ⟨g, rfl, hT g rfl, hr⟩
/-- a frame not yet begun -/
def idleF (rv : Value) : HFr := ⟨1, rv, 0⟩
end Go.Proofs.Ytmkfpkficmmlgaa
