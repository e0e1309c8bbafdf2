/- VmPlays: the walk. -/
import Derived.Test.YtmkfpkficmmlgaaK39
namespace Go.Proofs.Ytmkfpkficmmlgaa
open Go.RowKit
set_option linter.unusedVariables false
set_option linter.unusedSimpArgs false
set_option linter.unnecessarySimpa false

/-- all that is there at first is read alone -/
def baseT (w : World) : Tags := fun k => if k < w.heap.size then some (0, .code) else none
theorem baseT_ok (w : World) : TOk (baseT w) w := fun k y e => by
  unfold baseT at e
  split at e
  · assumption
  · cases e
theorem baseT_id {w : World} {k : Nat} {y : Nat × Tg} (e : baseT w k = some y) : y = (0, .code) := by
  unfold baseT at e
  split at e
  · cases e; rfl
  · cases e
theorem baseT_cd {w : World} {k : Nat} (h : k < w.heap.size) : Cd (baseT w) k := ⟨0, if_pos h⟩
theorem InsAt.base {w : World} {v : Value} {l : List Ins} (h : SrcAt w v l.length (insCells l)) : InsAt w (baseT w) v l := by
  obtain ⟨ad, cap, e, h1⟩ := h.inss
  refine ⟨ad, cap, e, fun k hk => ?_⟩
  obtain ⟨g, o, e1, c0, c1, c2, c3⟩ := h1 k hk
  exact ⟨g, o, e1, baseT_cd (World.block_lt_of_cell? w _ c0), c0, c1, c2, c3⟩
theorem ThrAt.base {w : World} {v : Value} {cs : List Cod} (h : ThrR w v cs) : ThrAt w (baseT w) v cs := by
  obtain ⟨ad, cap, e, h1⟩ := h
  refine ⟨ad, cap, e, fun i hi => ?_⟩
  obtain ⟨g, o, u, e1, c0, c1, h2⟩ := h1 i hi
  exact ⟨g, o, u, e1, baseT_cd (World.block_lt_of_cell? w _ c0), c0, c1, InsAt.base h2⟩

/-- what the operations ahead of pick's answer leave -/
def VpF (rv : Value) (ra : Addr) (i : Nat) (r : Int) (b2 : Nat) (es : List Int) (j : Nat) (v : Value) (W : World) : Prop :=
  match j with
  | 0 => v = rv
  | 1 => v = .int .i64 i
  | 2 => v = .pointer (some ra)
  | 3 => v = .int .i64 r
  | 4 => v = .pointer (some ⟨b2, 0, none⟩)
  | 5 => (∃ ad cap, v = .slice ad es.length cap) ∧ SrcAt W v es.length (ints es)
  | 6 => v = .int .i64 (pickN r es)
  | _ => True
theorem VpF.st {rv : Value} {ra : Addr} {i : Nat} {r : Int} {b2 : Nat} {es : List Int} (j : Nat) (v : Value) (W W' : World) (h : VpF rv ra i r b2 es j v W) (hk : Keeps NoBlk W W') : VpF rv ra i r b2 es j v W' := by
  unfold VpF at *
  split at h
  case h_6 => exact ⟨h.1, h.2.keeps0 hk⟩
  all_goals first | exact h | trivial
/-- two machines that go on alike -/
structure Pair (w wr : World) (T : Tags) (b1 gf1 cf1 b2 gf2 cf2 : Nat) (x : Img) (m : Mach) : Prop where
  vm : VmAt wr T 2 b1 gf1 cf1 x m
  rm : RmAt wr T 1 b2 gf2 cf2 x m
  good : VGood x m
  zero : VZero x m
  new : ∀ k y, T k = some y → (y = (0, .code)) ∨ w.heap.size ≤ k
  keep : Keeps NoBlk w wr
theorem Pair.keeps0 {w wr W : World} {T : Tags} {b1 gf1 cf1 b2 gf2 cf2 : Nat} {x : Img} {m : Mach} (h : Pair w wr T b1 gf1 cf1 b2 gf2 cf2 x m) (hk : Keeps NoBlk wr W) : Pair w W T b1 gf1 cf1 b2 gf2 cf2 x m :=
  ⟨h.vm.keeps hk (fun _ _ h => h), h.rm.keeps hk (fun _ _ h => h), h.good, h.zero, h.new, h.keep.trans0 hk⟩
theorem own_new {w wr : World} {T : Tags} {b1 gf1 cf1 b2 gf2 cf2 : Nat} {x : Img} {m : Mach} (h : Pair w wr T b1 gf1 cf1 b2 gf2 cf2 x m) {id k : Nat} (hk : Own T id k) : w.heap.size ≤ k := by
  obtain ⟨t, e, ht⟩ := hk
  rcases h.new k _ e with h1 | h1
  · cases h1; exact absurd rfl ht
  · exact h1
theorem own_other {T : Tags} {i j k : Nat} (hij : i ≠ j) (h : Cd T k ∨ Own T i k) : ¬ Own T j k := by
  rintro ⟨t, e, ht⟩
  rcases h with ⟨i', e'⟩ | ⟨t', e', _⟩
  · rw [e] at e'; cases e'; exact ht rfl
  · rw [e] at e'; cases e'; exact hij rfl

set_option maxRecDepth 8000 in
set_option maxHeartbeats 4000000 in
theorem vmplays_any (w : World) (cv tv rv : Value) (x : Img) (rs : List Int) (h : ImgR w cv tv x) (hsz : SizeOk x) (hrow : SrcAt w rv rs.length (ints rs)) :
    Calls Try.prog 3 #[imgV cv tv x, rv] w fun e w' => e = .returned (.bool true) ∧ Keeps NoBlk w w' := by
  have HI := Lib.hid h
  have HROW := Lib.hid hrow
  obtain ⟨ca, cc, rfl, _⟩ := h.cells.ints
  obtain ⟨ta, tc, rfl, _⟩ := h.thr
  obtain ⟨ra, rc, rfl, _⟩ := hrow.ints
  unfold imgV
  have HT : Hid (ThrAt w (baseT w) (.slice ta x.threads.length tc) x.threads) := ThrAt.base h.thr
  have HSZ := Lib.hid hsz
  obtain ⟨nc, hnc⟩ : ∃ n, n = x.cells.length := ⟨_, rfl⟩
  obtain ⟨nt, hnt⟩ : ∃ n, n = x.threads.length := ⟨_, rfl⟩
  obtain ⟨mu, hmu⟩ : ∃ n, n = x.mutexes := ⟨_, rfl⟩
  obtain ⟨nr, hnr⟩ : ∃ n, n = rs.length := ⟨_, rfl⟩
  have HE : Hid (nc = x.cells.length ∧ nt = x.threads.length ∧ mu = x.mutexes ∧ nr = rs.length) := ⟨hnc, hnt, hmu, hnr⟩
  rw [← hnc, ← hnt] at HI
  rw [← hnt] at HT
  rw [← hnr] at HROW
  rw [← hnc, ← hnt, ← hmu, ← hnr]
  have HCP : Hid (∀ W T, Keeps NoBlk w W → TOk T W → Calls Try.prog 7 #[.agg #[.slice ca nc cc, .int .i64 mu, .slice ta nt tc]] W fun e w' => ∃ ca cn cc ta tn tc T', e = .returned (.agg #[.slice ca cn cc, .int .i64 mu, .slice ta tn tc]) ∧ OwnImg w' T' 3 (.slice ca cn cc) (.slice ta tn tc) x ∧ ExtI T T' 3 W ∧ Keeps NoBlk W w') := fun W T hk hok => by
    rw [hmu]
    exact copied_any W T 3 _ _ x (HI.out.keeps0 hk) hok hsz
  by_cases hright : rightN x = true
  · have HRT := Lib.hid hright
    have HRN : Hid (∀ W, Keeps NoBlk w W → Calls Try.prog 6 #[.agg #[.slice ca nc cc, .int .i64 mu, .slice ta nt tc]] W fun e w' => ∃ b gf cf T', e = .returned (.tuple #[.pointer (some ⟨b, 0, none⟩), .int .i64 0]) ∧ RmAt w' T' 1 b gf cf x (newN x) ∧ ExtI (baseT w) T' 1 W ∧ Keeps NoBlk W w') := fun W hk => by
      rw [hmu]
      exact rnew_ok W (baseT w) 1 _ _ x (HI.out.keeps0 hk) hright ((baseT_ok w).keeps hk) (fun k y e he => by rw [baseT_id e]) (HT.out.keeps hk (fun _ _ h => h))
    have HVN : Hid (∀ W T c t, ImgR W c t x → TOk T W → (∀ k y, T k = some y → y.1 ≠ 2) → Calls Try.prog 8 #[.agg #[c, .int .i64 mu, t]] W fun e w' => ∃ b gf cf T', e = .returned (.tuple #[.pointer (some ⟨b, 0, none⟩), .int .i64 0]) ∧ VmAt w' T' 2 b gf cf x (newN x) ∧ ExtI T T' 2 W ∧ Keeps NoBlk W w') := fun W T c t hi hok hid => by
      rw [hmu]
      exact vnew_ok W T 2 c t x hi hright hok hid
    have HSP : Hid (∀ W T ca cn cc ta tn tc, OwnImg W T 3 (.slice ca cn cc) (.slice ta tn tc) x → Calls Try.prog 9 #[.agg #[.slice ca cn cc, .int .i64 mu, .slice ta tn tc]] W fun e w' => e = .returned (.tuple #[]) ∧ Keeps (Own T 3) W w') := fun W T ca cn cc ta tn tc ho => by
      rw [hmu]
      exact spoil_any W T 3 ca ta cn cc tn tc x ho hright
    clear h hsz hrow hnc hnt hmu hnr hright
    go_enter Try.func3, Try.ntmps3
    go_upto_region 2 with (go_at_call 5; refine (shown_any _).mono ?_; rintro e w1 ⟨rfl, hk⟩; have K1 := Lib.hid hk; clear hk)
    obtain ⟨bx, hbx⟩ : ∃ z, z = w.heap.size := ⟨_, rfl⟩
    have HX : Hid (RowAt w1 bx [.slice ca nc cc, .int .i64 mu, .slice ta nt tc]) := by show RowAt _ _ _; rw [hbx]; exact (RowAt.ofBlock (heap_alloc_new w _)).keeps K1.out (fun h => h)
    have KW1 : Hid (Keeps NoBlk w w1) := ((Keeps.refl _ _).alloc _).trans0 K1.out
    rw [← hbx]
    have x0 := HX.out.cell (k := 0) (v := .slice ca nc cc) rfl
    have x1 := HX.out.cell (k := 1) (v := .int .i64 mu) rfl
    have x2 := HX.out.cell (k := 2) (v := .slice ta nt tc) rfl
    clear hbx K1
    go_upto_region 3 with (go_at_call 6; refine (HRN.out _ KW1.out).mono ?_; rintro e w2 ⟨b2, gf2, cf2, T1, rfl, hrm, hx1, hk⟩; have HRM := Lib.hid hrm; have HX1 := Lib.hid hx1; have K2 := Lib.hid hk; clear hrm hx1 hk)
    have HX2 := Lib.hid (HX.out.keeps K2.out (fun h => h))
    have KW2 : Hid (Keeps NoBlk w w2) := KW1.out.trans0 K2.out
    clear x0 x1 x2 HRN
    have x0 := HX2.out.cell (k := 0) (v := .slice ca nc cc) rfl
    have x1 := HX2.out.cell (k := 1) (v := .int .i64 mu) rfl
    have x2 := HX2.out.cell (k := 2) (v := .slice ta nt tc) rfl
    go_upto_region 4 with (go_at_call 7; refine (HCP.out _ T1 KW2.out HRM.out.ok).mono ?_; rintro e w3 ⟨oa, on, oc, pa, pn, pc, T2, rfl, ho, hx2, hk⟩; have HO := Lib.hid ho; have HX2' := Lib.hid hx2; have K3 := Lib.hid hk; clear ho hx2 hk)
    obtain ⟨y, hy⟩ : ∃ z, z = w3.heap.size := ⟨_, rfl⟩
    have hry : RowAt (w3.alloc (.cells #[.slice oa on oc, .int .i64 mu, .slice pa pn pc] 25)) y [.slice oa on oc, .int .i64 mu, .slice pa pn pc] := by rw [hy]; exact RowAt.ofBlock (heap_alloc_new w3 _)
    have hky : Keeps NoBlk w3 (w3.alloc (.cells #[.slice oa on oc, .int .i64 mu, .slice pa pn pc] 25)) := (Keeps.refl _ _).alloc _
    rw [← hy]
    generalize w3.alloc (.cells #[.slice oa on oc, .int .i64 mu, .slice pa pn pc] 25) = w4 at hry hky ⊢
    have RY := Lib.hid hry
    have K4 : Hid (Keeps NoBlk w2 w4) := K3.out.trans0 hky
    have HO4 := Lib.hid (HO.out.keeps0 hky)
    have HVN2 := Lib.hid (HVN.out w4 T2 _ _ HO4.out.read HO4.out.tok (fun k z e => by
      rcases HX2'.out.2 k z e with h1 | h1
      · rcases HX1.out.2 k z h1 with h2 | h2
        · rw [baseT_id h2]; decide
        · rw [h2.2]; decide
      · rw [h1.2]; decide))
    have z0 := hry.cell (k := 0) (v := .slice oa on oc) rfl
    have z1 := hry.cell (k := 1) (v := .int .i64 mu) rfl
    have z2 := hry.cell (k := 2) (v := .slice pa pn pc) rfl
    clear hry hky hy x0 x1 x2 HVN HCP HX HX2 HO
    go_upto_region 9 with (go_at_call 8; refine HVN2.out.mono ?_; rintro e w5 ⟨b1, gf1, cf1, T3, rfl, hvm, hx3, hk⟩; have HVM := Lib.hid hvm; have HX3 := Lib.hid hx3; have K5 := Lib.hid hk; clear hvm hx3 hk)
    have HE13 : Hid (Ext T1 T3) := HX2'.out.1.trans HX3.out.1
    have HRM5 : Hid (RmAt w5 T3 1 b2 gf2 cf2 x (newN x)) := ((HRM.out.keeps K4.out (fun _ _ h => h)).keeps K5.out (fun _ _ h => h)).ext HE13.out HVM.out.ok
    have KW5 : Hid (Keeps NoBlk w w5) := (KW2.out.trans0 K4.out).trans0 K5.out
    have HP5 : Hid (Pair w w5 T3 b1 gf1 cf1 b2 gf2 cf2 x (newN x)) := by
      refine ⟨HVM.out, HRM5.out, newN_good HRT.out, newN_zero x, fun k z e => ?_, KW5.out⟩
      rcases HX3.out.2 k z e with h1 | h1
      · rcases HX2'.out.2 k z h1 with h2 | h2
        · rcases HX1.out.2 k z h2 with h3 | h3
          · exact .inl (baseT_id h3)
          · exact .inr (Nat.le_trans KW1.out.size h3.1)
        · exact .inr (Nat.le_trans KW2.out.size h2.1)
      · exact .inr (Nat.le_trans (Nat.le_trans KW2.out.size K4.out.size) h1.1)
    have HO5 : Hid (OwnImg w5 T3 3 (.slice oa on oc) (.slice pa pn pc) x) := (HO4.out.keeps0 K5.out).ext HX3.out.1 HVM.out.ok
    have HS5 := Lib.hid (HSP.out w5 T3 _ _ _ _ _ _ HO5.out)
    have RY5 := Lib.hid (RY.out.keeps K5.out (fun h => h))
    have z0' := RY5.out.cell (k := 0) (v := .slice oa on oc) rfl
    have z1' := RY5.out.cell (k := 1) (v := .int .i64 mu) rfl
    have z2' := RY5.out.cell (k := 2) (v := .slice pa pn pc) rfl
    clear z0 z1 z2 HVN2 HSP HO4 HRM HX1 HX2' HX3 HVM HRM5 HE13 K2 K3 K4 K5 KW1 KW2 KW5 RY
    go_upto_region 10 with (go_at_call 9; refine HS5.out.mono ?_; rintro e w6 ⟨rfl, hk⟩; have K6 := Lib.hid hk; clear hk)
    have HP6 : Hid (Pair w w6 T3 b1 gf1 cf1 b2 gf2 cf2 x (newN x)) := ⟨HP5.out.vm.keeps K6.out (fun k => own_other (by decide)), HP5.out.rm.keeps K6.out (fun k => own_other (by decide)), HP5.out.good, HP5.out.zero, HP5.out.new, HP5.out.keep.trans K6.out (fun q hq e => by have := own_new HP5.out e; omega)⟩
    clear z0' z1' z2' HS5 HO5 RY5 HP5 K6
    go_upto_region 11 with (go_at_call 10; refine (looks_any _ T3 2 1 b1 gf1 cf1 b2 gf2 cf2 x (newN x) HP6.out.vm HP6.out.rm HP6.out.good).mono ?_; rintro e w7 ⟨rfl, hk⟩; have HP7 : Hid (Pair w w7 T3 b1 gf1 cf1 b2 gf2 cf2 x (newN x)) := HP6.out.keeps0 hk; clear hk)
    clear HP6
    go_wp2_with fail
    go_loopw [11, 12] (fun fv kv wr => ∃ (i : Nat) (T : Tags) (m : Mach), i ≤ nr ∧ fv = .bool true ∧ kv = .int .i64 i ∧ Hid (Pair w wr T b1 gf1 cf1 b2 gf2 cf2 x m)) (fun _ kv _ => nr - (intOf kv).toNat)
    case atStart => exact ⟨0, T3, newN x, Nat.zero_le _, rfl, rfl, HP7.out⟩
    case round =>
      obtain ⟨i, T, m, hi, rfl, rfl, hP⟩ := hrel
      clear HP7
      by_cases hlt : i < nr
      · by_cases h30 : i < 30
        · have i1 : (0 : Int) ≤ i := by omega
          have i2 : (i : Int) < nr := by omega
          have i3 : (i : Int) < 30 := by omega
          have hrc := (HROW.out.keeps0 hP.out.keep)
          rw [HE.out.2.2.2] at hrc
          obtain ⟨ad, cap, e1, f1⟩ := hrc.ints
          obtain ⟨g, o, e2, c0⟩ := f1 i (by rw [← HE.out.2.2.2]; exact hlt)
          have era : ra = ad := by cases e1; rfl
          subst era
          subst e2
          generalize rs.getD i 0 = r at c0
          obtain ⟨es, hes⟩ : ∃ es, es = enabledN x m := ⟨_, rfl⟩
          have hel : es.length ≤ 1000 := by
            have h1 := enN_len x m m.fr.length
            have h2 := hP.out.good.len
            have h3 := (right_parts HRT.out).1.2
            rw [hes]; unfold enabledN; omega
          have RE : Hid (∀ W, Keeps NoBlk wr W → Calls Try.prog 12 #[.pointer (some ⟨b2, 0, none⟩)] W (NewInts W es)) := fun W hk => by rw [hes]; exact renabled_any W T 1 b2 gf2 cf2 x m (hP.out.rm.keeps hk (fun _ _ h => h)) hP.out.good
          have HEL := Lib.hid hel
          clear hes hel f1 e1 hrc hi
          go_upto_region 14 with fail
          have HC0 := Lib.hid c0
          clear c0
          refine wp_region_table 7 (by kernel_rfl) (by kernel_rfl) (Keeps NoBlk) (Keeps.refl NoBlk) (fun a b c h h' => Keeps.trans0 h h') (VpF (.slice (some ⟨g, o, none⟩) nr rc) ⟨g, o + i, none⟩ i r b2 es) VpF.st ?_ ?_
          · intro j o' hi ho vs W Q' hR hd hK
            have HR' : Keeps NoBlk wr W := ((Keeps.refl NoBlk wr).drew).trans0 hR
            have c0 := HR'.cell (p := ⟨g, _, none⟩) (fun h => h) HC0.out
            rcases (show j = 0 ∨ j = 1 ∨ j = 2 ∨ j = 3 ∨ j = 4 ∨ j = 5 ∨ j = 6 by omega) with rfl | rfl | rfl | rfl | rfl | rfl | rfl
            all_goals (simp only [List.getElem?_cons_zero, List.getElem?_cons_succ, Option.some.injEq] at ho; subst ho; simp only [putsTo, List.getElem?_cons_zero, List.getElem?_cons_succ, Option.bind_some, Option.bind, Act.put, List.setIfInBounds_toArray, List.set_cons_zero, List.set_cons_succ] at hK ⊢; clear hi)
            · clear hd
              go_wp2_with fail
              exact hK _ _ (Keeps.refl _ _) rfl
            · clear hd
              go_wp2_with fail
              exact hK _ _ (Keeps.refl _ _) rfl
            · have e0 : vs 0 = _ := hd 0 (by kernel_rfl)
              have e1 : vs 1 = _ := hd 1 (by kernel_rfl)
              rw [e0, e1] at hK ⊢
              clear hd
              go_wp2_with fail
              exact hK _ _ (Keeps.refl _ _) rfl
            · have e2 : vs 2 = _ := hd 2 (by kernel_rfl)
              rw [e2] at hK ⊢
              clear hd
              go_wp2_with fail
              exact hK _ _ (Keeps.refl _ _) rfl
            · clear hd
              go_wp2_with fail
              exact hK _ _ (Keeps.refl _ _) rfl
            · have e4 : vs 4 = _ := hd 4 (by kernel_rfl)
              rw [e4] at hK ⊢
              clear hd
              go_wp2_with (go_at_call 12; refine (RE.out _ HR').mono ?_; rintro e W1 ⟨v, rfl, g1, g2, g3⟩)
              exact hK _ _ g2 ⟨NewRow.slice (w := w) g1, own_src g1⟩
            · have e3 : vs 3 = _ := hd 3 (by kernel_rfl)
              obtain ⟨⟨ad, cap, e5⟩, h5⟩ := (hd 5 (by kernel_rfl) : (∃ ad cap, vs 5 = .slice ad es.length cap) ∧ SrcAt W (vs 5) es.length (ints es))
              rw [e5] at h5
              rw [e3, e5] at hK ⊢
              have HPK := Lib.hid (pick_any W r _ es h5 HEL.out)
              clear hd h5
              go_wp2_with (go_at_call 11; refine HPK.out.mono ?_; rintro e W1 ⟨rfl, g1⟩)
              exact hK _ _ g1 rfl
          intro vs wA hR hF
          have KA : Keeps NoBlk wr wA := ((Keeps.refl NoBlk wr).drew).trans0 hR
          have e6 : vs 6 = _ := hF 6 (by decide)
          simp only [putsTo, List.getElem?_cons_zero, List.getElem?_cons_succ, Option.bind_some, Option.bind, Act.put, List.setIfInBounds_toArray, List.set_cons_zero, List.set_cons_succ, List.drop_succ_cons, List.drop_zero]
          rw [e6]
          clear hF e6
          generalize vs 0 = yy0
          generalize vs 1 = yy1
          generalize vs 2 = yy2
          generalize vs 3 = yy3
          generalize vs 4 = yy4
          generalize vs 5 = yy5
          have HPA := Lib.hid (hP.out.keeps0 KA)
          generalize pickN r es = tt
          clear hR vs KA hP RE HC0 HEL
          obtain ⟨m', ev, er, hsr⟩ : ∃ m' ev er, stepR x m tt = (m', ev, er) := ⟨_, _, _, rfl⟩
          have HG' : Hid (VGood x m') := by have h := stepR_good tt HPA.out.good; rw [hsr] at h; exact h
          have HZ' : Hid (VZero x m') := by have h := stepR_zero tt HPA.out.good HPA.out.zero; rw [hsr] at h; exact h
          obtain ⟨a0, a1, a2, a3, a4⟩ := ev
          have RS : Hid (Calls Try.prog 13 #[.pointer (some ⟨b2, 0, none⟩), .int .i64 tt] wA fun e w' => e = .returned (.tuple #[.agg #[.int .i64 a0, .int .i64 a1, .int .i64 a2, .int .i64 a3, .int .i64 a4], .int .i64 er]) ∧ ∃ T', ExtN T T' 1 wA ∧ RmAt w' T' 1 b2 gf2 cf2 x m' ∧ Keeps (Own T 1) wA w') := by
            have h := rstep_any wA T 1 b2 gf2 cf2 x m tt HPA.out.rm HPA.out.good HPA.out.zero
            rw [hsr] at h
            exact h
          have VS : Hid (∀ W T', VmAt W T' 2 b1 gf1 cf1 x m → Calls Try.prog 14 #[.pointer (some ⟨b1, 0, none⟩), .int .i64 tt] W fun e w' => e = .returned (.tuple #[.agg #[.int .i64 a0, .int .i64 a1, .int .i64 a2, .int .i64 a3, .int .i64 a4], .int .i64 er]) ∧ VmAt w' T' 2 b1 gf1 cf1 x m' ∧ Keeps (Own T' 2) W w') := fun W T' hv => by
            have h := vstep_any W T' 2 b1 gf1 cf1 x m tt hv HPA.out.good
            rw [hsr] at h
            exact h
          clear hsr
          go_upto_region 15 with fail
          go_upto_region 16 with (go_at_call 13; refine RS.out.mono ?_; rintro e wB ⟨rfl, T', hext, hrm, hk⟩; have HEX := Lib.hid hext; have HRMB := Lib.hid hrm; have KB := Lib.hid hk; clear hext hrm hk)
          have HVB : Hid (VmAt wB T' 2 b1 gf1 cf1 x m) := (HPA.out.vm.keeps KB.out (fun k => own_other (by decide))).ext HEX.out.1 HRMB.out.ok
          have KWB : Hid (Keeps NoBlk w wB) := HPA.out.keep.trans KB.out (fun q hq e => by have := own_new HPA.out e; omega)
          obtain ⟨q1, hq1⟩ : ∃ z, z = wB.heap.size := ⟨_, rfl⟩
          have HQ1 : Hid (q1 = wB.heap.size) := hq1
          have HT1 : Hid (T' q1 = none) := HRMB.out.free (by omega)
          have hry : RowAt (wB.alloc (.cells #[.int .i64 a0, .int .i64 a1, .int .i64 a2, .int .i64 a3, .int .i64 a4] 40)) q1 [.int .i64 a0, .int .i64 a1, .int .i64 a2, .int .i64 a3, .int .i64 a4] := by rw [hq1]; exact RowAt.ofBlock (heap_alloc_new wB _)
          have hky : Keeps NoBlk wB (wB.alloc (.cells #[.int .i64 a0, .int .i64 a1, .int .i64 a2, .int .i64 a3, .int .i64 a4] 40)) := (Keeps.refl _ _).alloc _
          rw [← hq1]
          generalize wB.alloc (.cells #[.int .i64 a0, .int .i64 a1, .int .i64 a2, .int .i64 a3, .int .i64 a4] 40) = wC at hry hky ⊢
          have RY := Lib.hid hry
          have KYC := Lib.hid hky
          have VS' := Lib.hid (VS.out wC T' (HVB.out.keeps hky (fun _ _ h => h)))
          clear hry hky hq1 VS RS
          go_upto_region 17 with (go_at_call 14; refine VS'.out.mono ?_; rintro e wD ⟨rfl, hvm, hk⟩; have HVMD := Lib.hid hvm; have KD := Lib.hid hk; clear hvm hk)
          have KWD : Hid (Keeps NoBlk w wD) := (KWB.out.trans0 KYC.out).trans KD.out (fun q hq e => by
            have : w.heap.size ≤ q := by
              obtain ⟨t, e2, ht⟩ := e
              rcases HEX.out.2 q _ e2 with h1 | h1
              · exact own_new HPA.out ⟨t, h1, ht⟩
              · exact Nat.le_trans HPA.out.keep.size h1.1
            omega)
          have HPD : Hid (Pair w wD T' b1 gf1 cf1 b2 gf2 cf2 x m') := ⟨HVMD.out, (HRMB.out.keeps KYC.out (fun _ _ h => h)).keeps KD.out (fun k => own_other (by decide)), HG'.out, HZ'.out, fun k z e => by
            rcases HEX.out.2 k z e with h1 | h1
            · exact HPA.out.new k z h1
            · exact .inr (Nat.le_trans HPA.out.keep.size h1.1), KWD.out⟩
          have RYD : Hid (RowAt wD q1 [.int .i64 a0, .int .i64 a1, .int .i64 a2, .int .i64 a3, .int .i64 a4]) := RY.out.keeps KD.out (fun e => not_own HT1.out (.inr e))
          clear HVB KWB HQ1 HT1 RY KYC VS' KWD HRMB HEX KB HVMD KD HPA HG' HZ'
          obtain ⟨q2, hq2⟩ : ∃ z, z = wD.heap.size := ⟨_, rfl⟩
          have hry : RowAt (wD.alloc (.cells #[.int .i64 a0, .int .i64 a1, .int .i64 a2, .int .i64 a3, .int .i64 a4] 40)) q2 [.int .i64 a0, .int .i64 a1, .int .i64 a2, .int .i64 a3, .int .i64 a4] := by rw [hq2]; exact RowAt.ofBlock (heap_alloc_new wD _)
          have hky : Keeps NoBlk wD (wD.alloc (.cells #[.int .i64 a0, .int .i64 a1, .int .i64 a2, .int .i64 a3, .int .i64 a4] 40)) := (Keeps.refl _ _).alloc _
          rw [← hq2]
          generalize wD.alloc (.cells #[.int .i64 a0, .int .i64 a1, .int .i64 a2, .int .i64 a3, .int .i64 a4] 40) = wE at hry hky ⊢
          have RY2 := Lib.hid hry
          have RY1 := Lib.hid (RYD.out.keeps hky (fun h => h))
          have HPE := Lib.hid (HPD.out.keeps0 hky)
          have HLK := Lib.hid (looks_any _ T' 2 1 b1 gf1 cf1 b2 gf2 cf2 x m' HPE.out.vm HPE.out.rm HPE.out.good)
          clear hry hky hq2 RYD HPD
          go_upto_region 18 with (go_at_call 10; refine HLK.out.mono ?_; rintro e wF ⟨rfl, hk⟩; have KF := Lib.hid hk; clear hk)
          have RF1 := RY1.out.keeps KF.out (fun h => h)
          have RF2 := RY2.out.keeps KF.out (fun h => h)
          have HPF : Hid (Pair w wF T' b1 gf1 cf1 b2 gf2 cf2 x m') := HPE.out.keeps0 KF.out
          have y0 := RF1.cell (k := 0) (v := .int .i64 a0) rfl
          have y1 := RF1.cell (k := 1) (v := .int .i64 a1) rfl
          have y2 := RF1.cell (k := 2) (v := .int .i64 a2) rfl
          have y3 := RF1.cell (k := 3) (v := .int .i64 a3) rfl
          have y4 := RF1.cell (k := 4) (v := .int .i64 a4) rfl
          have z0 := RF2.cell (k := 0) (v := .int .i64 a0) rfl
          have z1 := RF2.cell (k := 1) (v := .int .i64 a1) rfl
          have z2 := RF2.cell (k := 2) (v := .int .i64 a2) rfl
          have z3 := RF2.cell (k := 3) (v := .int .i64 a3) rfl
          have z4 := RF2.cell (k := 4) (v := .int .i64 a4) rfl
          clear RF1 RF2 HPE HLK KF RY1 RY2
          go_wp2_with fail
          exact ⟨⟨i + 1, T', m', by omega, rfl, by go_num, HPF.out⟩, by simp [intOf]; omega⟩
        · have e30 : decide ((i : Int) < 30) = false := decide_eq_false (by omega)
          have n30 : ¬ ((i : Int) < 30) := by omega
          have i2 : (i : Int) < nr := by omega
          clear h30 hi HE
          go_wp2_with fail
          refine bodyPost_ret (v := .bool true) (by simp [results, Try.results3, go_sem]) rfl ?_
          exact ⟨rfl, hP.out.keep⟩
      · have hin : nr = i := by omega
        subst hin
        clear hlt hi HE HROW
        go_wp2_with fail
        refine bodyPost_ret (v := .bool true) (by simp [results, Try.results3, go_sem]) rfl ?_
        exact ⟨rfl, hP.out.keep⟩
  · have hbad : rightN x = false := by simpa using hright
    have HRN : Hid (∀ W, Keeps NoBlk w W → Calls Try.prog 6 #[.agg #[.slice ca nc cc, .int .i64 mu, .slice ta nt tc]] W fun e w' => e = .returned (.tuple #[.pointer none, .int .i64 100]) ∧ Keeps NoBlk W w') := fun W hk => by
      rw [hmu]
      exact rnew_bad W _ _ x (HI.out.keeps0 hk) hbad
    have HVN : Hid (∀ W c t, ImgR W c t x → Calls Try.prog 8 #[.agg #[c, .int .i64 mu, t]] W fun e w' => e = .returned (.tuple #[.pointer none, .int .i64 100]) ∧ Keeps NoBlk W w') := fun W c t hi => by
      rw [hmu]
      exact vnew_bad W c t x hi hbad
    clear h hsz hrow hnc hnt hmu hnr hright hbad
    go_enter Try.func3, Try.ntmps3
    go_upto_region 2 with (go_at_call 5; refine (shown_any _).mono ?_; rintro e w1 ⟨rfl, hk⟩; have K1 := Lib.hid hk; clear hk)
    obtain ⟨bx, hbx⟩ : ∃ z, z = w.heap.size := ⟨_, rfl⟩
    have HX : Hid (RowAt w1 bx [.slice ca nc cc, .int .i64 mu, .slice ta nt tc]) := by show RowAt _ _ _; rw [hbx]; exact (RowAt.ofBlock (heap_alloc_new w _)).keeps K1.out (fun h => h)
    have KW1 : Hid (Keeps NoBlk w w1) := ((Keeps.refl _ _).alloc _).trans0 K1.out
    rw [← hbx]
    have x0 := HX.out.cell (k := 0) (v := .slice ca nc cc) rfl
    have x1 := HX.out.cell (k := 1) (v := .int .i64 mu) rfl
    have x2 := HX.out.cell (k := 2) (v := .slice ta nt tc) rfl
    clear hbx K1
    go_upto_region 3 with (go_at_call 6; refine (HRN.out _ KW1.out).mono ?_; rintro e w2 ⟨rfl, hk⟩; have K2 := Lib.hid hk; clear hk)
    have HX2 := Lib.hid (HX.out.keeps K2.out (fun h => h))
    have KW2 : Hid (Keeps NoBlk w w2) := KW1.out.trans0 K2.out
    clear x0 x1 x2 HRN
    have x0 := HX2.out.cell (k := 0) (v := .slice ca nc cc) rfl
    have x1 := HX2.out.cell (k := 1) (v := .int .i64 mu) rfl
    have x2 := HX2.out.cell (k := 2) (v := .slice ta nt tc) rfl
    go_upto_region 4 with (go_at_call 7; refine (HCP.out _ (baseT w) KW2.out ((baseT_ok w).keeps KW2.out)).mono ?_; rintro e w3 ⟨oa, on, oc, pa, pn, pc, T2, rfl, ho, hx2, hk⟩; have HO := Lib.hid ho; have K3 := Lib.hid hk; clear ho hx2 hk)
    obtain ⟨y, hy⟩ : ∃ z, z = w3.heap.size := ⟨_, rfl⟩
    have hry : RowAt (w3.alloc (.cells #[.slice oa on oc, .int .i64 mu, .slice pa pn pc] 25)) y [.slice oa on oc, .int .i64 mu, .slice pa pn pc] := by rw [hy]; exact RowAt.ofBlock (heap_alloc_new w3 _)
    have hky : Keeps NoBlk w3 (w3.alloc (.cells #[.slice oa on oc, .int .i64 mu, .slice pa pn pc] 25)) := (Keeps.refl _ _).alloc _
    rw [← hy]
    generalize w3.alloc (.cells #[.slice oa on oc, .int .i64 mu, .slice pa pn pc] 25) = w4 at hry hky ⊢
    have K4 : Hid (Keeps NoBlk w w4) := (KW2.out.trans0 K3.out).trans0 hky
    have HVN2 := Lib.hid (HVN.out w4 _ _ (HO.out.keeps0 hky).read)
    have z0 := hry.cell (k := 0) (v := .slice oa on oc) rfl
    have z1 := hry.cell (k := 1) (v := .int .i64 mu) rfl
    have z2 := hry.cell (k := 2) (v := .slice pa pn pc) rfl
    clear hry hky hy x0 x1 x2 HVN HCP HX HX2 HO
    go_wp2_with (go_at_call 8; refine HVN2.out.mono ?_; rintro e w5 ⟨rfl, hk⟩; have K5 := Lib.hid hk; clear hk)
    refine bodyPost_ret (v := .bool true) (by simp [results, Try.results3, go_sem]) rfl ?_
    exact ⟨rfl, K4.out.trans0 K5.out⟩
end Go.Proofs.Ytmkfpkficmmlgaa
