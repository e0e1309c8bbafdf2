/- VmCopies: the walk. -/
import Derived.Test.YtmkfpkficmmlgaaK44
namespace Go.Proofs.Ytmkfpkficmmlgaa
open Go.RowKit
set_option linter.unusedVariables false
set_option linter.unusedSimpArgs false
set_option linter.unnecessarySimpa false

/-- a machine stays while another one steps -/
theorem VmAt.aside {w w' : World} {T T' : Tags} {i j b gf cf : Nat} {x : Img} {m : Mach} (h : VmAt w T i b gf cf x m) (hij : i ≠ j) (hk : Keeps (Own T j) w w') (hx : Ext T T') (hok : TOk T' w') : VmAt w' T' i b gf cf x m :=
  (h.keeps hk (fun k => own_other hij)).ext hx hok
theorem RmAt.aside {w w' : World} {T T' : Tags} {i j b gf cf : Nat} {x : Img} {m : Mach} (h : RmAt w T i b gf cf x m) (hij : i ≠ j) (hk : Keeps (Own T j) w w') (hx : Ext T T') (hok : TOk T' w') : RmAt w' T' i b gf cf x m :=
  (h.keeps hk (fun k => own_other hij)).ext hx hok
/-- all tags but those of what came in are of new blocks -/
def NewT (w : World) (T : Tags) : Prop := ∀ k y, T k = some y → y = (0, .code) ∨ w.heap.size ≤ k
theorem NewT.own {w : World} {T : Tags} (h : NewT w T) {id k : Nat} (hk : Own T id k) : w.heap.size ≤ k := by
  obtain ⟨t, e, ht⟩ := hk
  rcases h k _ e with h1 | h1
  · cases h1; exact absurd rfl ht
  · exact h1
theorem NewT.ext {w w' : World} {T T' : Tags} {id : Nat} (h : NewT w T) (hx : ExtI T T' id w') (hs : w.heap.size ≤ w'.heap.size) : NewT w T' := fun k y e => by
  rcases hx.2 k y e with h1 | h1
  · exact h k y h1
  · exact .inr (Nat.le_trans hs h1.1)
theorem NewT.keep {w wa wb : World} {T : Tags} {id : Nat} (h : NewT w T) (hk : Keeps NoBlk w wa) (hk2 : Keeps (Own T id) wa wb) : Keeps NoBlk w wb := hk.trans hk2 (fun q hq e => by have := h.own e; omega)
/-- four machines, two and two alike -/
structure Quad (w wr : World) (T : Tags) (b1 gf1 cf1 b2 gf2 cf2 c1 hf1 df1 c2 hf2 df2 : Nat) (x : Img) (m m2 : Mach) : Prop where
  vm : VmAt wr T 2 b1 gf1 cf1 x m
  rm : RmAt wr T 1 b2 gf2 cf2 x m
  vm2 : VmAt wr T 5 c1 hf1 df1 x m2
  rm2 : RmAt wr T 6 c2 hf2 df2 x m2
  good : VGood x m
  zero : VZero x m
  good2 : VGood x m2
  zero2 : VZero x m2
  new : NewT w T
  keep : Keeps NoBlk w wr
theorem Quad.keeps0 {w wr W : World} {T : Tags} {b1 gf1 cf1 b2 gf2 cf2 c1 hf1 df1 c2 hf2 df2 : Nat} {x : Img} {m m2 : Mach} (h : Quad w wr T b1 gf1 cf1 b2 gf2 cf2 c1 hf1 df1 c2 hf2 df2 x m m2) (hk : Keeps NoBlk wr W) : Quad w W T b1 gf1 cf1 b2 gf2 cf2 c1 hf1 df1 c2 hf2 df2 x m m2 :=
  ⟨h.vm.keeps hk (fun _ _ h => h), h.rm.keeps hk (fun _ _ h => h), h.vm2.keeps hk (fun _ _ h => h), h.rm2.keeps hk (fun _ _ h => h), h.good, h.zero, h.good2, h.zero2, h.new, h.keep.trans0 hk⟩

theorem Pair.mid {w wa wb wc : World} {T T' : Tags} {b1 gf1 cf1 b2 gf2 cf2 : Nat} {x : Img} {m : Mach} (h : Pair w wa T b1 gf1 cf1 b2 gf2 cf2 x m) (hx : ExtN T T' 1 wa) (hok : TOk T' wb) (hk : Keeps (Own T 1) wa wb) (hk2 : Keeps NoBlk wb wc) : VmAt wc T' 2 b1 gf1 cf1 x m :=
  (h.vm.aside (by decide) hk hx.1 hok).keeps hk2 (fun _ _ h => h)
theorem Pair.step {w wa wb wc wd : World} {T T' : Tags} {b1 gf1 cf1 b2 gf2 cf2 : Nat} {x : Img} {m m' : Mach} (h : Pair w wa T b1 gf1 cf1 b2 gf2 cf2 x m) (hx : ExtN T T' 1 wa) (hr : RmAt wb T' 1 b2 gf2 cf2 x m') (hk : Keeps (Own T 1) wa wb) (hk2 : Keeps NoBlk wb wc)
    (hv : VmAt wd T' 2 b1 gf1 cf1 x m') (hk3 : Keeps (Own T' 2) wc wd) (hg : VGood x m') (hz : VZero x m') : Pair w wd T' b1 gf1 cf1 b2 gf2 cf2 x m' :=
  have hn : NewT w T' := NewT.ext h.new (ExtI.ofN hx) h.keep.size
  ⟨hv, (hr.keeps hk2 (fun _ _ h => h)).keeps hk3 (fun k => own_other (by decide)), hg, hz, hn, hn.keep ((NewT.keep h.new h.keep hk).trans0 hk2) hk3⟩
section
variable {w wa wb wc wd : World} {T T' : Tags} {b1 gf1 cf1 b2 gf2 cf2 c1 hf1 df1 c2 hf2 df2 : Nat} {x : Img} {m m2 m' : Mach}
theorem Quad.mid1 (h : Quad w wa T b1 gf1 cf1 b2 gf2 cf2 c1 hf1 df1 c2 hf2 df2 x m m2) (hx : ExtN T T' 1 wa) (hok : TOk T' wb) (hk : Keeps (Own T 1) wa wb) (hk2 : Keeps NoBlk wb wc) : VmAt wc T' 2 b1 gf1 cf1 x m :=
  (h.vm.aside (by decide) hk hx.1 hok).keeps hk2 (fun _ _ h => h)
theorem Quad.mid2 (h : Quad w wa T b1 gf1 cf1 b2 gf2 cf2 c1 hf1 df1 c2 hf2 df2 x m m2) (hx : ExtN T T' 6 wa) (hok : TOk T' wb) (hk : Keeps (Own T 6) wa wb) (hk2 : Keeps NoBlk wb wc) : VmAt wc T' 5 c1 hf1 df1 x m2 :=
  (h.vm2.aside (by decide) hk hx.1 hok).keeps hk2 (fun _ _ h => h)
theorem Quad.step1 (h : Quad w wa T b1 gf1 cf1 b2 gf2 cf2 c1 hf1 df1 c2 hf2 df2 x m m2) (hx : ExtN T T' 1 wa) (hr : RmAt wb T' 1 b2 gf2 cf2 x m') (hk : Keeps (Own T 1) wa wb) (hk2 : Keeps NoBlk wb wc)
    (hv : VmAt wd T' 2 b1 gf1 cf1 x m') (hk3 : Keeps (Own T' 2) wc wd) (hg : VGood x m') (hz : VZero x m') : Quad w wd T' b1 gf1 cf1 b2 gf2 cf2 c1 hf1 df1 c2 hf2 df2 x m' m2 :=
  have hn : NewT w T' := NewT.ext h.new (ExtI.ofN hx) h.keep.size
  ⟨hv, (hr.keeps hk2 (fun _ _ h => h)).keeps hk3 (fun k => own_other (by decide)), ((h.vm2.aside (by decide) hk hx.1 hr.ok).keeps hk2 (fun _ _ h => h)).keeps hk3 (fun k => own_other (by decide)), ((h.rm2.aside (by decide) hk hx.1 hr.ok).keeps hk2 (fun _ _ h => h)).keeps hk3 (fun k => own_other (by decide)), hg, hz, h.good2, h.zero2, hn, hn.keep ((NewT.keep h.new h.keep hk).trans0 hk2) hk3⟩
theorem Quad.step2 (h : Quad w wa T b1 gf1 cf1 b2 gf2 cf2 c1 hf1 df1 c2 hf2 df2 x m m2) (hx : ExtN T T' 6 wa) (hr : RmAt wb T' 6 c2 hf2 df2 x m') (hk : Keeps (Own T 6) wa wb) (hk2 : Keeps NoBlk wb wc)
    (hv : VmAt wd T' 5 c1 hf1 df1 x m') (hk3 : Keeps (Own T' 5) wc wd) (hg : VGood x m') (hz : VZero x m') : Quad w wd T' b1 gf1 cf1 b2 gf2 cf2 c1 hf1 df1 c2 hf2 df2 x m m' :=
  have hn : NewT w T' := NewT.ext h.new (ExtI.ofN hx) h.keep.size
  ⟨((h.vm.aside (by decide) hk hx.1 hr.ok).keeps hk2 (fun _ _ h => h)).keeps hk3 (fun k => own_other (by decide)), ((h.rm.aside (by decide) hk hx.1 hr.ok).keeps hk2 (fun _ _ h => h)).keeps hk3 (fun k => own_other (by decide)), hv, (hr.keeps hk2 (fun _ _ h => h)).keeps hk3 (fun k => own_other (by decide)), h.good, h.zero, hg, hz, hn, hn.keep ((NewT.keep h.new h.keep hk).trans0 hk2) hk3⟩
end
/-- an element of a row -/
theorem row_elem {w : World} {ra : Option Addr} {n rc : Nat} {xs : List Int} (h : SrcAt w (.slice ra n rc) n (ints xs)) (hn : n = xs.length) {i : Nat} (hi : i < n) : ∃ g o, ra = some ⟨g, o, none⟩ ∧ w.cell? ⟨g, o + i, none⟩ = some (.int .i64 (xs.getD i 0)) := by
  obtain ⟨ad, cap, e, h1⟩ := h
  cases e
  obtain ⟨g, o, e1, h2⟩ := h1 (by omega)
  exact ⟨g, o, e1, h2 i _ (ints_get xs i (by omega))⟩
/-- the rest of a row -/
theorem slice_from {ra : Option Addr} {nr rc half : Nat} (h1 : half ≤ nr) (h2 : nr ≤ rc) :
    ∃ oa oc, (∀ W, (Instr.slice 22 (.slice ra nr rc) (some (.int .i64 (half : Int))) none none).run Try.prog W = .ok (.slice oa (nr - half) oc) W) ∧
      ∀ (W : World) (xs : List Int), SrcAt W (.slice ra nr rc) nr (ints xs) → SrcAt W (.slice oa (nr - half) oc) (nr - half) (ints (xs.drop half)) := by
  have ht : Try.prog.underlying 22 = some (.slice (Try.prog.elem 22)) := by simp [Program.elem, Try.underlying22]
  have he : Try.prog.elem 22 = 3 := by simp [Program.elem, Try.underlying22]
  have hz : ∀ w, (Go.sizeOf 3).run Try.prog w = .ok 1 w := fun w => by
    obtain ⟨i0, hi0, hz0, hz1, hz2⟩ := info_parts infoInt
    simp [go_sem, hi0, hz1]
  refine ⟨if rc = half then ra else ra.map (·.add (half * 1)), rc - half, fun W => ?_, fun W xs h => ?_⟩
  · rw [run_slice_l W 22 _ _ _ ht .i64 _ (by omega) (by omega), he, hz]
    simp [Result.andThen, sliced]
  · obtain ⟨ad, cap, e, h3⟩ := h
    cases e
    refine ⟨_, _, rfl, fun hne => ?_⟩
    obtain ⟨g, o, rfl, h4⟩ := h3 (by omega)
    refine ⟨g, o + half, ?_, fun j u hj => ?_⟩
    · rw [if_neg (by omega)]
      by_cases h0 : half = 0
      · subst h0; simp [Addr.add]
      · simp [Addr.add, h0]
    · have e1 : (ints (xs.drop half))[j]? = (ints xs)[half + j]? := by simp [ints]
      rw [e1] at hj
      rw [Nat.add_assoc]
      exact h4 _ _ hj

set_option maxRecDepth 8000 in
set_option maxHeartbeats 4000000 in
theorem vmcopies_any (w : World) (cv tv rv sv : Value) (x : Img) (rs ts : List Int) (h : ImgR w cv tv x) (hrow : SrcAt w rv rs.length (ints rs)) (htwo : SrcAt w sv ts.length (ints ts)) (hcap : ∃ ad cap, rv = .slice ad rs.length cap ∧ rs.length ≤ cap ∧ rs.length ≤ 140737488355328) :
    Calls Try.prog 4 #[imgV cv tv x, rv, sv] w fun e w' => e = .returned (.bool true) ∧ Keeps NoBlk w w' := by
  have HI := Lib.hid h
  have HROW := Lib.hid hrow
  have HTWO := Lib.hid htwo
  obtain ⟨ca, cc, rfl, _⟩ := h.cells.ints
  obtain ⟨ta, tc, rfl, _⟩ := h.thr
  obtain ⟨ra, rc, rfl, hrc1, hrc2⟩ := hcap
  obtain ⟨sa, sc, rfl, _⟩ := htwo.ints
  unfold imgV
  have HT : Hid (ThrAt w (baseT w) (.slice ta x.threads.length tc) x.threads) := ThrAt.base h.thr
  obtain ⟨nc, hnc⟩ : ∃ n, n = x.cells.length := ⟨_, rfl⟩
  obtain ⟨nt, hnt⟩ : ∃ n, n = x.threads.length := ⟨_, rfl⟩
  obtain ⟨mu, hmu⟩ : ∃ n, n = x.mutexes := ⟨_, rfl⟩
  obtain ⟨nr, hnr⟩ : ∃ n, n = rs.length := ⟨_, rfl⟩
  obtain ⟨nw, hnw⟩ : ∃ n, n = ts.length := ⟨_, rfl⟩
  have HE : Hid (nc = x.cells.length ∧ nt = x.threads.length ∧ mu = x.mutexes ∧ nr = rs.length ∧ nw = ts.length) := ⟨hnc, hnt, hmu, hnr, hnw⟩
  rw [← hnc, ← hnt] at HI
  rw [← hnt] at HT
  rw [← hnr] at HROW
  rw [← hnw] at HTWO
  rw [← hnr] at hrc1 hrc2
  rw [← hnc, ← hnt, ← hmu, ← hnr, ← hnw]
  by_cases hright : rightN x = true
  · have HRT := Lib.hid hright
    have HRN : Hid (∀ W, Keeps NoBlk w W → Calls Try.prog 6 #[.agg #[.slice ca nc cc, .int .i64 mu, .slice ta nt tc]] W fun e w' => ∃ b gf cf T', e = .returned (.tuple #[.pointer (some ⟨b, 0, none⟩), .int .i64 0]) ∧ RmAt w' T' 1 b gf cf x (newN x) ∧ ExtI (baseT w) T' 1 W ∧ Keeps NoBlk W w') := fun W hk => by
      rw [hmu]
      exact rnew_ok W (baseT w) 1 _ _ x (HI.out.keeps0 hk) hright ((baseT_ok w).keeps hk) (fun k y e he => by rw [baseT_id e]) (HT.out.keeps hk (fun _ _ h => h))
    have HVN : Hid (∀ W T, Keeps NoBlk w W → TOk T W → (∀ k y, T k = some y → y.1 ≠ 2) → Calls Try.prog 8 #[.agg #[.slice ca nc cc, .int .i64 mu, .slice ta nt tc]] W fun e w' => ∃ b gf cf T', e = .returned (.tuple #[.pointer (some ⟨b, 0, none⟩), .int .i64 0]) ∧ VmAt w' T' 2 b gf cf x (newN x) ∧ ExtI T T' 2 W ∧ Keeps NoBlk W w') := fun W T hk hok hid => by
      rw [hmu]
      exact vnew_ok W T 2 _ _ x (HI.out.keeps0 hk) hright hok hid
    clear h hrow htwo hnc hnt hmu hnr hnw hright
    go_enter Try.func4, Try.ntmps4
    go_upto_region 2 with (go_at_call 5; refine (shown_any _).mono ?_; rintro e w1 ⟨rfl, hk⟩; have K1 := Lib.hid hk; clear hk)
    obtain ⟨bx, hbx⟩ : ∃ z, z = w.heap.size := ⟨_, rfl⟩
    have HX : Hid (RowAt w1 bx [.slice ca nc cc, .int .i64 mu, .slice ta nt tc]) := by show RowAt _ _ _; rw [hbx]; exact (RowAt.ofBlock (heap_alloc_new w _)).keeps K1.out (fun h => h)
    have KW1 : Hid (Keeps NoBlk w w1) := ((Keeps.refl _ _).alloc _).trans0 K1.out
    rw [← hbx]
    have x0 := HX.out.cell (k := 0) (v := .slice ca nc cc) rfl
    have x1 := HX.out.cell (k := 1) (v := .int .i64 mu) rfl
    have x2 := HX.out.cell (k := 2) (v := .slice ta nt tc) rfl
    clear hbx K1
    go_upto_region 3 with (go_at_call 6; refine (HRN.out _ KW1.out).mono ?_; rintro e w2 ⟨b2, gf2, cf2, T1, rfl, hrm, hx1, hk⟩; have HRM := Lib.hid hrm; have HX1 := Lib.hid hx1; have K2 := Lib.hid hk; clear hrm hx1 hk)
    have HX2 := Lib.hid (HX.out.keeps K2.out (fun h => h))
    have KW2 : Hid (Keeps NoBlk w w2) := KW1.out.trans0 K2.out
    have HVN2 := Lib.hid (HVN.out w2 T1 KW2.out HRM.out.ok (fun k z e => by
      rcases HX1.out.2 k z e with h2 | h2
      · rw [baseT_id h2]; decide
      · rw [h2.2]; decide))
    clear x0 x1 x2 HRN HVN
    have x0 := HX2.out.cell (k := 0) (v := .slice ca nc cc) rfl
    have x1 := HX2.out.cell (k := 1) (v := .int .i64 mu) rfl
    have x2 := HX2.out.cell (k := 2) (v := .slice ta nt tc) rfl
    go_upto_region 8 with (go_at_call 8; refine HVN2.out.mono ?_; rintro e w5 ⟨b1, gf1, cf1, T3, rfl, hvm, hx3, hk⟩; have HVM := Lib.hid hvm; have HX3 := Lib.hid hx3; have K5 := Lib.hid hk; clear hvm hk hx3)
    have HP5 : Hid (Pair w w5 T3 b1 gf1 cf1 b2 gf2 cf2 x (newN x)) := by
      refine ⟨HVM.out, (HRM.out.keeps K5.out (fun _ _ h => h)).ext HX3.out.1 HVM.out.ok, newN_good HRT.out, newN_zero x, fun k z e => ?_, KW2.out.trans0 K5.out⟩
      rcases HX3.out.2 k z e with h1 | h1
      · rcases HX1.out.2 k z h1 with h3 | h3
        · exact .inl (baseT_id h3)
        · exact .inr (Nat.le_trans KW1.out.size h3.1)
      · exact .inr (Nat.le_trans KW2.out.size h1.1)
    clear x0 x1 x2 HVN2 HRM HX1 HX3 HVM KW1 KW2 K2 K5 HX HX2
    obtain ⟨half, hh, hh1, hh2⟩ : ∃ half : Nat, min (wrap64 ((nr : Int) / 2)) 10 = (half : Int) ∧ half ≤ nr ∧ half ≤ 10 := ⟨min (nr / 2) 10, by rw [IntWalk.wrap64_in _ (by omega)]; omega, by omega, by omega⟩
    obtain ⟨oa, oc, hsl, hone⟩ := slice_from (ra := ra) hh1 hrc1
    have HSL := Lib.hid hsl
    have HONE0 := Lib.hid hone
    have HHF : Hid (half ≤ nr ∧ half ≤ 10) := ⟨hh1, hh2⟩
    have HNR : Hid (nr = rs.length ∧ nw = ts.length) := HE.out.2.2.2
    clear hsl hone hrc1 hrc2 HE
    go_upto_region 9 with fail
    clear hh hh1 hh2
    go_wp2_with fail
    go_loopw [13] (fun kv wr => ∃ (i : Nat) (T : Tags) (m : Mach), i ≤ half ∧ kv = .int .i64 i ∧ Hid (Pair w wr T b1 gf1 cf1 b2 gf2 cf2 x m)) (fun kv _ => half - (intOf kv).toNat)
    case atStart => exact ⟨0, T3, newN x, Nat.zero_le _, rfl, HP5.out⟩
    case round =>
      obtain ⟨i, T, m, hi, rfl, hP⟩ := hrel
      clear HP5
      by_cases hlt : i < half
      · have i1 : (0 : Int) ≤ i := by omega
        have i3 : (i : Int) < half := by omega
        have hin : i < nr := by have := HHF.out.1; omega
        have i2 : (i : Int) < nr := by omega
        have h10 : i < 10 := by have := HHF.out.2; omega
        obtain ⟨g, o, rfl, c0⟩ := row_elem (HROW.out.keeps0 hP.out.keep) HNR.out.1 hin
        generalize rs.getD i 0 = r at c0
        obtain ⟨es, hes⟩ : ∃ es, es = enabledN x m := ⟨_, rfl⟩
        have hel : es.length ≤ 1000 := by
          have h1 := enN_len x m m.fr.length
          have h2 := hP.out.good.len
          have h3 := (right_parts HRT.out).1.2
          rw [hes]; unfold enabledN; omega
        have RE : Hid (∀ W, Keeps NoBlk wr W → Calls Try.prog 12 #[.pointer (some ⟨b2, 0, none⟩)] W (NewInts W es)) := fun W hk => by rw [hes]; exact renabled_any W T 1 b2 gf2 cf2 x m (hP.out.rm.keeps hk (fun _ _ h => h)) hP.out.good
        have HEL := Lib.hid hel
        have HC0 := Lib.hid c0
        clear hes hel
        go_upto_region 12 with fail
        clear c0
        refine wp_region_table 7 (by kernel_rfl) (by kernel_rfl) (Keeps NoBlk) (Keeps.refl NoBlk) (fun a b c h h' => Keeps.trans0 h h') (VpF (.slice (some ⟨g, o, none⟩) nr rc) ⟨g, o + i, none⟩ i r b2 es) VpF.st ?_ ?_
        · intro j o' hi ho vs W Q' hR hd hK
          have HR' : Keeps NoBlk wr W := ((Keeps.refl NoBlk wr).drew).trans0 hR
          have c0 := HR'.cell (p := ⟨g, _, none⟩) (fun h => h) HC0.out
          rcases (show j = 0 ∨ j = 1 ∨ j = 2 ∨ j = 3 ∨ j = 4 ∨ j = 5 ∨ j = 6 by omega) with rfl | rfl | rfl | rfl | rfl | rfl | rfl
          all_goals (simp only [List.getElem?_cons_zero, List.getElem?_cons_succ, Option.some.injEq] at ho; subst ho; simp only [putsTo, List.getElem?_cons_zero, List.getElem?_cons_succ, Option.bind_some, Option.bind, Act.put, List.setIfInBounds_toArray, List.set_cons_zero, List.set_cons_succ] at hK ⊢; clear hi)
          · clear hd
            go_wp2_with fail
            exact hK _ _ (Keeps.refl _ _) rfl
          · clear hd
            go_wp2_with fail
            exact hK _ _ (Keeps.refl _ _) rfl
          · have e0 : vs 0 = _ := hd 0 (by kernel_rfl)
            have e1 : vs 1 = _ := hd 1 (by kernel_rfl)
            rw [e0, e1] at hK ⊢
            clear hd
            go_wp2_with fail
            exact hK _ _ (Keeps.refl _ _) rfl
          · have e2 : vs 2 = _ := hd 2 (by kernel_rfl)
            rw [e2] at hK ⊢
            clear hd
            go_wp2_with fail
            exact hK _ _ (Keeps.refl _ _) rfl
          · clear hd
            go_wp2_with fail
            exact hK _ _ (Keeps.refl _ _) rfl
          · have e4 : vs 4 = _ := hd 4 (by kernel_rfl)
            rw [e4] at hK ⊢
            clear hd
            go_wp2_with (go_at_call 12; refine (RE.out _ HR').mono ?_; rintro e W1 ⟨v, rfl, g1, g2, g3⟩)
            exact hK _ _ g2 ⟨NewRow.slice (w := w) g1, own_src g1⟩
          · have e3 : vs 3 = _ := hd 3 (by kernel_rfl)
            obtain ⟨⟨ad, cap, e5⟩, h5⟩ := (hd 5 (by kernel_rfl) : (∃ ad cap, vs 5 = .slice ad es.length cap) ∧ SrcAt W (vs 5) es.length (ints es))
            rw [e5] at h5
            rw [e3, e5] at hK ⊢
            have HPK := Lib.hid (pick_any W r _ es h5 HEL.out)
            clear hd h5
            go_wp2_with (go_at_call 11; refine HPK.out.mono ?_; rintro e W1 ⟨rfl, g1⟩)
            exact hK _ _ g1 rfl
        intro vs wA hR hF
        have KA : Keeps NoBlk wr wA := ((Keeps.refl NoBlk wr).drew).trans0 hR
        have e6 : vs 6 = _ := hF 6 (by decide)
        simp only [putsTo, List.getElem?_cons_zero, List.getElem?_cons_succ, Option.bind_some, Option.bind, Act.put, List.setIfInBounds_toArray, List.set_cons_zero, List.set_cons_succ, List.drop_succ_cons, List.drop_zero]
        rw [e6]
        clear hF e6
        generalize vs 0 = yy0
        generalize vs 1 = yy1
        generalize vs 2 = yy2
        generalize vs 3 = yy3
        generalize vs 4 = yy4
        generalize vs 5 = yy5
        have HPA := Lib.hid (hP.out.keeps0 KA)
        generalize pickN r es = tt
        clear hR vs KA hP RE HC0 HEL
        obtain ⟨m', ev, er, hsr⟩ : ∃ m' ev er, stepR x m tt = (m', ev, er) := ⟨_, _, _, rfl⟩
        have HG' : Hid (VGood x m') := by have h := stepR_good tt HPA.out.good; rw [hsr] at h; exact h
        have HZ' : Hid (VZero x m') := by have h := stepR_zero tt HPA.out.good HPA.out.zero; rw [hsr] at h; exact h
        obtain ⟨a0, a1, a2, a3, a4⟩ := ev
        have RS : Hid (Calls Try.prog 13 #[.pointer (some ⟨b2, 0, none⟩), .int .i64 tt] wA fun e w' => e = .returned (.tuple #[.agg #[.int .i64 a0, .int .i64 a1, .int .i64 a2, .int .i64 a3, .int .i64 a4], .int .i64 er]) ∧ ∃ T', ExtN T T' 1 wA ∧ RmAt w' T' 1 b2 gf2 cf2 x m' ∧ Keeps (Own T 1) wA w') := by
          have h := rstep_any wA T 1 b2 gf2 cf2 x m tt HPA.out.rm HPA.out.good HPA.out.zero
          rw [hsr] at h
          exact h
        have VS : Hid (∀ W T', VmAt W T' 2 b1 gf1 cf1 x m → Calls Try.prog 14 #[.pointer (some ⟨b1, 0, none⟩), .int .i64 tt] W fun e w' => e = .returned (.tuple #[.agg #[.int .i64 a0, .int .i64 a1, .int .i64 a2, .int .i64 a3, .int .i64 a4], .int .i64 er]) ∧ VmAt w' T' 2 b1 gf1 cf1 x m' ∧ Keeps (Own T' 2) W w') := fun W T' hv => by
          have h := vstep_any W T' 2 b1 gf1 cf1 x m tt hv HPA.out.good
          rw [hsr] at h
          exact h
        clear hsr
        go_upto_region 13 with fail
        go_upto_region 14 with (go_at_call 13; refine RS.out.mono ?_; rintro e wB ⟨rfl, T', hext, hrm, hk⟩; have HEX := Lib.hid hext; have HRMB := Lib.hid hrm; have KB := Lib.hid hk; clear hext hrm hk)
        have VS' := Lib.hid (VS.out _ T' (HPA.out.mid HEX.out HRMB.out.ok KB.out (Keeps.refl _ _)))
        clear VS RS
        go_wp2_with (go_at_call 14; refine VS'.out.mono ?_; rintro e wD ⟨rfl, hvm, hk⟩; have HVMD := Lib.hid hvm; have KD := Lib.hid hk; clear hvm hk)
        have HPD := Lib.hid (HPA.out.step HEX.out HRMB.out KB.out (Keeps.refl _ _) HVMD.out KD.out HG'.out HZ'.out)
        exact ⟨⟨i + 1, T', m', by omega, by go_num, HPD.out⟩, by simp [intOf]; omega⟩
      · have hin : half = i := by omega
        subst hin
        clear hlt hi
        go_upto_region 15 with fail
        have HSW := HSL.out
        go_upto_region 16 with fail
        obtain ⟨no, hno⟩ : ∃ z, z = nr - half := ⟨_, rfl⟩
        obtain ⟨ys, hys⟩ : ∃ z, z = rs.drop half := ⟨_, rfl⟩
        have hnl : no = ys.length := by rw [hys, List.length_drop, hno, HNR.out.1]
        have hONE : Hid (SrcAt w (.slice oa no oc) no (ints ys)) := by
          have h1 := HONE0.out w rs HROW.out
          rw [← hno, ← hys] at h1
          exact h1
        rw [← hno]
        have HNO : Hid (no = ys.length) := hnl
        clear hno hys hnl HSW HSL HONE0 HROW
        go_upto_region 17 with (go_at_call 15; refine (vcopy_any _ T 2 5 b1 gf1 cf1 x m hP.out.vm hP.out.good).mono ?_; rintro e wG ⟨c1, hf1, df1, T4, rfl, hv2, hx, hk⟩; have HV2 := Lib.hid hv2; have HX4 := Lib.hid hx; have KG := Lib.hid hk; clear hv2 hx hk)
        have HRC := Lib.hid (rcopy_any wG T4 1 6 b2 gf2 cf2 x m ((hP.out.rm.keeps KG.out (fun _ _ h => h)).ext HX4.out.1 HV2.out.ok) hP.out.good)
        go_upto_region 20 with (go_at_call 16; refine HRC.out.mono ?_; rintro e wH ⟨c2, hf2, df2, T5, rfl, hr2, hx, hk⟩; have HR2 := Lib.hid hr2; have HX5 := Lib.hid hx; have KH := Lib.hid hk; clear hr2 hx hk)
        have HQ0 : Hid (Quad w wH T5 b1 gf1 cf1 b2 gf2 cf2 c1 hf1 df1 c2 hf2 df2 x m m) := by
          have hn4 : NewT w T4 := NewT.ext hP.out.new HX4.out hP.out.keep.size
          have hk4 := hP.out.keep.trans0 KG.out
          refine ⟨((hP.out.vm.keeps (KG.out.trans0 KH.out) (fun _ _ h => h)).ext (HX4.out.1.trans HX5.out.1) HR2.out.ok), ((hP.out.rm.keeps (KG.out.trans0 KH.out) (fun _ _ h => h)).ext (HX4.out.1.trans HX5.out.1) HR2.out.ok), ((HV2.out.keeps KH.out (fun _ _ h => h)).ext HX5.out.1 HR2.out.ok), HR2.out, hP.out.good, hP.out.zero, hP.out.good, hP.out.zero, hn4.ext HX5.out hk4.size, hk4.trans0 KH.out⟩
        clear HRC HV2 HX4 KG HR2 HX5 KH hP HHF
        go_wp2_with fail
        go_loopw [18] (fun kv wr => ∃ (i : Nat) (T : Tags) (m m2 : Mach), i ≤ 10 ∧ kv = .int .i64 i ∧ Hid (Quad w wr T b1 gf1 cf1 b2 gf2 cf2 c1 hf1 df1 c2 hf2 df2 x m m2)) (fun kv _ => 10 - (intOf kv).toNat)
        case atStart => exact ⟨0, T5, m, m, Nat.zero_le _, rfl, HQ0.out⟩
        case round =>
          clear HQ0
          obtain ⟨i, T, m, m2, hi, rfl, hP⟩ := hrel
          by_cases h10 : i < 10
          · have i1 : (0 : Int) ≤ i := by omega
            have i10 : (i : Int) < 10 := by omega
            by_cases hlt : i < no
            · have i2 : (i : Int) < no := by omega
              obtain ⟨g, o, rfl, c0⟩ := row_elem (hONE.out.keeps0 hP.out.keep) HNO.out hlt
              generalize ys.getD i 0 = r at c0
              obtain ⟨es, hes⟩ : ∃ es, es = enabledN x m := ⟨_, rfl⟩
              have hel : es.length ≤ 1000 := by
                have h1 := enN_len x m m.fr.length
                have h2 := hP.out.good.len
                have h3 := (right_parts HRT.out).1.2
                rw [hes]; unfold enabledN; omega
              have RE : Hid (∀ W, Keeps NoBlk wr W → Calls Try.prog 12 #[.pointer (some ⟨b2, 0, none⟩)] W (NewInts W es)) := fun W hk => by rw [hes]; exact renabled_any W T 1 b2 gf2 cf2 x m (hP.out.rm.keeps hk (fun _ _ h => h)) hP.out.good
              have HEL := Lib.hid hel
              have HC0 := Lib.hid c0
              clear hes hel
              go_upto_region 24 with fail
              clear c0
              refine wp_region_table 7 (by kernel_rfl) (by kernel_rfl) (Keeps NoBlk) (Keeps.refl NoBlk) (fun a b c h h' => Keeps.trans0 h h') (VpF (.slice (some ⟨g, o, none⟩) no oc) ⟨g, o + i, none⟩ i r b2 es) VpF.st ?_ ?_
              · intro j o' hi ho vs W Q' hR hd hK
                have HR' : Keeps NoBlk wr W := ((Keeps.refl NoBlk wr).drew).trans0 hR
                have c0 := HR'.cell (p := ⟨g, _, none⟩) (fun h => h) HC0.out
                rcases (show j = 0 ∨ j = 1 ∨ j = 2 ∨ j = 3 ∨ j = 4 ∨ j = 5 ∨ j = 6 by omega) with rfl | rfl | rfl | rfl | rfl | rfl | rfl
                all_goals (simp only [List.getElem?_cons_zero, List.getElem?_cons_succ, Option.some.injEq] at ho; subst ho; simp only [putsTo, List.getElem?_cons_zero, List.getElem?_cons_succ, Option.bind_some, Option.bind, Act.put, List.setIfInBounds_toArray, List.set_cons_zero, List.set_cons_succ] at hK ⊢; clear hi)
                · clear hd
                  go_wp2_with fail
                  exact hK _ _ (Keeps.refl _ _) rfl
                · clear hd
                  go_wp2_with fail
                  exact hK _ _ (Keeps.refl _ _) rfl
                · have e0 : vs 0 = _ := hd 0 (by kernel_rfl)
                  have e1 : vs 1 = _ := hd 1 (by kernel_rfl)
                  rw [e0, e1] at hK ⊢
                  clear hd
                  go_wp2_with fail
                  exact hK _ _ (Keeps.refl _ _) rfl
                · have e2 : vs 2 = _ := hd 2 (by kernel_rfl)
                  rw [e2] at hK ⊢
                  clear hd
                  go_wp2_with fail
                  exact hK _ _ (Keeps.refl _ _) rfl
                · clear hd
                  go_wp2_with fail
                  exact hK _ _ (Keeps.refl _ _) rfl
                · have e4 : vs 4 = _ := hd 4 (by kernel_rfl)
                  rw [e4] at hK ⊢
                  clear hd
                  go_wp2_with (go_at_call 12; refine (RE.out _ HR').mono ?_; rintro e W1 ⟨v, rfl, g1, g2, g3⟩)
                  exact hK _ _ g2 ⟨NewRow.slice (w := w) g1, own_src g1⟩
                · have e3 : vs 3 = _ := hd 3 (by kernel_rfl)
                  obtain ⟨⟨ad, cap, e5⟩, h5⟩ := (hd 5 (by kernel_rfl) : (∃ ad cap, vs 5 = .slice ad es.length cap) ∧ SrcAt W (vs 5) es.length (ints es))
                  rw [e5] at h5
                  rw [e3, e5] at hK ⊢
                  have HPK := Lib.hid (pick_any W r _ es h5 HEL.out)
                  clear hd h5
                  go_wp2_with (go_at_call 11; refine HPK.out.mono ?_; rintro e W1 ⟨rfl, g1⟩)
                  exact hK _ _ g1 rfl
              intro vs wA hR hF
              have KA : Keeps NoBlk wr wA := ((Keeps.refl NoBlk wr).drew).trans0 hR
              have e6 : vs 6 = _ := hF 6 (by decide)
              simp only [putsTo, List.getElem?_cons_zero, List.getElem?_cons_succ, Option.bind_some, Option.bind, Act.put, List.setIfInBounds_toArray, List.set_cons_zero, List.set_cons_succ, List.drop_succ_cons, List.drop_zero]
              rw [e6]
              clear hF e6
              generalize vs 0 = yy0
              generalize vs 1 = yy1
              generalize vs 2 = yy2
              generalize vs 3 = yy3
              generalize vs 4 = yy4
              generalize vs 5 = yy5
              have HPA := Lib.hid (hP.out.keeps0 KA)
              generalize pickN r es = tt
              clear hR vs KA hP RE HC0 HEL
              obtain ⟨m', ev, er, hsr⟩ : ∃ m' ev er, stepR x m tt = (m', ev, er) := ⟨_, _, _, rfl⟩
              have HG' : Hid (VGood x m') := by have h := stepR_good tt HPA.out.good; rw [hsr] at h; exact h
              have HZ' : Hid (VZero x m') := by have h := stepR_zero tt HPA.out.good HPA.out.zero; rw [hsr] at h; exact h
              obtain ⟨a0, a1, a2, a3, a4⟩ := ev
              have RS : Hid (Calls Try.prog 13 #[.pointer (some ⟨b2, 0, none⟩), .int .i64 tt] wA fun e w' => e = .returned (.tuple #[.agg #[.int .i64 a0, .int .i64 a1, .int .i64 a2, .int .i64 a3, .int .i64 a4], .int .i64 er]) ∧ ∃ T', ExtN T T' 1 wA ∧ RmAt w' T' 1 b2 gf2 cf2 x m' ∧ Keeps (Own T 1) wA w') := by
                have h := rstep_any wA T 1 b2 gf2 cf2 x m tt HPA.out.rm HPA.out.good HPA.out.zero
                rw [hsr] at h
                exact h
              have VS : Hid (∀ W T', VmAt W T' 2 b1 gf1 cf1 x m → Calls Try.prog 14 #[.pointer (some ⟨b1, 0, none⟩), .int .i64 tt] W fun e w' => e = .returned (.tuple #[.agg #[.int .i64 a0, .int .i64 a1, .int .i64 a2, .int .i64 a3, .int .i64 a4], .int .i64 er]) ∧ VmAt w' T' 2 b1 gf1 cf1 x m' ∧ Keeps (Own T' 2) W w') := fun W T' hv => by
                have h := vstep_any W T' 2 b1 gf1 cf1 x m tt hv HPA.out.good
                rw [hsr] at h
                exact h
              clear hsr
              go_upto_region 25 with fail
              go_upto_region 26 with (go_at_call 13; refine RS.out.mono ?_; rintro e wB ⟨rfl, T', hext, hrm, hk⟩; have HEX := Lib.hid hext; have HRMB := Lib.hid hrm; have KB := Lib.hid hk; clear hext hrm hk)
              obtain ⟨q1, hq1⟩ : ∃ z, z = wB.heap.size := ⟨_, rfl⟩
              have HT1 : Hid (T' q1 = none) := HRMB.out.free (by omega)
              have hry : RowAt (wB.alloc (.cells #[.int .i64 a0, .int .i64 a1, .int .i64 a2, .int .i64 a3, .int .i64 a4] 40)) q1 [.int .i64 a0, .int .i64 a1, .int .i64 a2, .int .i64 a3, .int .i64 a4] := by rw [hq1]; exact RowAt.ofBlock (heap_alloc_new wB _)
              have hky : Keeps NoBlk wB (wB.alloc (.cells #[.int .i64 a0, .int .i64 a1, .int .i64 a2, .int .i64 a3, .int .i64 a4] 40)) := (Keeps.refl _ _).alloc _
              rw [← hq1]
              generalize wB.alloc (.cells #[.int .i64 a0, .int .i64 a1, .int .i64 a2, .int .i64 a3, .int .i64 a4] 40) = wC at hry hky ⊢
              have RY := Lib.hid hry
              have KYC := Lib.hid hky
              have VS' := Lib.hid (VS.out wC T' (HPA.out.mid1 HEX.out HRMB.out.ok KB.out hky))
              clear hry hky hq1 VS RS
              go_upto_region 27 with (go_at_call 14; refine VS'.out.mono ?_; rintro e wD ⟨rfl, hvm, hk⟩; have HVMD := Lib.hid hvm; have KD := Lib.hid hk; clear hvm hk)
              have HPD := Lib.hid (HPA.out.step1 HEX.out HRMB.out KB.out KYC.out HVMD.out KD.out HG'.out HZ'.out)
              have RYD : Hid (RowAt wD q1 [.int .i64 a0, .int .i64 a1, .int .i64 a2, .int .i64 a3, .int .i64 a4]) := RY.out.keeps KD.out (fun e => not_own HT1.out (.inr e))
              clear HT1 RY KYC VS' HRMB HEX KB HVMD KD HPA HG' HZ'
              obtain ⟨q2, hq2⟩ : ∃ z, z = wD.heap.size := ⟨_, rfl⟩
              have hry : RowAt (wD.alloc (.cells #[.int .i64 a0, .int .i64 a1, .int .i64 a2, .int .i64 a3, .int .i64 a4] 40)) q2 [.int .i64 a0, .int .i64 a1, .int .i64 a2, .int .i64 a3, .int .i64 a4] := by rw [hq2]; exact RowAt.ofBlock (heap_alloc_new wD _)
              have hky : Keeps NoBlk wD (wD.alloc (.cells #[.int .i64 a0, .int .i64 a1, .int .i64 a2, .int .i64 a3, .int .i64 a4] 40)) := (Keeps.refl _ _).alloc _
              rw [← hq2]
              generalize wD.alloc (.cells #[.int .i64 a0, .int .i64 a1, .int .i64 a2, .int .i64 a3, .int .i64 a4] 40) = wE at hry hky ⊢
              have RF1 := RYD.out.keeps hky (fun h => h)
              have hP := Lib.hid (HPD.out.keeps0 hky)
              have y0 := RF1.cell (k := 0) (v := .int .i64 a0) rfl
              have y1 := RF1.cell (k := 1) (v := .int .i64 a1) rfl
              have y2 := RF1.cell (k := 2) (v := .int .i64 a2) rfl
              have y3 := RF1.cell (k := 3) (v := .int .i64 a3) rfl
              have y4 := RF1.cell (k := 4) (v := .int .i64 a4) rfl
              have z0 := hry.cell (k := 0) (v := .int .i64 a0) rfl
              have z1 := hry.cell (k := 1) (v := .int .i64 a1) rfl
              have z2 := hry.cell (k := 2) (v := .int .i64 a2) rfl
              have z3 := hry.cell (k := 3) (v := .int .i64 a3) rfl
              have z4 := hry.cell (k := 4) (v := .int .i64 a4) rfl
              clear hry hky hq2 RYD HPD RF1
              go_upto_region 29 with fail
              clear y0 y1 y2 y3 y4 z0 z1 z2 z3 z4
              by_cases hlt2 : i < nw
              · have j2 : (i : Int) < nw := by omega
                obtain ⟨g, o, rfl, c0⟩ := row_elem (HTWO.out.keeps0 hP.out.keep) HNR.out.2 hlt2
                generalize ts.getD i 0 = r at c0
                obtain ⟨es, hes⟩ : ∃ es, es = enabledN x m2 := ⟨_, rfl⟩
                have hel : es.length ≤ 1000 := by
                  have h1 := enN_len x m2 m2.fr.length
                  have h2 := hP.out.good2.len
                  have h3 := (right_parts HRT.out).1.2
                  rw [hes]; unfold enabledN; omega
                have RE : Hid (∀ W, Keeps NoBlk wE W → Calls Try.prog 12 #[.pointer (some ⟨c2, 0, none⟩)] W (NewInts W es)) := fun W hk => by rw [hes]; exact renabled_any W T' 6 c2 hf2 df2 x m2 (hP.out.rm2.keeps hk (fun _ _ h => h)) hP.out.good2
                have HEL := Lib.hid hel
                have HC0 := Lib.hid c0
                clear hes hel
                go_upto_region 30 with fail
                clear c0
                refine wp_region_table 7 (by kernel_rfl) (by kernel_rfl) (Keeps NoBlk) (Keeps.refl NoBlk) (fun a b c h h' => Keeps.trans0 h h') (VpF (.slice (some ⟨g, o, none⟩) nw sc) ⟨g, o + i, none⟩ i r c2 es) VpF.st ?_ ?_
                · intro j o' hi ho vs W Q' hR hd hK
                  have HR' : Keeps NoBlk wE W := ((Keeps.refl NoBlk wE).drew).trans0 hR
                  have c0 := HR'.cell (p := ⟨g, _, none⟩) (fun h => h) HC0.out
                  rcases (show j = 0 ∨ j = 1 ∨ j = 2 ∨ j = 3 ∨ j = 4 ∨ j = 5 ∨ j = 6 by omega) with rfl | rfl | rfl | rfl | rfl | rfl | rfl
                  all_goals (simp only [List.getElem?_cons_zero, List.getElem?_cons_succ, Option.some.injEq] at ho; subst ho; simp only [putsTo, List.getElem?_cons_zero, List.getElem?_cons_succ, Option.bind_some, Option.bind, Act.put, List.setIfInBounds_toArray, List.set_cons_zero, List.set_cons_succ] at hK ⊢; clear hi)
                  · clear hd
                    go_wp2_with fail
                    exact hK _ _ (Keeps.refl _ _) rfl
                  · clear hd
                    go_wp2_with fail
                    exact hK _ _ (Keeps.refl _ _) rfl
                  · have e0 : vs 0 = _ := hd 0 (by kernel_rfl)
                    have e1 : vs 1 = _ := hd 1 (by kernel_rfl)
                    rw [e0, e1] at hK ⊢
                    clear hd
                    go_wp2_with fail
                    exact hK _ _ (Keeps.refl _ _) rfl
                  · have e2 : vs 2 = _ := hd 2 (by kernel_rfl)
                    rw [e2] at hK ⊢
                    clear hd
                    go_wp2_with fail
                    exact hK _ _ (Keeps.refl _ _) rfl
                  · clear hd
                    go_wp2_with fail
                    exact hK _ _ (Keeps.refl _ _) rfl
                  · have e4 : vs 4 = _ := hd 4 (by kernel_rfl)
                    rw [e4] at hK ⊢
                    clear hd
                    go_wp2_with (go_at_call 12; refine (RE.out _ HR').mono ?_; rintro e W1 ⟨v, rfl, g1, g2, g3⟩)
                    exact hK _ _ g2 ⟨NewRow.slice (w := w) g1, own_src g1⟩
                  · have e3 : vs 3 = _ := hd 3 (by kernel_rfl)
                    obtain ⟨⟨ad, cap, e5⟩, h5⟩ := (hd 5 (by kernel_rfl) : (∃ ad cap, vs 5 = .slice ad es.length cap) ∧ SrcAt W (vs 5) es.length (ints es))
                    rw [e5] at h5
                    rw [e3, e5] at hK ⊢
                    have HPK := Lib.hid (pick_any W r _ es h5 HEL.out)
                    clear hd h5
                    go_wp2_with (go_at_call 11; refine HPK.out.mono ?_; rintro e W1 ⟨rfl, g1⟩)
                    exact hK _ _ g1 rfl
                intro vs wA hR hF
                have KA : Keeps NoBlk wE wA := ((Keeps.refl NoBlk wE).drew).trans0 hR
                have e6 : vs 6 = _ := hF 6 (by decide)
                simp only [putsTo, List.getElem?_cons_zero, List.getElem?_cons_succ, Option.bind_some, Option.bind, Act.put, List.setIfInBounds_toArray, List.set_cons_zero, List.set_cons_succ, List.drop_succ_cons, List.drop_zero]
                rw [e6]
                clear hF e6
                generalize vs 0 = yy0
                generalize vs 1 = yy1
                generalize vs 2 = yy2
                generalize vs 3 = yy3
                generalize vs 4 = yy4
                generalize vs 5 = yy5
                have HPA := Lib.hid (hP.out.keeps0 KA)
                generalize pickN r es = tt
                clear hR vs KA hP RE HC0 HEL
                obtain ⟨m', ev, er, hsr⟩ : ∃ m' ev er, stepR x m2 tt = (m', ev, er) := ⟨_, _, _, rfl⟩
                have HG' : Hid (VGood x m') := by have h := stepR_good tt HPA.out.good2; rw [hsr] at h; exact h
                have HZ' : Hid (VZero x m') := by have h := stepR_zero tt HPA.out.good2 HPA.out.zero2; rw [hsr] at h; exact h
                obtain ⟨a0, a1, a2, a3, a4⟩ := ev
                have RS : Hid (Calls Try.prog 13 #[.pointer (some ⟨c2, 0, none⟩), .int .i64 tt] wA fun e w' => e = .returned (.tuple #[.agg #[.int .i64 a0, .int .i64 a1, .int .i64 a2, .int .i64 a3, .int .i64 a4], .int .i64 er]) ∧ ∃ T2, ExtN T' T2 6 wA ∧ RmAt w' T2 6 c2 hf2 df2 x m' ∧ Keeps (Own T' 6) wA w') := by
                  have h := rstep_any wA T' 6 c2 hf2 df2 x m2 tt HPA.out.rm2 HPA.out.good2 HPA.out.zero2
                  rw [hsr] at h
                  exact h
                have VS : Hid (∀ W T', VmAt W T' 5 c1 hf1 df1 x m2 → Calls Try.prog 14 #[.pointer (some ⟨c1, 0, none⟩), .int .i64 tt] W fun e w' => e = .returned (.tuple #[.agg #[.int .i64 a0, .int .i64 a1, .int .i64 a2, .int .i64 a3, .int .i64 a4], .int .i64 er]) ∧ VmAt w' T' 5 c1 hf1 df1 x m' ∧ Keeps (Own T' 5) W w') := fun W T' hv => by
                  have h := vstep_any W T' 5 c1 hf1 df1 x m2 tt hv HPA.out.good2
                  rw [hsr] at h
                  exact h
                clear hsr
                go_upto_region 31 with fail
                go_upto_region 32 with (go_at_call 13; refine RS.out.mono ?_; rintro e wB ⟨rfl, T', hext, hrm, hk⟩; have HEX := Lib.hid hext; have HRMB := Lib.hid hrm; have KB := Lib.hid hk; clear hext hrm hk)
                obtain ⟨q1, hq1⟩ : ∃ z, z = wB.heap.size := ⟨_, rfl⟩
                have HT1 : Hid (T' q1 = none) := HRMB.out.free (by omega)
                have hry : RowAt (wB.alloc (.cells #[.int .i64 a0, .int .i64 a1, .int .i64 a2, .int .i64 a3, .int .i64 a4] 40)) q1 [.int .i64 a0, .int .i64 a1, .int .i64 a2, .int .i64 a3, .int .i64 a4] := by rw [hq1]; exact RowAt.ofBlock (heap_alloc_new wB _)
                have hky : Keeps NoBlk wB (wB.alloc (.cells #[.int .i64 a0, .int .i64 a1, .int .i64 a2, .int .i64 a3, .int .i64 a4] 40)) := (Keeps.refl _ _).alloc _
                rw [← hq1]
                generalize wB.alloc (.cells #[.int .i64 a0, .int .i64 a1, .int .i64 a2, .int .i64 a3, .int .i64 a4] 40) = wC at hry hky ⊢
                have RY := Lib.hid hry
                have KYC := Lib.hid hky
                have VS' := Lib.hid (VS.out wC T' (HPA.out.mid2 HEX.out HRMB.out.ok KB.out hky))
                clear hry hky hq1 VS RS
                go_upto_region 33 with (go_at_call 14; refine VS'.out.mono ?_; rintro e wD ⟨rfl, hvm, hk⟩; have HVMD := Lib.hid hvm; have KD := Lib.hid hk; clear hvm hk)
                have HPD := Lib.hid (HPA.out.step2 HEX.out HRMB.out KB.out KYC.out HVMD.out KD.out HG'.out HZ'.out)
                have RYD : Hid (RowAt wD q1 [.int .i64 a0, .int .i64 a1, .int .i64 a2, .int .i64 a3, .int .i64 a4]) := RY.out.keeps KD.out (fun e => not_own HT1.out (.inr e))
                clear HT1 RY KYC VS' HRMB HEX KB HVMD KD HPA HG' HZ'
                obtain ⟨q2, hq2⟩ : ∃ z, z = wD.heap.size := ⟨_, rfl⟩
                have hry : RowAt (wD.alloc (.cells #[.int .i64 a0, .int .i64 a1, .int .i64 a2, .int .i64 a3, .int .i64 a4] 40)) q2 [.int .i64 a0, .int .i64 a1, .int .i64 a2, .int .i64 a3, .int .i64 a4] := by rw [hq2]; exact RowAt.ofBlock (heap_alloc_new wD _)
                have hky : Keeps NoBlk wD (wD.alloc (.cells #[.int .i64 a0, .int .i64 a1, .int .i64 a2, .int .i64 a3, .int .i64 a4] 40)) := (Keeps.refl _ _).alloc _
                rw [← hq2]
                generalize wD.alloc (.cells #[.int .i64 a0, .int .i64 a1, .int .i64 a2, .int .i64 a3, .int .i64 a4] 40) = wE at hry hky ⊢
                have RF1 := RYD.out.keeps hky (fun h => h)
                have hP := Lib.hid (HPD.out.keeps0 hky)
                have y0 := RF1.cell (k := 0) (v := .int .i64 a0) rfl
                have y1 := RF1.cell (k := 1) (v := .int .i64 a1) rfl
                have y2 := RF1.cell (k := 2) (v := .int .i64 a2) rfl
                have y3 := RF1.cell (k := 3) (v := .int .i64 a3) rfl
                have y4 := RF1.cell (k := 4) (v := .int .i64 a4) rfl
                have z0 := hry.cell (k := 0) (v := .int .i64 a0) rfl
                have z1 := hry.cell (k := 1) (v := .int .i64 a1) rfl
                have z2 := hry.cell (k := 2) (v := .int .i64 a2) rfl
                have z3 := hry.cell (k := 3) (v := .int .i64 a3) rfl
                have z4 := hry.cell (k := 4) (v := .int .i64 a4) rfl
                clear hry hky hq2 RYD HPD RF1
                go_wp2_with fail
                exact ⟨⟨i + 1, _, _, _, by omega, by go_num, hP.out⟩, by simp [intOf]; omega⟩
              · have j2 : decide ((i : Int) < nw) = false := decide_eq_false (by omega)
                have j3 : ¬ ((i : Int) < nw) := by omega
                go_wp2_with fail
                exact ⟨⟨i + 1, _, _, _, by omega, by go_num, hP.out⟩, by simp [intOf]; omega⟩
            · have i2 : decide ((i : Int) < no) = false := decide_eq_false (by omega)
              have i3 : ¬ ((i : Int) < no) := by omega
              by_cases hlt2 : i < nw
              · have j2 : (i : Int) < nw := by omega
                obtain ⟨g, o, rfl, c0⟩ := row_elem (HTWO.out.keeps0 hP.out.keep) HNR.out.2 hlt2
                generalize ts.getD i 0 = r at c0
                obtain ⟨es, hes⟩ : ∃ es, es = enabledN x m2 := ⟨_, rfl⟩
                have hel : es.length ≤ 1000 := by
                  have h1 := enN_len x m2 m2.fr.length
                  have h2 := hP.out.good2.len
                  have h3 := (right_parts HRT.out).1.2
                  rw [hes]; unfold enabledN; omega
                have RE : Hid (∀ W, Keeps NoBlk wr W → Calls Try.prog 12 #[.pointer (some ⟨c2, 0, none⟩)] W (NewInts W es)) := fun W hk => by rw [hes]; exact renabled_any W T 6 c2 hf2 df2 x m2 (hP.out.rm2.keeps hk (fun _ _ h => h)) hP.out.good2
                have HEL := Lib.hid hel
                have HC0 := Lib.hid c0
                clear hes hel
                go_upto_region 30 with fail
                clear c0
                refine wp_region_table 7 (by kernel_rfl) (by kernel_rfl) (Keeps NoBlk) (Keeps.refl NoBlk) (fun a b c h h' => Keeps.trans0 h h') (VpF (.slice (some ⟨g, o, none⟩) nw sc) ⟨g, o + i, none⟩ i r c2 es) VpF.st ?_ ?_
                · intro j o' hi ho vs W Q' hR hd hK
                  have HR' : Keeps NoBlk wr W := ((Keeps.refl NoBlk wr).drew).trans0 hR
                  have c0 := HR'.cell (p := ⟨g, _, none⟩) (fun h => h) HC0.out
                  rcases (show j = 0 ∨ j = 1 ∨ j = 2 ∨ j = 3 ∨ j = 4 ∨ j = 5 ∨ j = 6 by omega) with rfl | rfl | rfl | rfl | rfl | rfl | rfl
                  all_goals (simp only [List.getElem?_cons_zero, List.getElem?_cons_succ, Option.some.injEq] at ho; subst ho; simp only [putsTo, List.getElem?_cons_zero, List.getElem?_cons_succ, Option.bind_some, Option.bind, Act.put, List.setIfInBounds_toArray, List.set_cons_zero, List.set_cons_succ] at hK ⊢; clear hi)
                  · clear hd
                    go_wp2_with fail
                    exact hK _ _ (Keeps.refl _ _) rfl
                  · clear hd
                    go_wp2_with fail
                    exact hK _ _ (Keeps.refl _ _) rfl
                  · have e0 : vs 0 = _ := hd 0 (by kernel_rfl)
                    have e1 : vs 1 = _ := hd 1 (by kernel_rfl)
                    rw [e0, e1] at hK ⊢
                    clear hd
                    go_wp2_with fail
                    exact hK _ _ (Keeps.refl _ _) rfl
                  · have e2 : vs 2 = _ := hd 2 (by kernel_rfl)
                    rw [e2] at hK ⊢
                    clear hd
                    go_wp2_with fail
                    exact hK _ _ (Keeps.refl _ _) rfl
                  · clear hd
                    go_wp2_with fail
                    exact hK _ _ (Keeps.refl _ _) rfl
                  · have e4 : vs 4 = _ := hd 4 (by kernel_rfl)
                    rw [e4] at hK ⊢
                    clear hd
                    go_wp2_with (go_at_call 12; refine (RE.out _ HR').mono ?_; rintro e W1 ⟨v, rfl, g1, g2, g3⟩)
                    exact hK _ _ g2 ⟨NewRow.slice (w := w) g1, own_src g1⟩
                  · have e3 : vs 3 = _ := hd 3 (by kernel_rfl)
                    obtain ⟨⟨ad, cap, e5⟩, h5⟩ := (hd 5 (by kernel_rfl) : (∃ ad cap, vs 5 = .slice ad es.length cap) ∧ SrcAt W (vs 5) es.length (ints es))
                    rw [e5] at h5
                    rw [e3, e5] at hK ⊢
                    have HPK := Lib.hid (pick_any W r _ es h5 HEL.out)
                    clear hd h5
                    go_wp2_with (go_at_call 11; refine HPK.out.mono ?_; rintro e W1 ⟨rfl, g1⟩)
                    exact hK _ _ g1 rfl
                intro vs wA hR hF
                have KA : Keeps NoBlk wr wA := ((Keeps.refl NoBlk wr).drew).trans0 hR
                have e6 : vs 6 = _ := hF 6 (by decide)
                simp only [putsTo, List.getElem?_cons_zero, List.getElem?_cons_succ, Option.bind_some, Option.bind, Act.put, List.setIfInBounds_toArray, List.set_cons_zero, List.set_cons_succ, List.drop_succ_cons, List.drop_zero]
                rw [e6]
                clear hF e6
                generalize vs 0 = yy0
                generalize vs 1 = yy1
                generalize vs 2 = yy2
                generalize vs 3 = yy3
                generalize vs 4 = yy4
                generalize vs 5 = yy5
                have HPA := Lib.hid (hP.out.keeps0 KA)
                generalize pickN r es = tt
                clear hR vs KA hP RE HC0 HEL
                obtain ⟨m', ev, er, hsr⟩ : ∃ m' ev er, stepR x m2 tt = (m', ev, er) := ⟨_, _, _, rfl⟩
                have HG' : Hid (VGood x m') := by have h := stepR_good tt HPA.out.good2; rw [hsr] at h; exact h
                have HZ' : Hid (VZero x m') := by have h := stepR_zero tt HPA.out.good2 HPA.out.zero2; rw [hsr] at h; exact h
                obtain ⟨a0, a1, a2, a3, a4⟩ := ev
                have RS : Hid (Calls Try.prog 13 #[.pointer (some ⟨c2, 0, none⟩), .int .i64 tt] wA fun e w' => e = .returned (.tuple #[.agg #[.int .i64 a0, .int .i64 a1, .int .i64 a2, .int .i64 a3, .int .i64 a4], .int .i64 er]) ∧ ∃ T2, ExtN T T2 6 wA ∧ RmAt w' T2 6 c2 hf2 df2 x m' ∧ Keeps (Own T 6) wA w') := by
                  have h := rstep_any wA T 6 c2 hf2 df2 x m2 tt HPA.out.rm2 HPA.out.good2 HPA.out.zero2
                  rw [hsr] at h
                  exact h
                have VS : Hid (∀ W T', VmAt W T' 5 c1 hf1 df1 x m2 → Calls Try.prog 14 #[.pointer (some ⟨c1, 0, none⟩), .int .i64 tt] W fun e w' => e = .returned (.tuple #[.agg #[.int .i64 a0, .int .i64 a1, .int .i64 a2, .int .i64 a3, .int .i64 a4], .int .i64 er]) ∧ VmAt w' T' 5 c1 hf1 df1 x m' ∧ Keeps (Own T' 5) W w') := fun W T' hv => by
                  have h := vstep_any W T' 5 c1 hf1 df1 x m2 tt hv HPA.out.good2
                  rw [hsr] at h
                  exact h
                clear hsr
                go_upto_region 31 with fail
                go_upto_region 32 with (go_at_call 13; refine RS.out.mono ?_; rintro e wB ⟨rfl, T', hext, hrm, hk⟩; have HEX := Lib.hid hext; have HRMB := Lib.hid hrm; have KB := Lib.hid hk; clear hext hrm hk)
                obtain ⟨q1, hq1⟩ : ∃ z, z = wB.heap.size := ⟨_, rfl⟩
                have HT1 : Hid (T' q1 = none) := HRMB.out.free (by omega)
                have hry : RowAt (wB.alloc (.cells #[.int .i64 a0, .int .i64 a1, .int .i64 a2, .int .i64 a3, .int .i64 a4] 40)) q1 [.int .i64 a0, .int .i64 a1, .int .i64 a2, .int .i64 a3, .int .i64 a4] := by rw [hq1]; exact RowAt.ofBlock (heap_alloc_new wB _)
                have hky : Keeps NoBlk wB (wB.alloc (.cells #[.int .i64 a0, .int .i64 a1, .int .i64 a2, .int .i64 a3, .int .i64 a4] 40)) := (Keeps.refl _ _).alloc _
                rw [← hq1]
                generalize wB.alloc (.cells #[.int .i64 a0, .int .i64 a1, .int .i64 a2, .int .i64 a3, .int .i64 a4] 40) = wC at hry hky ⊢
                have RY := Lib.hid hry
                have KYC := Lib.hid hky
                have VS' := Lib.hid (VS.out wC T' (HPA.out.mid2 HEX.out HRMB.out.ok KB.out hky))
                clear hry hky hq1 VS RS
                go_upto_region 33 with (go_at_call 14; refine VS'.out.mono ?_; rintro e wD ⟨rfl, hvm, hk⟩; have HVMD := Lib.hid hvm; have KD := Lib.hid hk; clear hvm hk)
                have HPD := Lib.hid (HPA.out.step2 HEX.out HRMB.out KB.out KYC.out HVMD.out KD.out HG'.out HZ'.out)
                have RYD : Hid (RowAt wD q1 [.int .i64 a0, .int .i64 a1, .int .i64 a2, .int .i64 a3, .int .i64 a4]) := RY.out.keeps KD.out (fun e => not_own HT1.out (.inr e))
                clear HT1 RY KYC VS' HRMB HEX KB HVMD KD HPA HG' HZ'
                obtain ⟨q2, hq2⟩ : ∃ z, z = wD.heap.size := ⟨_, rfl⟩
                have hry : RowAt (wD.alloc (.cells #[.int .i64 a0, .int .i64 a1, .int .i64 a2, .int .i64 a3, .int .i64 a4] 40)) q2 [.int .i64 a0, .int .i64 a1, .int .i64 a2, .int .i64 a3, .int .i64 a4] := by rw [hq2]; exact RowAt.ofBlock (heap_alloc_new wD _)
                have hky : Keeps NoBlk wD (wD.alloc (.cells #[.int .i64 a0, .int .i64 a1, .int .i64 a2, .int .i64 a3, .int .i64 a4] 40)) := (Keeps.refl _ _).alloc _
                rw [← hq2]
                generalize wD.alloc (.cells #[.int .i64 a0, .int .i64 a1, .int .i64 a2, .int .i64 a3, .int .i64 a4] 40) = wE at hry hky ⊢
                have RF1 := RYD.out.keeps hky (fun h => h)
                have hP := Lib.hid (HPD.out.keeps0 hky)
                have y0 := RF1.cell (k := 0) (v := .int .i64 a0) rfl
                have y1 := RF1.cell (k := 1) (v := .int .i64 a1) rfl
                have y2 := RF1.cell (k := 2) (v := .int .i64 a2) rfl
                have y3 := RF1.cell (k := 3) (v := .int .i64 a3) rfl
                have y4 := RF1.cell (k := 4) (v := .int .i64 a4) rfl
                have z0 := hry.cell (k := 0) (v := .int .i64 a0) rfl
                have z1 := hry.cell (k := 1) (v := .int .i64 a1) rfl
                have z2 := hry.cell (k := 2) (v := .int .i64 a2) rfl
                have z3 := hry.cell (k := 3) (v := .int .i64 a3) rfl
                have z4 := hry.cell (k := 4) (v := .int .i64 a4) rfl
                clear hry hky hq2 RYD HPD RF1
                go_wp2_with fail
                exact ⟨⟨i + 1, _, _, _, by omega, by go_num, hP.out⟩, by simp [intOf]; omega⟩
              · have j2 : decide ((i : Int) < nw) = false := decide_eq_false (by omega)
                have j3 : ¬ ((i : Int) < nw) := by omega
                have HL1 := Lib.hid (looks_any _ T 2 1 b1 gf1 cf1 b2 gf2 cf2 x m hP.out.vm hP.out.rm hP.out.good)
                go_upto_region 36 with (go_at_call 10; refine HL1.out.mono ?_; rintro e wX ⟨rfl, hk⟩; have KX := Lib.hid hk; clear hk)
                have HQX := Lib.hid (hP.out.keeps0 KX.out)
                have HL2 := Lib.hid (looks_any _ T 5 6 c1 hf1 df1 c2 hf2 df2 x m2 HQX.out.vm2 HQX.out.rm2 HQX.out.good2)
                clear HL1 KX hP
                go_wp2_with (go_at_call 10; refine HL2.out.mono ?_; rintro e wY ⟨rfl, hk⟩; have KY := Lib.hid hk; clear hk)
                refine bodyPost_ret (v := .bool true) (by simp [results, Try.results4, go_sem]) rfl ?_
                exact ⟨rfl, HQX.out.keep.trans0 KY.out⟩
          · have i10 : decide ((i : Int) < 10) = false := decide_eq_false (by omega)
            have i11 : ¬ ((i : Int) < 10) := by omega
            have HL1 := Lib.hid (looks_any _ T 2 1 b1 gf1 cf1 b2 gf2 cf2 x m hP.out.vm hP.out.rm hP.out.good)
            go_upto_region 36 with (go_at_call 10; refine HL1.out.mono ?_; rintro e wX ⟨rfl, hk⟩; have KX := Lib.hid hk; clear hk)
            have HQX := Lib.hid (hP.out.keeps0 KX.out)
            have HL2 := Lib.hid (looks_any _ T 5 6 c1 hf1 df1 c2 hf2 df2 x m2 HQX.out.vm2 HQX.out.rm2 HQX.out.good2)
            clear HL1 KX hP
            go_wp2_with (go_at_call 10; refine HL2.out.mono ?_; rintro e wY ⟨rfl, hk⟩; have KY := Lib.hid hk; clear hk)
            refine bodyPost_ret (v := .bool true) (by simp [results, Try.results4, go_sem]) rfl ?_
            exact ⟨rfl, HQX.out.keep.trans0 KY.out⟩
  · have hbad : rightN x = false := by simpa using hright
    have HRN : Hid (∀ W, Keeps NoBlk w W → Calls Try.prog 6 #[.agg #[.slice ca nc cc, .int .i64 mu, .slice ta nt tc]] W fun e w' => e = .returned (.tuple #[.pointer none, .int .i64 100]) ∧ Keeps NoBlk W w') := fun W hk => by
      rw [hmu]
      exact rnew_bad W _ _ x (HI.out.keeps0 hk) hbad
    have HVN : Hid (∀ W, Keeps NoBlk w W → Calls Try.prog 8 #[.agg #[.slice ca nc cc, .int .i64 mu, .slice ta nt tc]] W fun e w' => e = .returned (.tuple #[.pointer none, .int .i64 100]) ∧ Keeps NoBlk W w') := fun W hk => by
      rw [hmu]
      exact vnew_bad W _ _ x (HI.out.keeps0 hk) hbad
    clear h hrow htwo hnc hnt hmu hnr hnw hright hbad
    go_enter Try.func4, Try.ntmps4
    go_upto_region 2 with (go_at_call 5; refine (shown_any _).mono ?_; rintro e w1 ⟨rfl, hk⟩; have K1 := Lib.hid hk; clear hk)
    obtain ⟨bx, hbx⟩ : ∃ z, z = w.heap.size := ⟨_, rfl⟩
    have HX : Hid (RowAt w1 bx [.slice ca nc cc, .int .i64 mu, .slice ta nt tc]) := by show RowAt _ _ _; rw [hbx]; exact (RowAt.ofBlock (heap_alloc_new w _)).keeps K1.out (fun h => h)
    have KW1 : Hid (Keeps NoBlk w w1) := ((Keeps.refl _ _).alloc _).trans0 K1.out
    rw [← hbx]
    have x0 := HX.out.cell (k := 0) (v := .slice ca nc cc) rfl
    have x1 := HX.out.cell (k := 1) (v := .int .i64 mu) rfl
    have x2 := HX.out.cell (k := 2) (v := .slice ta nt tc) rfl
    clear hbx K1
    go_upto_region 3 with (go_at_call 6; refine (HRN.out _ KW1.out).mono ?_; rintro e w2 ⟨rfl, hk⟩; have K2 := Lib.hid hk; clear hk)
    have HX2 := Lib.hid (HX.out.keeps K2.out (fun h => h))
    have KW2 : Hid (Keeps NoBlk w w2) := KW1.out.trans0 K2.out
    clear x0 x1 x2 HRN
    have x0 := HX2.out.cell (k := 0) (v := .slice ca nc cc) rfl
    have x1 := HX2.out.cell (k := 1) (v := .int .i64 mu) rfl
    have x2 := HX2.out.cell (k := 2) (v := .slice ta nt tc) rfl
    go_wp2_with (go_at_call 8; refine (HVN.out _ KW2.out).mono ?_; rintro e w5 ⟨rfl, hk⟩; have K5 := Lib.hid hk; clear hk)
    refine bodyPost_ret (v := .bool true) (by simp [results, Try.results4, go_sem]) rfl ?_
    exact ⟨rfl, KW2.out.trans0 K5.out⟩
end Go.Proofs.Ytmkfpkficmmlgaa
