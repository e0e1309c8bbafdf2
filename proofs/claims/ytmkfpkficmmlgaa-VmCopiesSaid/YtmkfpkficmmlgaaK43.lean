/- Package vm: Copy. -/
import Derived.Test.YtmkfpkficmmlgaaK42
namespace Go.Proofs.Ytmkfpkficmmlgaa
open Go.RowKit
set_option linter.unusedVariables false
set_option linter.unusedSimpArgs false
set_option linter.unnecessarySimpa false

/-- what the operations of Copy's head leave -/
def VcF (b B : Nat) (cv ov dv : Value) (xs ys : List Int) (j : Nat) (v : Value) (W : World) : Prop :=
  match j with
  | 0 => v = .pointer (some ⟨b, 0, none⟩)
  | 1 => v = .pointer (some ⟨b, 0, none⟩)
  | 2 => v = .pointer (some ⟨b, 0, none⟩)
  | 3 => v = cv
  | 4 => ∃ ad cap, v = .slice ad xs.length cap ∧ W.ownsRow 0 3 1 v xs.length (ints xs) ∧ ∀ kb, v.ownBlock = some kb → B ≤ kb
  | 5 => v = .pointer (some ⟨b, 0, none⟩)
  | 6 => v = .pointer (some ⟨b, 0, none⟩)
  | 7 => v = .pointer (some ⟨b, 1, none⟩)
  | 8 => v = ov
  | 9 => ∃ ad cap, v = .slice ad ys.length cap ∧ W.ownsRow 0 3 1 v ys.length (ints ys) ∧ ∀ kb, v.ownBlock = some kb → B ≤ kb
  | 10 => v = .pointer (some ⟨b, 0, none⟩)
  | 11 => v = .pointer (some ⟨b, 0, none⟩)
  | 12 => v = .pointer (some ⟨b, 2, none⟩)
  | 13 => v = dv
  | _ => True
theorem VcF.st {b B : Nat} {cv ov dv : Value} {xs ys : List Int} (j : Nat) (v : Value) (W W' : World) (h : VcF b B cv ov dv xs ys j v W) (hk : Keeps NoBlk W W') : VcF b B cv ov dv xs ys j v W' := by
  unfold VcF at *
  split at h
  case h_5 => obtain ⟨ad, cap, e, h1, h2⟩ := h; exact ⟨ad, cap, e, ownsRow_keeps h1 hk (fun _ _ h => h), h2⟩
  case h_10 => obtain ⟨ad, cap, e, h1, h2⟩ := h; exact ⟨ad, cap, e, ownsRow_keeps h1 hk (fun _ _ h => h), h2⟩
  all_goals first | exact h | trivial
def VcB (j : Nat) (v : Value) : Option Nat := if j = 4 ∨ j = 9 then v.ownBlock else none
theorem VcB.lt {b B : Nat} {cv ov dv : Value} {xs ys : List Int} (j : Nat) (v : Value) (W : World) (kb : Nat) (h : VcF b B cv ov dv xs ys j v W) (hb : VcB j v = some kb) : kb < W.heap.size := by
  unfold VcB at hb
  split at hb
  · rename_i hj
    rcases hj with rfl | rfl
    · obtain ⟨ad, cap, e, h1, h2⟩ := h; exact ownsRow_lt h1 hb
    · obtain ⟨ad, cap, e, h1, h2⟩ := h; exact ownsRow_lt h1 hb
  · cases hb
/-- what the operations of a round leave -/
def VcG (b q B : Nat) (fv rv : Value) (f : Fr) (j : Nat) (v : Value) (W : World) : Prop :=
  match j with
  | 0 => v = .pointer (some ⟨b, 0, none⟩)
  | 1 => v = .pointer (some ⟨b, 0, none⟩)
  | 2 => v = .pointer (some ⟨b, 0, none⟩)
  | 3 => v = .pointer (some ⟨b, 3, none⟩)
  | 4 => v = fv
  | 5 => v = .pointer (some ⟨q, 0, none⟩)
  | 6 => v = .int .i64 f.st
  | 7 => v = .pointer (some ⟨q, 1, none⟩)
  | 8 => v = rv
  | 9 => ∃ ad cap, v = .slice ad f.regs.length cap ∧ W.ownsRow 0 3 1 v f.regs.length (ints f.regs) ∧ ∀ kb, v.ownBlock = some kb → B ≤ kb
  | 10 => v = .pointer (some ⟨q, 2, none⟩)
  | 11 => v = .int .i64 f.at_
  | 12 => ∃ ad cap, v = .agg #[.int .i64 f.st, .slice ad f.regs.length cap, .int .i64 f.at_] ∧ W.ownsRow 0 3 1 (.slice ad f.regs.length cap) f.regs.length (ints f.regs) ∧ ∀ kb, (Value.slice ad f.regs.length cap).ownBlock = some kb → B ≤ kb
  | 13 => ∃ g ad cap, v = .slice (some ⟨g, 0, none⟩) 1 1 ∧ RowAt W g (HFr.mk f.st (.slice ad f.regs.length cap) f.at_).cells ∧ W.ownsRow 0 3 1 (.slice ad f.regs.length cap) f.regs.length (ints f.regs) ∧ ∀ kb, (Value.slice ad f.regs.length cap).ownBlock = some kb → B ≤ kb
  | _ => True
theorem VcG.st {b q B : Nat} {fv rv : Value} {f : Fr} (j : Nat) (v : Value) (W W' : World) (h : VcG b q B fv rv f j v W) (hk : Keeps NoBlk W W') : VcG b q B fv rv f j v W' := by
  unfold VcG at *
  split at h
  case h_10 => obtain ⟨ad, cap, e, h1, h2⟩ := h; exact ⟨ad, cap, e, ownsRow_keeps h1 hk (fun _ _ h => h), h2⟩
  case h_13 => obtain ⟨ad, cap, e, h1, h2⟩ := h; exact ⟨ad, cap, e, ownsRow_keeps h1 hk (fun _ _ h => h), h2⟩
  case h_14 => obtain ⟨g, ad, cap, e, h0, h1, h2⟩ := h; exact ⟨g, ad, cap, e, h0.keeps hk (fun h => h), ownsRow_keeps h1 hk (fun _ _ h => h), h2⟩
  all_goals first | exact h | trivial

theorem VmAt.frame {w : World} {T : Tags} {id b gf cf : Nat} {x : Img} {m : Mach} (h : VmAt w T id b gf cf x m) {i : Nat} {f : Fr} (hf : m.fr[i]? = some f) :
    ∃ rv, w.cell? ⟨gf, i * 3, none⟩ = some (.int .i64 f.st) ∧ w.cell? ⟨gf, i * 3 + 1, none⟩ = some rv ∧ w.cell? ⟨gf, i * 3 + 2, none⟩ = some (.int .i64 f.at_) ∧ SrcAt w rv f.regs.length (ints f.regs) := by
  obtain ⟨cv, ov, dv, h1, h2, h3⟩ := h.ex
  obtain ⟨H, hF⟩ := h2.frames
  obtain ⟨rv, ha, hr⟩ := hF.get hf
  exact ⟨rv, (hF.three ha).1, (hF.three ha).2.1, (hF.three ha).2.2, hr.src⟩

set_option maxRecDepth 8000 in
set_option maxHeartbeats 4000000 in
theorem vcopy_any (w : World) (T : Tags) (id0 id b gf cf : Nat) (x : Img) (m : Mach) (h : VmAt w T id0 b gf cf x m) (hg : VGood x m) :
    Calls Try.prog 15 #[.pointer (some ⟨b, 0, none⟩)] w fun e w' => ∃ b2 gf2 cf2 T', e = .returned (.pointer (some ⟨b2, 0, none⟩)) ∧ VmAt w' T' id b2 gf2 cf2 x m ∧ ExtI T T' id w ∧ Keeps NoBlk w w' := by
  have HV := Lib.hid h
  have HG := Lib.hid hg
  obtain ⟨cv, ov, dvv, hb, hcore, hcode⟩ := h.ex
  have HB0 := Lib.hid hb
  have hmc : m.cells.length ≤ 8 := by rw [hg.ok.cells]; exact (right_parts hg.right).2.1
  have hmo : m.owners.length ≤ 8 := by have := hg.ok.owners; have := (right_parts hg.right).2.2.1; omega
  have hmf : m.fr.length ≤ 8 ∧ m.fr.length ≠ 0 := by have := (right_parts hg.right).1; have := hg.ok.len; omega
  obtain ⟨ca, q0, rfl, _⟩ := hcore.cells
  obtain ⟨oa, q0', rfl, _⟩ := hcore.owners
  obtain ⟨dg, dcap, rfl, _⟩ := hcode
  have HC0 : Hid (∀ W, Keeps NoBlk w W → Calls Try.prog 21 #[.slice ca m.cells.length q0] W (NewRow 3 1 W m.cells.length (ints m.cells))) := fun W hk => clone_ints W _ m.cells ((hcore.cells.keeps hk (fun _ _ h => h)).src) (by omega)
  have HC1 : Hid (∀ W, Keeps NoBlk w W → Calls Try.prog 21 #[.slice oa m.owners.length q0'] W (NewRow 3 1 W m.owners.length (ints m.owners))) := fun W hk => clone_ints W _ m.owners ((hcore.owners.keeps hk (fun _ _ h => h)).src) (by omega)
  have HCD : Hid (CodeAt w T (.slice (some ⟨dg, 0, none⟩) x.threads.length dcap) x.threads) := by obtain ⟨a1, a2, a3, h1, h2, h3⟩ := h.ex; have e := (hb.cell (k := 2) rfl).symm.trans (h1.cell (k := 2) rfl); cases e; exact h3
  obtain ⟨xs, hxs⟩ : ∃ xs, xs = m.cells := ⟨_, rfl⟩
  obtain ⟨ys, hys⟩ : ∃ ys, ys = m.owners := ⟨_, rfl⟩
  obtain ⟨n, hn⟩ : ∃ n, n = m.fr.length := ⟨_, rfl⟩
  obtain ⟨nd, hnd⟩ : ∃ n, n = x.threads.length := ⟨_, rfl⟩
  rw [← hxs] at HC0 hmc
  rw [← hys] at HC1 hmo
  rw [← hnd] at HCD
  rw [← hxs, ← hys, ← hn, ← hnd] at HB0
  rw [← hn] at hmf
  have HX : Hid (xs = m.cells) := hxs
  have HY : Hid (ys = m.owners) := hys
  have HN : Hid (n = m.fr.length) := hn
  have n1 : n ≠ 0 := hmf.2
  have n2 : n ≤ 8 := hmf.1
  obtain ⟨nc, hnc⟩ : ∃ n, n = xs.length := ⟨_, rfl⟩
  obtain ⟨no, hno⟩ : ∃ n, n = ys.length := ⟨_, rfl⟩
  have HL : Hid (nc = xs.length ∧ no = ys.length) := ⟨hnc, hno⟩
  rw [← hnc] at HB0
  rw [← hno] at HB0
  rw [← hnc] at HC0
  rw [← hno] at HC1
  obtain ⟨k0, hk0, hw0, hw1, hw2⟩ := info_parts infoFr
  clear h hg hb hcore hxs hys hn hmf hnc hno hnd hmc hmo
  go_enter Try.func15, Try.ntmps15
  go_upto_region 1 with fail
  refine wp_region_table2 14 (by kernel_rfl) (by kernel_rfl) (Keeps NoBlk) (Keeps.refl NoBlk) (fun a b c h h' => Keeps.trans0 h h') (VcF b w.heap.size (.slice ca nc q0) (.slice oa no q0') (.slice (some ⟨dg, 0, none⟩) nd dcap) xs ys) VcF.st VcB VcB.lt ?_ ?_
  · intro i o hi ho vs W Q' hR hd hK0
    have HR' : Keeps NoBlk w W := ((Keeps.refl NoBlk w).drew).trans0 hR
    have hB : w.heap.size ≤ W.heap.size := HR'.size
    have hrow := HB0.out.keeps HR' (fun h => h)
    have x0 := hrow.cell (k := 0) (v := .slice ca nc q0) rfl
    have x1 := hrow.cell (k := 1) (v := .slice oa no q0') rfl
    have x2 := hrow.cell (k := 2) (v := .slice (some ⟨dg, 0, none⟩) nd dcap) rfl
    have HRW := Lib.hid HR'
    have hK := Lib.hid hK0
    clear hK0 hrow HR'
    rcases (show i = 0 ∨ i = 1 ∨ i = 2 ∨ i = 3 ∨ i = 4 ∨ i = 5 ∨ i = 6 ∨ i = 7 ∨ i = 8 ∨ i = 9 ∨ i = 10 ∨ i = 11 ∨ i = 12 ∨ i = 13 by omega) with rfl | rfl | rfl | rfl | rfl | rfl | rfl | rfl | rfl | rfl | rfl | rfl | rfl | rfl
    all_goals (simp only [List.getElem?_cons_zero, List.getElem?_cons_succ, Option.some.injEq] at ho; subst ho; have hK := hK.out; simp only [putsTo, List.getElem?_cons_zero, List.getElem?_cons_succ, Option.bind_some, Option.bind, Act.put, List.setIfInBounds_toArray, List.set_cons_zero, List.set_cons_succ] at hK ⊢; clear hi)
    · clear hd
      go_wp2_with fail
      exact hK _ _ (Keeps.refl _ _) rfl (fun kb e => by simp [VcB] at e)
    · have e0 : vs 0 = _ := hd 0 (by kernel_rfl)
      rw [e0] at hK ⊢
      clear hd
      go_wp2_with fail
      exact hK _ _ (Keeps.refl _ _) rfl (fun kb e => by simp [VcB] at e)
    · have e1 : vs 1 = _ := hd 1 (by kernel_rfl)
      rw [e1] at hK ⊢
      clear hd
      go_wp2_with fail
      exact hK _ _ (Keeps.refl _ _) rfl (fun kb e => by simp [VcB] at e)
    · have e2 : vs 2 = _ := hd 2 (by kernel_rfl)
      rw [e2] at hK ⊢
      clear hd
      go_wp2_with fail
      exact hK _ _ (Keeps.refl _ _) rfl (fun kb e => by simp [VcB] at e)
    · have e3 : vs 3 = _ := hd 3 (by kernel_rfl)
      rw [e3] at hK ⊢
      clear hd
      go_wp2_with (go_at_call 21; refine (HC0.out _ HRW.out).mono ?_; rintro e W1 ⟨ad, cap, rfl, g1, g2, g3⟩)
      have hx := HL.out.1; subst hx; exact hK _ _ g2 ⟨ad, cap, rfl, g1, fun kb e => Nat.le_trans hB (g3 kb e)⟩ (fun kb e => by simp only [VcB, true_or, or_true, if_true] at e; exact g3 kb e)
    · clear hd
      go_wp2_with fail
      exact hK _ _ (Keeps.refl _ _) rfl (fun kb e => by simp [VcB] at e)
    · have e5 : vs 5 = _ := hd 5 (by kernel_rfl)
      rw [e5] at hK ⊢
      clear hd
      go_wp2_with fail
      exact hK _ _ (Keeps.refl _ _) rfl (fun kb e => by simp [VcB] at e)
    · have e6 : vs 6 = _ := hd 6 (by kernel_rfl)
      rw [e6] at hK ⊢
      clear hd
      go_wp2_with fail
      exact hK _ _ (Keeps.refl _ _) rfl (fun kb e => by simp [VcB] at e)
    · have e7 : vs 7 = _ := hd 7 (by kernel_rfl)
      rw [e7] at hK ⊢
      clear hd
      go_wp2_with fail
      exact hK _ _ (Keeps.refl _ _) rfl (fun kb e => by simp [VcB] at e)
    · have e8 : vs 8 = _ := hd 8 (by kernel_rfl)
      rw [e8] at hK ⊢
      clear hd
      go_wp2_with (go_at_call 21; refine (HC1.out _ HRW.out).mono ?_; rintro e W1 ⟨ad, cap, rfl, g1, g2, g3⟩)
      have hx := HL.out.2; subst hx; exact hK _ _ g2 ⟨ad, cap, rfl, g1, fun kb e => Nat.le_trans hB (g3 kb e)⟩ (fun kb e => by simp only [VcB, true_or, or_true, if_true] at e; exact g3 kb e)
    · clear hd
      go_wp2_with fail
      exact hK _ _ (Keeps.refl _ _) rfl (fun kb e => by simp [VcB] at e)
    · have e10 : vs 10 = _ := hd 10 (by kernel_rfl)
      rw [e10] at hK ⊢
      clear hd
      go_wp2_with fail
      exact hK _ _ (Keeps.refl _ _) rfl (fun kb e => by simp [VcB] at e)
    · have e11 : vs 11 = _ := hd 11 (by kernel_rfl)
      rw [e11] at hK ⊢
      clear hd
      go_wp2_with fail
      exact hK _ _ (Keeps.refl _ _) rfl (fun kb e => by simp [VcB] at e)
    · have e12 : vs 12 = _ := hd 12 (by kernel_rfl)
      rw [e12] at hK ⊢
      clear hd
      go_wp2_with fail
      exact hK _ _ (Keeps.refl _ _) rfl (fun kb e => by simp [VcB] at e)
  · intro vs W hR hF hD
    have HR' : Keeps NoBlk w W := ((Keeps.refl NoBlk w).drew).trans0 hR
    have HKW := Lib.hid HR'
    obtain ⟨c1, q1, e4, hc1, hc2⟩ := (hF 4 (by decide) : ∃ ad cap, vs 4 = .slice ad xs.length cap ∧ W.ownsRow 0 3 1 (vs 4) xs.length (ints xs) ∧ ∀ kb, (vs 4).ownBlock = some kb → w.heap.size ≤ kb)
    obtain ⟨c2, q2, e9, ho1, ho2⟩ := (hF 9 (by decide) : ∃ ad cap, vs 9 = .slice ad ys.length cap ∧ W.ownsRow 0 3 1 (vs 9) ys.length (ints ys) ∧ ∀ kb, (vs 9).ownBlock = some kb → w.heap.size ≤ kb)
    have e13 : vs 13 = _ := hF 13 (by decide)
    have hap : ∀ kb, (vs 4).ownBlock = some kb → (vs 9).ownBlock ≠ some kb := fun kb e => hD 4 9 kb (by decide) (by decide) (by decide) (by simpa [VcB] using e)
    rw [e4] at hc1 hc2 hap
    rw [e9] at ho1 ho2 hap
    have hl := HL.out
    rw [← hl.1] at e4 hc1 hc2 hap
    rw [← hl.2] at e9 ho1 ho2 hap
    simp only [putsTo, List.getElem?_cons_zero, List.getElem?_cons_succ, Option.bind_some, Option.bind, Act.put, List.setIfInBounds_toArray, List.set_cons_zero, List.set_cons_succ, List.drop_succ_cons, List.drop_zero]
    rw [e4, e9, e13]
    clear hF hD e4 e9 e13 hl
    generalize vs 0 = y0
    generalize vs 1 = y1
    generalize vs 2 = y2
    generalize vs 3 = y3
    generalize vs 5 = y5
    generalize vs 6 = y6
    generalize vs 7 = y7
    generalize vs 8 = y8
    generalize vs 10 = y10
    generalize vs 11 = y11
    generalize vs 12 = y12
    clear vs HR' hR
    have HC := Lib.hid (And.intro hc1 (And.intro hc2 (And.intro ho1 (And.intro ho2 hap))))
    clear hc1 hc2 ho1 ho2 hap HC0 HC1
    go_upto_region 2 with fail
    obtain ⟨b2, hb2⟩ : ∃ z, z = W.heap.size := ⟨_, rfl⟩
    have hrow : RowAt (W.alloc (.cells #[.slice c1 nc q1, .slice c2 no q2, .slice (some ⟨dg, 0, none⟩) nd dcap, .slice none 0 0] 68)) b2 [.slice c1 nc q1, .slice c2 no q2, .slice (some ⟨dg, 0, none⟩) nd dcap, nilV] := by rw [hb2]; exact RowAt.ofBlock (heap_alloc_new W _)
    have hkb : Keeps NoBlk W (W.alloc (.cells #[.slice c1 nc q1, .slice c2 no q2, .slice (some ⟨dg, 0, none⟩) nd dcap, .slice none 0 0] 68)) := (Keeps.refl _ _).alloc _
    rw [← hb2]
    have hnb : ∀ kb, kb < W.heap.size → kb ≠ b2 := fun kb h => by omega
    have hbw : w.heap.size ≤ b2 := by have := HKW.out.size; omega
    generalize W.alloc (.cells #[.slice c1 nc q1, .slice c2 no q2, .slice (some ⟨dg, 0, none⟩) nd dcap, .slice none 0 0] 68) = wN at hrow hkb ⊢
    obtain ⟨T0, hS0⟩ : ∃ T', CyI w wN T T' id b2 71 [.slice c1 nc q1, .slice c2 no q2, .slice (some ⟨dg, 0, none⟩) nd dcap] 0 [] m.fr (.slice c1 nc q1) (.slice c2 no q2) xs ys nilV := by
      obtain ⟨h1, h2, h3, h4, h5⟩ := HC.out
      have hl := HL.out
      rw [hl.1] at h1
      rw [hl.2] at h3
      refine CyI.start (ec := 3) (eo := 3) HV.out.ok (HKW.out.trans0 hkb) hbw hrow ?_ ?_ ?_ ?_ h5
      · rw [hl.1]; exact ownsRow_keeps h1 hkb (fun _ _ h => h)
      · intro kb e; exact ⟨h2 kb e, hnb kb (ownsRow_lt (by rw [hl.1] at e ⊢; exact h1) e)⟩
      · rw [hl.2]; exact ownsRow_keeps h3 hkb (fun _ _ h => h)
      · intro kb e; exact ⟨h4 kb e, hnb kb (ownsRow_lt (by rw [hl.2] at e ⊢; exact h3) e)⟩
    have HS0 := Lib.hid hS0
    have HKN : Hid (Keeps NoBlk w wN) := HKW.out.trans0 hkb
    have x3 := (HB0.out.keeps HKN.out (fun h => h)).cell (k := 3) (v := .slice (some ⟨gf, 0, none⟩) n cf) rfl
    clear hb2 hrow hkb hnb hbw hS0 HC HKW
    obtain ⟨c, hc⟩ : ∃ c, c = Value.slice c1 nc q1 := ⟨_, rfl⟩
    obtain ⟨o, ho⟩ : ∃ c, c = Value.slice c2 no q2 := ⟨_, rfl⟩
    obtain ⟨dv, hdv⟩ : ∃ c, c = Value.slice (some ⟨dg, 0, none⟩) nd dcap := ⟨_, rfl⟩
    rw [← hc, ← ho, ← hdv] at HS0
    rw [← hdv] at HCD
    clear hc ho hdv
    go_wp2_with fail
    go_loopw [27] (fun kv wr => ∃ (k : Nat) (T' : Tags) (hs : List HFr) (fa : Option Addr) (fc : Nat), k ≤ n ∧ kv = .int .i64 k ∧ Hid (CyI w wr T T' id b2 71 [c, o, dv] k hs m.fr c o xs ys (.slice fa k fc))) (fun kv _ => n - (intOf kv).toNat)
    case atStart => exact ⟨0, T0, [], none, 0, Nat.zero_le _, rfl, HS0.out⟩
    case round =>
      obtain ⟨k, T', hs, fa, fc, hk, rfl, hS⟩ := hrel
      by_cases hlt : k < n
      · have i1 : (0 : Int) ≤ k := by omega
        have i2 : (k : Int) < n := by omega
        have hkm : k < m.fr.length := by rw [← HN.out]; exact hlt
        have hf : m.fr[k]? = some m.fr[k] := List.getElem?_eq_getElem hkm
        generalize m.fr[k] = f at hf
        have HF := Lib.hid hf
        obtain ⟨rv, f0, f1, f2, hsrc⟩ := (HV.out.keeps hS.out.keep (fun _ _ h => h)).frame hf
        have hfo := HG.out.ok.each k f hf
        have hkt : k < x.threads.length := by rw [← HG.out.ok.len]; exact hkm
        have hrl : f.regs.length ≤ 64 := by have h1 := hfo.regs; have h2 := (codN_parts (right_cod HG.out.right hkt)).1.2; omega
        obtain ⟨ra, rc, rfl, _⟩ := hsrc.ints
        have HSRC := Lib.hid hsrc
        have HC2 : Hid (∀ W, Keeps NoBlk wr W → Calls Try.prog 21 #[.slice ra f.regs.length rc] W (NewRow 3 1 W f.regs.length (ints f.regs))) := fun W hk => clone_ints W _ f.regs (HSRC.out.keeps0 hk) (by omega)
        have lg : gf < wr.heap.size := World.block_lt_of_cell? wr _ f0
        have ng : gf ≠ wr.heap.size := by omega
        obtain ⟨st, hst⟩ : ∃ z, z = f.st := ⟨_, rfl⟩
        obtain ⟨ft, hft⟩ : ∃ z, z = f.at_ := ⟨_, rfl⟩
        obtain ⟨rn, hrn⟩ : ∃ z, z = f.regs.length := ⟨_, rfl⟩
        rw [← hst] at f0
        rw [← hft] at f2
        rw [← hrn] at f1
        have HFV : Hid (st = f.st ∧ ft = f.at_ ∧ rn = f.regs.length) := ⟨hst, hft, hrn⟩
        clear x3 hf hkm hkt hfo hsrc hst hft hrn hrl
        go_upto_region 5 with fail
        obtain ⟨q, hq⟩ : ∃ z, z = wr.heap.size := ⟨_, rfl⟩
        have hrq : RowAt (wr.alloc (.cells #[.int .i64 st, .slice ra rn rc, .int .i64 ft] 71)) q [.int .i64 st, .slice ra rn rc, .int .i64 ft] := by rw [hq]; exact RowAt.ofBlock (heap_alloc_new wr _)
        have hkq : Keeps NoBlk wr (wr.alloc (.cells #[.int .i64 st, .slice ra rn rc, .int .i64 ft] 71)) := (Keeps.refl _ _).alloc _
        rw [← hq]
        have HQ : Hid (q = wr.heap.size) := hq
        generalize wr.alloc (.cells #[.int .i64 st, .slice ra rn rc, .int .i64 ft] 71) = w6 at hrq hkq ⊢
        have RQ := Lib.hid hrq
        have KQ := Lib.hid hkq
        have HS6 := Lib.hid (hS.out.keeps0 hkq)
        obtain ⟨z1, z2, z3⟩ := HFV.out
        subst z1 z2 z3
        clear hq hrq hkq f0 f1 f2 lg ng HFV
        refine wp_region_table3 14 (by kernel_rfl) (by kernel_rfl) _ (.pointer (some ⟨b2, 0, none⟩)) rfl (.inl ⟨rfl, fun _ => rfl⟩) (fun _ _ _ h => h) (Keeps NoBlk) (Keeps.refl NoBlk) (fun a b c h h' => Keeps.trans0 h h') (VcG b2 q w6.heap.size (.slice fa k fc) (.slice ra f.regs.length rc) f) VcG.st (fun _ => rfl) ?_ ?_
        · intro i o' hi1 hi ho vs W Q' hR hd hK
          have HR' : Keeps NoBlk w6 W := ((Keeps.refl NoBlk w6).drew).trans0 hR
          have hB : w6.heap.size ≤ W.heap.size := HR'.size
          have q0 := (RQ.out.keeps HR' (fun h => h)).cell (k := 0) (v := .int .i64 f.st) rfl
          have q1 := (RQ.out.keeps HR' (fun h => h)).cell (k := 1) (v := .slice ra f.regs.length rc) rfl
          have q2 := (RQ.out.keeps HR' (fun h => h)).cell (k := 2) (v := .int .i64 f.at_) rfl
          have d3 := (HS6.out.row.keeps HR' (fun h => h)).cell (k := 3) (v := .slice fa k fc) rfl
          have HC3 := Lib.hid (HC2.out W (KQ.out.trans0 HR'))
          clear HR'
          rcases (show i = 1 ∨ i = 2 ∨ i = 3 ∨ i = 4 ∨ i = 5 ∨ i = 6 ∨ i = 7 ∨ i = 8 ∨ i = 9 ∨ i = 10 ∨ i = 11 ∨ i = 12 ∨ i = 13 by omega) with rfl | rfl | rfl | rfl | rfl | rfl | rfl | rfl | rfl | rfl | rfl | rfl | rfl
          all_goals (simp only [List.getElem?_cons_zero, List.getElem?_cons_succ, Option.some.injEq] at ho; subst ho; simp only [putsTo, List.getElem?_cons_zero, List.getElem?_cons_succ, Option.bind_some, Option.bind, Act.put, List.setIfInBounds_toArray, List.set_cons_zero, List.set_cons_succ] at hK ⊢; clear hi hi1)
          · clear hd
            go_wp2_with fail
            exact hK _ _ (Keeps.refl _ _) rfl
          · have e1 : vs 1 = _ := hd 1 (by kernel_rfl)
            rw [e1] at hK ⊢
            clear hd
            go_wp2_with fail
            exact hK _ _ (Keeps.refl _ _) rfl
          · have e2 : vs 2 = _ := hd 2 (by kernel_rfl)
            rw [e2] at hK ⊢
            clear hd
            go_wp2_with fail
            exact hK _ _ (Keeps.refl _ _) rfl
          · have e3 : vs 3 = _ := hd 3 (by kernel_rfl)
            rw [e3] at hK ⊢
            clear hd
            go_wp2_with fail
            exact hK _ _ (Keeps.refl _ _) rfl
          · clear hd
            go_wp2_with fail
            exact hK _ _ (Keeps.refl _ _) rfl
          · have e5 : vs 5 = _ := hd 5 (by kernel_rfl)
            rw [e5] at hK ⊢
            clear hd
            go_wp2_with fail
            exact hK _ _ (Keeps.refl _ _) rfl
          · clear hd
            go_wp2_with fail
            exact hK _ _ (Keeps.refl _ _) rfl
          · have e7 : vs 7 = _ := hd 7 (by kernel_rfl)
            rw [e7] at hK ⊢
            clear hd
            go_wp2_with fail
            exact hK _ _ (Keeps.refl _ _) rfl
          · have e8 : vs 8 = _ := hd 8 (by kernel_rfl)
            rw [e8] at hK ⊢
            clear hd
            go_wp2_with (go_at_call 21; refine HC3.out.mono ?_; rintro e W1 ⟨ad, cap, rfl, g1, g2, g3⟩)
            exact hK _ _ g2 ⟨ad, cap, rfl, g1, fun kb e => Nat.le_trans hB (g3 kb e)⟩
          · clear hd
            go_wp2_with fail
            exact hK _ _ (Keeps.refl _ _) rfl
          · have e10 : vs 10 = _ := hd 10 (by kernel_rfl)
            rw [e10] at hK ⊢
            clear hd
            go_wp2_with fail
            exact hK _ _ (Keeps.refl _ _) rfl
          · have e6 : vs 6 = _ := hd 6 (by kernel_rfl)
            have e11 : vs 11 = _ := hd 11 (by kernel_rfl)
            obtain ⟨ad, cap, e9, h9, h9'⟩ := (hd 9 (by kernel_rfl) : ∃ ad cap, vs 9 = .slice ad f.regs.length cap ∧ W.ownsRow 0 3 1 (vs 9) f.regs.length (ints f.regs) ∧ ∀ kb, (vs 9).ownBlock = some kb → w6.heap.size ≤ kb)
            rw [e9] at h9 h9'
            rw [e6, e9, e11] at hK ⊢
            have H9 := Lib.hid (And.intro h9 h9')
            clear hd h9 h9'
            go_wp2_with fail
            exact hK _ _ (Keeps.refl _ _) ⟨ad, cap, rfl, H9.out⟩
          · obtain ⟨ad, cap, e12, h12⟩ := (hd 12 (by kernel_rfl) : ∃ ad cap, vs 12 = .agg #[.int .i64 f.st, .slice ad f.regs.length cap, .int .i64 f.at_] ∧ W.ownsRow 0 3 1 (.slice ad f.regs.length cap) f.regs.length (ints f.regs) ∧ ∀ kb, (Value.slice ad f.regs.length cap).ownBlock = some kb → w6.heap.size ≤ kb)
            rw [e12] at hK ⊢
            have H12 := Lib.hid h12
            clear hd h12
            go_wp2_with fail
            exact hK _ _ ((Keeps.refl _ _).alloc _) ⟨_, ad, cap, rfl, RowAt.ofBlock (heap_alloc_new W _), ownsRow_keeps H12.out.1 ((Keeps.refl NoBlk _).alloc _) (fun _ _ h => h), H12.out.2⟩
        · intro vs W hR hF
          have HR' : Keeps NoBlk w6 W := ((Keeps.refl NoBlk w6).drew).trans0 hR
          have e0 : vs 0 = _ := hF 0 (by decide)
          have e4 : vs 4 = _ := hF 4 (by decide)
          obtain ⟨gs, va, vc, e13, hgs, hv1, hv2⟩ := (hF 13 (by decide) : ∃ g ad cap, vs 13 = .slice (some ⟨g, 0, none⟩) 1 1 ∧ RowAt W g (HFr.mk f.st (.slice ad f.regs.length cap) f.at_).cells ∧ W.ownsRow 0 3 1 (.slice ad f.regs.length cap) f.regs.length (ints f.regs) ∧ ∀ kb, (Value.slice ad f.regs.length cap).ownBlock = some kb → w6.heap.size ≤ kb)
          have HGS := Lib.hid hgs
          have HV1 := Lib.hid (And.intro hv1 hv2)
          have HRW := Lib.hid HR'
          simp only [putsTo, List.getElem?_cons_zero, List.getElem?_cons_succ, Option.bind_some, Option.bind, Act.put, List.setIfInBounds_toArray, List.set_cons_zero, List.set_cons_succ, List.drop_succ_cons, List.drop_zero]
          rw [e0, e4, e13]
          clear hF e0 e4 e13
          generalize vs 1 = yy1
          generalize vs 2 = yy2
          generalize vs 3 = yy3
          generalize vs 5 = yy5
          generalize vs 6 = yy6
          generalize vs 7 = yy7
          generalize vs 8 = yy8
          generalize vs 9 = yy9
          generalize vs 10 = yy10
          generalize vs 11 = yy11
          generalize vs 12 = yy12
          have hl8 : k + 1 ≤ 8 := by omega
          clear HR' hR hgs hv1 hv2 HC2
          go_wp2_with (at_builtin; refine wpList_append_src _ (by rfl) _ _ 66 (by rfl) 0 71 k0 _ 3 40 Try.underlying66 hk0 hw0 hw1 hw2 rfl (by decide) (.slice fa k fc) k (frCells hs) (by rfl) (ownsRow_keeps HS6.out.fown HRW.out (fun _ _ h => h)) (.slice (some ⟨gs, 0, none⟩) 1 1) 1 (HFr.mk f.st (.slice va f.regs.length vc) f.at_).cells (by rfl) (RowAt.src HGS.out) rfl (by simp [HFr.cells, Value.oneCell']) (by unfold maxLen; omega) (by omega) (Nat.zero_le _) ?_; intro fa' fc' wB hout; have HO := Lib.hid hout; have HRB : Hid (RowAt wB b2 ([c, o, dv] ++ [.slice fa k fc])) := (HS6.out.keeps0 HRW.out).row.keeps (hout.keeps (S := fun q => (Value.slice fa k fc).ownBlock = some q) (Keeps.refl _ W) (fun q e _ => e)) (fun e => by have h1 := HS6.out.ftag b2 e; rw [HS6.out.tb] at h1; cases h1); have zrB := HRB.out.cell (k := 3) (v := .slice fa k fc) rfl; have zfB := HRB.out.free (k := 3) (by simp); clear hout)
          obtain ⟨T3, hS10⟩ := HS6.out.frStep HRW.out HF.out HV1.out.1 HV1.out.2 HO.out
          exact ⟨⟨k + 1, T3, _, fa', fc', by omega, by go_num, hS10⟩, by simp [intOf]; omega⟩
      · have hkn : n = k := by omega
        subst hkn
        clear hlt hk x3
        go_wp2_with fail
        go_ret
        obtain ⟨gf2, cf2, hvm⟩ : ∃ gf2 cf2, VmAt wr T' id b2 gf2 cf2 x m := by
          have h1 := hS.out
          rw [HX.out, HY.out] at h1
          have h2 := HCD.out
          exact h1.vm HN.out n1 h2
        exact ⟨b2, gf2, cf2, T', rfl, hvm, hS.out.ext, hS.out.keep⟩
end Go.Proofs.Ytmkfpkficmmlgaa
