/- The document's Copy. -/
import Derived.Test.YtmkfpkficmmlgaaK43
namespace Go.Proofs.Ytmkfpkficmmlgaa
open Go.RowKit
set_option linter.unusedVariables false
set_option linter.unusedSimpArgs false
set_option linter.unnecessarySimpa false

/-- what the operations ahead of an append of ints leave -/
def RyF (b b2 k : Nat) (cv : Value) (j : Nat) (v : Value) (W : World) : Prop :=
  match j with
  | 0 => v = .pointer (some ⟨b2, 0, none⟩)
  | 1 => v = .pointer (some ⟨b2, 0, none⟩)
  | 2 => v = .pointer (some ⟨b2, 0, none⟩)
  | 3 => v = .pointer (some ⟨b2, k, none⟩)
  | 4 => v = nilV
  | 5 => v = .pointer (some ⟨b, 0, none⟩)
  | 6 => v = .pointer (some ⟨b, 0, none⟩)
  | 7 => v = .pointer (some ⟨b, k, none⟩)
  | 8 => v = cv
  | _ => True
theorem RyF.st {b b2 k : Nat} {cv : Value} (j : Nat) (v : Value) (W W' : World) (h : RyF b b2 k cv j v W) (_ : Keeps NoBlk W W') : RyF b b2 k cv j v W' := h
/-- the thread's own copy, ahead of its registers -/
def RyG (b gf B k : Nat) (fv : Value) (st ft : Int) (j : Nat) (v : Value) (W : World) : Prop :=
  match j with
  | 0 => v = .pointer (some ⟨b, 0, none⟩)
  | 1 => v = .pointer (some ⟨b, 0, none⟩)
  | 2 => v = .pointer (some ⟨b, 5, none⟩)
  | 3 => v = fv
  | 4 => v = .int .i64 k
  | 5 => v = .pointer (some ⟨gf, k * 3, none⟩)
  | 6 => v = .pointer (some ⟨gf, k * 3, none⟩)
  | 7 => v = .int .i64 st
  | 8 => v = .pointer (some ⟨b, 0, none⟩)
  | 9 => v = .pointer (some ⟨b, 0, none⟩)
  | 10 => v = .pointer (some ⟨b, 5, none⟩)
  | 11 => v = fv
  | 12 => v = .int .i64 k
  | 13 => v = .pointer (some ⟨gf, k * 3, none⟩)
  | 14 => v = .pointer (some ⟨gf, k * 3 + 2, none⟩)
  | 15 => v = .int .i64 ft
  | 16 => v = .agg #[.int .i64 st, .slice none 0 0, .int .i64 ft]
  | 17 => ∃ q, v = .pointer (some ⟨q, 0, none⟩) ∧ B ≤ q ∧ ∃ u0 u1 u2, RowAt W q [u0, u1, u2]
  | _ => True
theorem RyG.st {b gf B k : Nat} {fv : Value} {st ft : Int} (j : Nat) (v : Value) (W W' : World) (h : RyG b gf B k fv st ft j v W) (hk : Keeps NoBlk W W') : RyG b gf B k fv st ft j v W' := by
  unfold RyG at *
  split at h
  case h_18 => obtain ⟨q, e, h1, u0, u1, u2, h2⟩ := h; exact ⟨q, e, h1, u0, u1, u2, h2.keeps hk (fun h => h)⟩
  all_goals first | exact h | trivial
/-- its registers -/
def RyH (b gf q B k : Nat) (fv rv : Value) (xs : List Int) (j : Nat) (v : Value) (W : World) : Prop :=
  match j with
  | 0 => v = .pointer (some ⟨q, 1, none⟩)
  | 1 => v = nilV
  | 2 => v = .pointer (some ⟨b, 0, none⟩)
  | 3 => v = .pointer (some ⟨b, 0, none⟩)
  | 4 => v = .pointer (some ⟨b, 5, none⟩)
  | 5 => v = fv
  | 6 => v = .int .i64 k
  | 7 => v = .pointer (some ⟨gf, k * 3, none⟩)
  | 8 => v = .pointer (some ⟨gf, k * 3 + 1, none⟩)
  | 9 => v = rv
  | 10 => ∃ ad cap, v = .slice ad xs.length cap ∧ W.ownsRow 0 3 1 v xs.length (ints xs) ∧ ∀ kb, v.ownBlock = some kb → B ≤ kb
  | 11 => v = .pointer (some ⟨q, 1, none⟩)
  | _ => True
theorem RyH.st {b gf q B k : Nat} {fv rv : Value} {xs : List Int} (j : Nat) (v : Value) (W W' : World) (h : RyH b gf q B k fv rv xs j v W) (hk : Keeps NoBlk W W') : RyH b gf q B k fv rv xs j v W' := by
  unfold RyH at *
  split at h
  case h_11 => obtain ⟨ad, cap, e, h1, h2⟩ := h; exact ⟨ad, cap, e, ownsRow_keeps h1 hk (fun _ _ h => h), h2⟩
  all_goals first | exact h | trivial
/-- the thread, ahead of its append -/
def RyK (b2 : Nat) (fv av : Value) (us : List Value) (j : Nat) (v : Value) (W : World) : Prop :=
  match j with
  | 0 => v = .pointer (some ⟨b2, 0, none⟩)
  | 1 => v = .pointer (some ⟨b2, 0, none⟩)
  | 2 => v = .pointer (some ⟨b2, 0, none⟩)
  | 3 => v = .pointer (some ⟨b2, 5, none⟩)
  | 4 => v = fv
  | 5 => v = av
  | 6 => ∃ g, v = .slice (some ⟨g, 0, none⟩) 1 1 ∧ RowAt W g us
  | _ => True
theorem RyK.st {b2 : Nat} {fv av : Value} {us : List Value} (j : Nat) (v : Value) (W W' : World) (h : RyK b2 fv av us j v W) (hk : Keeps NoBlk W W') : RyK b2 fv av us j v W' := by
  unfold RyK at *
  split at h
  case h_7 => obtain ⟨g, e, h1⟩ := h; exact ⟨g, e, h1.keeps hk (fun h => h)⟩
  all_goals first | exact h | trivial

theorem RmAt.frame {w : World} {T : Tags} {id b gf cf : Nat} {x : Img} {m : Mach} (h : RmAt w T id b gf cf x m) {i : Nat} {f : Fr} (hf : m.shade.fr[i]? = some f) :
    ∃ rv, w.cell? ⟨b, 5, none⟩ = some (.slice (some ⟨gf, 0, none⟩) m.fr.length cf) ∧ w.cell? ⟨gf, i * 3, none⟩ = some (.int .i64 f.st) ∧ w.cell? ⟨gf, i * 3 + 1, none⟩ = some rv ∧ w.cell? ⟨gf, i * 3 + 2, none⟩ = some (.int .i64 f.at_) ∧ SrcAt w rv f.regs.length (ints f.regs) := by
  obtain ⟨xc, xt, cv, ov, h1, h2, h3⟩ := h.ex
  obtain ⟨H, hF⟩ := h2.frames
  obtain ⟨rv, ha, hr⟩ := hF.get hf
  exact ⟨rv, h1.cell (k := 5) rfl, (hF.three ha).1, (hF.three ha).2.1, (hF.three ha).2.2, hr.src⟩
/-- an owned row's capacity covers its length; its start -/
theorem own_form {w : World} {e n : Nat} {ad : Option Addr} {k cap : Nat} {xs : List Value} (h : w.ownsRow 0 e 1 (.slice ad k cap) n xs) : True := trivial

set_option maxRecDepth 8000 in
set_option maxHeartbeats 4000000 in
theorem rcopy_any (w : World) (T : Tags) (id0 id b gf cf : Nat) (x : Img) (m : Mach) (h : RmAt w T id0 b gf cf x m) (hg : VGood x m) :
    Calls Try.prog 16 #[.pointer (some ⟨b, 0, none⟩)] w fun e w' => ∃ b2 gf2 cf2 T', e = .returned (.pointer (some ⟨b2, 0, none⟩)) ∧ RmAt w' T' id b2 gf2 cf2 x m ∧ ExtI T T' id w ∧ Keeps NoBlk w w' := by
  have HV := Lib.hid h
  have HG := Lib.hid hg
  obtain ⟨⟨xa, xn, xq⟩, xt, cv, ov, hb, hcore, hthr⟩ := h.ex
  have hmc : m.cells.length ≤ 8 := by rw [hg.ok.cells]; exact (right_parts hg.right).2.1
  have hmo : m.owners.length ≤ 8 := by have := hg.ok.owners; have := (right_parts hg.right).2.2.1; omega
  have hmf : m.fr.length ≤ 8 ∧ m.fr.length ≠ 0 := by have := (right_parts hg.right).1; have := hg.ok.len; omega
  have hcs : m.shade.cells = m.cells := rfl
  have hos : m.shade.owners = m.owners := rfl
  have hic := hcore.cells
  have hio := hcore.owners
  rw [hcs] at hic
  rw [hos] at hio
  obtain ⟨ca, q0, rfl, _⟩ := _root_.id hic
  obtain ⟨oa, q0', rfl, _⟩ := _root_.id hio
  have HTH := Lib.hid hthr
  obtain ⟨ta, tc, rfl, _⟩ := hthr
  change RowAt w b [.slice xa xn xq, .int .i64 x.mutexes, .slice ta x.threads.length tc, .slice ca m.cells.length q0, .slice oa m.owners.length q0', .slice (some ⟨gf, 0, none⟩) m.fr.length cf] at hb
  have HB0 := Lib.hid hb
  have HSC : Hid (SrcAt w (.slice ca m.cells.length q0) m.cells.length (ints m.cells)) := hic.src
  have HSO : Hid (SrcAt w (.slice oa m.owners.length q0') m.owners.length (ints m.owners)) := hio.src
  obtain ⟨xs, hxs⟩ : ∃ xs, xs = m.cells := ⟨_, rfl⟩
  obtain ⟨ys, hys⟩ : ∃ ys, ys = m.owners := ⟨_, rfl⟩
  obtain ⟨n, hn⟩ : ∃ n, n = m.fr.length := ⟨_, rfl⟩
  obtain ⟨nt, hnt⟩ : ∃ n, n = x.threads.length := ⟨_, rfl⟩
  obtain ⟨mu, hmu⟩ : ∃ n, n = x.mutexes := ⟨_, rfl⟩
  obtain ⟨nc, hnc⟩ : ∃ n, n = m.cells.length := ⟨_, rfl⟩
  obtain ⟨no, hno⟩ : ∃ n, n = m.owners.length := ⟨_, rfl⟩
  have HL : Hid (n = m.fr.length ∧ nc = xs.length ∧ no = ys.length ∧ xs = m.cells ∧ ys = m.owners ∧ nt = x.threads.length ∧ mu = x.mutexes) := ⟨hn, by rw [hxs]; exact hnc, by rw [hys]; exact hno, hxs, hys, hnt, hmu⟩
  rw [← hn, ← hnc, ← hno, ← hnt, ← hmu] at HB0
  rw [← hnc, ← hxs] at HSC
  rw [← hno, ← hys] at HSO
  rw [← hnt] at HTH
  rw [← hnc] at hmc
  rw [← hno] at hmo
  rw [← hn] at hmf
  have n1 : n ≠ 0 := hmf.2
  have n2 : n ≤ 8 := hmf.1
  obtain ⟨i0, hi0, hz0, hz1, hz2⟩ := info_parts infoInt
  obtain ⟨k0, hk0, hw0, hw1, hw2⟩ := info_parts infoThr
  have HLX : Hid ((ints xs).length = nc * 1) := by show _ = _; rw [ints_len, HL.out.2.1, Nat.mul_one]
  have HLY : Hid ((ints ys).length = no * 1) := by show _ = _; rw [ints_len, HL.out.2.2.1, Nat.mul_one]
  have x0 := HB0.out.cell (k := 0) (v := .slice xa xn xq) rfl
  have x1 := HB0.out.cell (k := 1) (v := .int .i64 mu) rfl
  have x2 := HB0.out.cell (k := 2) (v := .slice ta nt tc) rfl
  clear h hg hb hcore hic hio hcs hos hxs hys hn hmf hnc hno hnt hmu
  go_enter Try.func16, Try.ntmps16
  go_upto_region 2 with fail
  obtain ⟨b2, hb2⟩ : ∃ z, z = w.heap.size := ⟨_, rfl⟩
  have hrow : RowAt (w.alloc (.cells #[.slice xa xn xq, .int .i64 mu, .slice ta nt tc, .slice none 0 0, .slice none 0 0, .slice none 0 0] 59)) b2 [.slice xa xn xq, .int .i64 mu, .slice ta nt tc, nilV, nilV, nilV] := by rw [hb2]; exact RowAt.ofBlock (heap_alloc_new w _)
  have hkb : Keeps NoBlk w (w.alloc (.cells #[.slice xa xn xq, .int .i64 mu, .slice ta nt tc, .slice none 0 0, .slice none 0 0, .slice none 0 0] 59)) := (Keeps.refl _ _).alloc _
  have HB2 : Hid (b2 = w.heap.size) := hb2
  rw [← hb2]
  generalize w.alloc (.cells #[.slice xa xn xq, .int .i64 mu, .slice ta nt tc, .slice none 0 0, .slice none 0 0, .slice none 0 0] 59) = w2 at hrow hkb ⊢
  have HROW := Lib.hid hrow
  have HK2 := Lib.hid hkb
  have HBN : Hid (b ≠ b2) := fun e => by have h1 := HB0.out.lt (by simp); have h2 := HB2.out; omega
  clear hb2 hrow hkb x0 x1 x2
  refine wp_region_table3 9 (by kernel_rfl) (by kernel_rfl) _ (.pointer (some ⟨b2, 0, none⟩)) rfl (.inl ⟨rfl, fun _ => rfl⟩) (fun _ _ _ h => h) (Keeps NoBlk) (Keeps.refl NoBlk) (fun a b c h h' => Keeps.trans0 h h') (RyF b b2 3 (.slice ca nc q0)) RyF.st (fun _ => rfl) ?_ ?_
  · intro i o' hi1 hi ho vs W Q' hR hd hK
    have HR' : Keeps NoBlk w2 W := ((Keeps.refl NoBlk w2).drew).trans0 hR
    have x3 := (HROW.out.keeps HR' (fun h => h)).cell (k := 3) (v := nilV) rfl
    have x0 := ((HB0.out.keeps HK2.out (fun h => h)).keeps HR' (fun h => h)).cell (k := 3) (v := .slice ca nc q0) rfl
    clear HR'
    rcases (show i = 1 ∨ i = 2 ∨ i = 3 ∨ i = 4 ∨ i = 5 ∨ i = 6 ∨ i = 7 ∨ i = 8 by omega) with rfl | rfl | rfl | rfl | rfl | rfl | rfl | rfl
    all_goals (simp only [List.getElem?_cons_zero, List.getElem?_cons_succ, Option.some.injEq] at ho; subst ho; simp only [putsTo, List.getElem?_cons_zero, List.getElem?_cons_succ, Option.bind_some, Option.bind, Act.put, List.setIfInBounds_toArray, List.set_cons_zero, List.set_cons_succ] at hK ⊢; clear hi hi1)
    · clear hd
      go_wp2_with fail
      exact hK _ _ (Keeps.refl _ _) rfl
    · have e1 : vs 1 = _ := hd 1 (by kernel_rfl)
      rw [e1] at hK ⊢
      clear hd
      go_wp2_with fail
      exact hK _ _ (Keeps.refl _ _) rfl
    · have e2 : vs 2 = _ := hd 2 (by kernel_rfl)
      rw [e2] at hK ⊢
      clear hd
      go_wp2_with fail
      exact hK _ _ (Keeps.refl _ _) rfl
    · have e3 : vs 3 = _ := hd 3 (by kernel_rfl)
      rw [e3] at hK ⊢
      clear hd
      go_wp2_with fail
      exact hK _ _ (Keeps.refl _ _) rfl
    · clear hd
      go_wp2_with fail
      exact hK _ _ (Keeps.refl _ _) rfl
    · have e5 : vs 5 = _ := hd 5 (by kernel_rfl)
      rw [e5] at hK ⊢
      clear hd
      go_wp2_with fail
      exact hK _ _ (Keeps.refl _ _) rfl
    · have e6 : vs 6 = _ := hd 6 (by kernel_rfl)
      rw [e6] at hK ⊢
      clear hd
      go_wp2_with fail
      exact hK _ _ (Keeps.refl _ _) rfl
    · have e7 : vs 7 = _ := hd 7 (by kernel_rfl)
      rw [e7] at hK ⊢
      clear hd
      go_wp2_with fail
      exact hK _ _ (Keeps.refl _ _) rfl
  · intro vs W hR hF
    have HR' : Keeps NoBlk w2 W := ((Keeps.refl NoBlk w2).drew).trans0 hR
    have e0 : vs 0 = _ := hF 0 (by decide)
    have e4 : vs 4 = _ := hF 4 (by decide)
    have e8 : vs 8 = _ := hF 8 (by decide)
    have HRW := Lib.hid HR'
    simp only [putsTo, List.getElem?_cons_zero, List.getElem?_cons_succ, Option.bind_some, Option.bind, Act.put, List.setIfInBounds_toArray, List.set_cons_zero, List.set_cons_succ, List.drop_succ_cons, List.drop_zero]
    rw [e0, e4, e8]
    clear hF e0 e4 e8
    generalize vs 1 = y1
    generalize vs 2 = y2
    generalize vs 3 = y3
    generalize vs 5 = y5
    generalize vs 6 = y6
    generalize vs 7 = y7
    have HSRC : Hid (SrcAt W (.slice ca nc q0) nc (ints xs)) := HSC.out.keeps0 (HK2.out.trans0 HRW.out)
    clear HR' hR vs
    go_upto_region 3 with (at_builtin; refine wpList_append_src _ (by rfl) _ _ 22 (by rfl) 0 3 i0 _ 1 8 Try.underlying22 hi0 hz0 hz1 hz2 rfl (by decide) nilV 0 [] (by rfl) (World.ownsRow_nil _ _ _ _) (.slice ca nc q0) nc (ints xs) (by rfl) HSRC.out HLX.out (ints_one xs) (by unfold maxLen; omega) (by omega) (Nat.zero_le _) ?_; intro c1 q1 w3 hout; have HO := Lib.hid hout; have K3 : Hid (Keeps NoBlk W w3) := hout.keeps (S := NoBlk) (Keeps.refl _ W) (fun q e _ => by simp [nilV, Value.ownBlock] at e); have HR3 : Hid (RowAt w3 b2 [.slice xa xn xq, .int .i64 mu, .slice ta nt tc, nilV, nilV, nilV]) := (HROW.out.keeps HRW.out (fun h => h)).keeps K3.out (fun h => h); have zr3 := HR3.out.cell (k := 3) (v := nilV) rfl; have zf3 := HR3.out.free (k := 3) (by simp); clear hout)
    have ho1 := HO.out
    rw [Nat.zero_add, List.nil_append] at ho1
    have hc1 : (w3.setCell ⟨b2, 3, none⟩ (.slice c1 nc q1)).ownsRow 0 3 1 (.slice c1 nc q1) nc (ints xs) ∧ ∀ kb, (Value.slice c1 nc q1).ownBlock = some kb → w.heap.size ≤ kb ∧ kb ≠ b2 := by
      have hnn : ∀ kb, (Value.slice c1 nc q1).ownBlock = some kb → w.heap.size ≤ kb ∧ kb ≠ b2 := fun kb e => by
        rcases ho1.2.2 kb e with h1 | h1
        · simp [nilV, Value.ownBlock] at h1
        · have h2 := (HROW.out.keeps HRW.out (fun h => h)).lt (by simp)
          have h3 := (HK2.out.trans0 HRW.out).size
          omega
      exact ⟨ownsRow_keeps ho1.1 (Keeps.setCell (S := fun q => q = b2) (p := ⟨b2, 3, none⟩) (Keeps.refl _ _) (fun _ => rfl) _) (fun kb e e' => (hnn kb e).2 e'), hnn⟩
    have hk3 : Keeps NoBlk w (w3.setCell ⟨b2, 3, none⟩ (.slice c1 nc q1)) := ((HK2.out.trans0 HRW.out).trans0 K3.out).setCell (p := ⟨b2, 3, none⟩) (fun e => by have e' : b2 < w.heap.size := e; have := HB2.out; omega) _
    have hr3 : RowAt (w3.setCell ⟨b2, 3, none⟩ (.slice c1 nc q1)) b2 [.slice xa xn xq, .int .i64 mu, .slice ta nt tc, .slice c1 nc q1, nilV, nilV] := HR3.out.set 3 (by simp) _
    generalize w3.setCell ⟨b2, 3, none⟩ (.slice c1 nc q1) = w4 at hc1 hk3 hr3 ⊢
    have HC1 := Lib.hid hc1
    have HK4 := Lib.hid hk3
    have HR4 := Lib.hid hr3
    clear ho1 hc1 hk3 hr3 HO K3 HR3 zr3 zf3 HSRC HROW HRW HK2
    refine wp_region_table3 9 (by kernel_rfl) (by kernel_rfl) _ (.pointer (some ⟨b2, 0, none⟩)) rfl (.inl ⟨rfl, fun _ => rfl⟩) (fun _ _ _ h => h) (Keeps NoBlk) (Keeps.refl NoBlk) (fun a b c h h' => Keeps.trans0 h h') (RyF b b2 4 (.slice oa no q0')) RyF.st (fun _ => rfl) ?_ ?_
    · intro i o' hi1 hi ho vs W Q' hR hd hK
      have HR' : Keeps NoBlk w4 W := ((Keeps.refl NoBlk w4).drew).trans0 hR
      have x3 := (HR4.out.keeps HR' (fun h => h)).cell (k := 4) (v := nilV) rfl
      have x0 := ((HB0.out.keeps HK4.out (fun h => h)).keeps HR' (fun h => h)).cell (k := 4) (v := .slice oa no q0') rfl
      clear HR'
      rcases (show i = 1 ∨ i = 2 ∨ i = 3 ∨ i = 4 ∨ i = 5 ∨ i = 6 ∨ i = 7 ∨ i = 8 by omega) with rfl | rfl | rfl | rfl | rfl | rfl | rfl | rfl
      all_goals (simp only [List.getElem?_cons_zero, List.getElem?_cons_succ, Option.some.injEq] at ho; subst ho; simp only [putsTo, List.getElem?_cons_zero, List.getElem?_cons_succ, Option.bind_some, Option.bind, Act.put, List.setIfInBounds_toArray, List.set_cons_zero, List.set_cons_succ] at hK ⊢; clear hi hi1)
      · clear hd
        go_wp2_with fail
        exact hK _ _ (Keeps.refl _ _) rfl
      · have e1 : vs 1 = _ := hd 1 (by kernel_rfl)
        rw [e1] at hK ⊢
        clear hd
        go_wp2_with fail
        exact hK _ _ (Keeps.refl _ _) rfl
      · have e2 : vs 2 = _ := hd 2 (by kernel_rfl)
        rw [e2] at hK ⊢
        clear hd
        go_wp2_with fail
        exact hK _ _ (Keeps.refl _ _) rfl
      · have e3 : vs 3 = _ := hd 3 (by kernel_rfl)
        rw [e3] at hK ⊢
        clear hd
        go_wp2_with fail
        exact hK _ _ (Keeps.refl _ _) rfl
      · clear hd
        go_wp2_with fail
        exact hK _ _ (Keeps.refl _ _) rfl
      · have e5 : vs 5 = _ := hd 5 (by kernel_rfl)
        rw [e5] at hK ⊢
        clear hd
        go_wp2_with fail
        exact hK _ _ (Keeps.refl _ _) rfl
      · have e6 : vs 6 = _ := hd 6 (by kernel_rfl)
        rw [e6] at hK ⊢
        clear hd
        go_wp2_with fail
        exact hK _ _ (Keeps.refl _ _) rfl
      · have e7 : vs 7 = _ := hd 7 (by kernel_rfl)
        rw [e7] at hK ⊢
        clear hd
        go_wp2_with fail
        exact hK _ _ (Keeps.refl _ _) rfl
    · intro vs W hR hF
      have HR' : Keeps NoBlk w4 W := ((Keeps.refl NoBlk w4).drew).trans0 hR
      have e0 : vs 0 = _ := hF 0 (by decide)
      have e4 : vs 4 = _ := hF 4 (by decide)
      have e8 : vs 8 = _ := hF 8 (by decide)
      have HRW := Lib.hid HR'
      simp only [putsTo, List.getElem?_cons_zero, List.getElem?_cons_succ, Option.bind_some, Option.bind, Act.put, List.setIfInBounds_toArray, List.set_cons_zero, List.set_cons_succ, List.drop_succ_cons, List.drop_zero]
      rw [e0, e4, e8]
      clear hF e0 e4 e8
      generalize vs 1 = yb1
      generalize vs 2 = yb2
      generalize vs 3 = yb3
      generalize vs 5 = yb5
      generalize vs 6 = yb6
      generalize vs 7 = yb7
      have HSRC : Hid (SrcAt W (.slice oa no q0') no (ints ys)) := HSO.out.keeps0 (HK4.out.trans0 HRW.out)
      clear HR' hR vs
      go_upto_region 4 with (at_builtin; refine wpList_append_src _ (by rfl) _ _ 22 (by rfl) 0 3 i0 _ 1 8 Try.underlying22 hi0 hz0 hz1 hz2 rfl (by decide) nilV 0 [] (by rfl) (World.ownsRow_nil _ _ _ _) (.slice oa no q0') no (ints ys) (by rfl) HSRC.out HLY.out (ints_one ys) (by unfold maxLen; omega) (by omega) (Nat.zero_le _) ?_; intro c2 q2 w5 hout; have HO := Lib.hid hout; have K5 : Hid (Keeps NoBlk W w5) := hout.keeps (S := NoBlk) (Keeps.refl _ W) (fun q e _ => by simp [nilV, Value.ownBlock] at e); have HR5 : Hid (RowAt w5 b2 [.slice xa xn xq, .int .i64 mu, .slice ta nt tc, .slice c1 nc q1, nilV, nilV]) := (HR4.out.keeps HRW.out (fun h => h)).keeps K5.out (fun h => h); have zr5 := HR5.out.cell (k := 4) (v := nilV) rfl; have zf5 := HR5.out.free (k := 4) (by simp); clear hout)
      obtain ⟨T0, hS0⟩ : ∃ T', CyI w (w5.setCell ⟨b2, 4, none⟩ (.slice c2 no q2)) T T' id b2 61 [.slice xa xn xq, .int .i64 mu, .slice ta nt tc, .slice c1 nc q1, .slice c2 no q2] 0 [] m.shade.fr (.slice c1 nc q1) (.slice c2 no q2) xs ys nilV := by
        have ho2 := HO.out
        rw [Nat.zero_add, List.nil_append] at ho2
        have hl := HL.out
        have hlW := (HR4.out.keeps HRW.out (fun h => h)).lt (by simp)
        have hcl : ∀ kb, (Value.slice c1 nc q1).ownBlock = some kb → kb < W.heap.size := fun kb e => Nat.lt_of_lt_of_le (ownsRow_lt HC1.out.1 e) HRW.out.size
        have hon : ∀ kb, (Value.slice c2 no q2).ownBlock = some kb → kb = W.heap.size := fun kb e => by
          rcases ho2.2.2 kb e with h1 | h1
          · simp [nilV, Value.ownBlock] at h1
          · exact h1
        have kset : Keeps (fun q => q = b2) w5 (w5.setCell ⟨b2, 4, none⟩ (.slice c2 no q2)) := Keeps.setCell (S := fun q => q = b2) (p := ⟨b2, 4, none⟩) (Keeps.refl _ _) (fun _ => rfl) _
        refine CyI.start (ec := 3) (eo := 3) HV.out.ok (((HK4.out.trans0 HRW.out).trans0 K5.out).setCell (p := ⟨b2, 4, none⟩) (fun e => by have e' : b2 < w.heap.size := e; have := HB2.out; omega) _) (by have := HB2.out; omega) (HR5.out.set 4 (by simp) _) ?_ ?_ ?_ ?_ ?_
        · rw [← hl.2.1]
          exact ownsRow_keeps (ownsRow_keeps (ownsRow_keeps HC1.out.1 HRW.out (fun _ _ h => h)) K5.out (fun _ _ h => h)) kset (fun kb e e' => (HC1.out.2 kb e).2 e')
        · exact HC1.out.2
        · rw [← hl.2.2.1]
          exact ownsRow_keeps ho2.1 kset (fun kb e e' => by have e2 : kb = b2 := e'; have := hon kb e; omega)
        · intro kb e
          have h1 := hon kb e
          have h3 := (HK4.out.trans0 HRW.out).size
          exact ⟨by omega, by omega⟩
        · intro kb e e'
          have h1 := hcl kb e
          have h2 := hon kb e'
          omega
      generalize w5.setCell ⟨b2, 4, none⟩ (.slice c2 no q2) = wN at hS0 ⊢
      have HS0 := Lib.hid hS0
      clear hS0 HO K5 HR5 zr5 zf5 HSRC HR4 HRW HK4 HC1 HSC HSO HLX HLY hmc hmo
      obtain ⟨c, hc⟩ : ∃ c, c = Value.slice c1 nc q1 := ⟨_, rfl⟩
      obtain ⟨o, ho⟩ : ∃ c, c = Value.slice c2 no q2 := ⟨_, rfl⟩
      rw [← hc, ← ho] at HS0
      clear hc ho
      go_wp2_with fail
      go_loopw [4] (fun kv wr => ∃ (k : Nat) (T' : Tags) (hs : List HFr) (fa : Option Addr) (fc : Nat), k ≤ n ∧ kv = .int .i64 k ∧ Hid (CyI w wr T T' id b2 61 [.slice xa xn xq, .int .i64 mu, .slice ta nt tc, c, o] k hs m.shade.fr c o xs ys (.slice fa k fc))) (fun kv _ => n - (intOf kv).toNat)
      case atStart => exact ⟨0, T0, [], none, 0, Nat.zero_le _, rfl, HS0.out⟩
      case round =>
        obtain ⟨k, T', hs, fa, fc, hk, rfl, hS⟩ := hrel
        have x5 := (HB0.out.keeps hS.out.keep (fun h => h)).cell (k := 5) (v := .slice (some ⟨gf, 0, none⟩) n cf) rfl
        by_cases hlt : k < n
        · have i1 : (0 : Int) ≤ k := by omega
          have i2 : (k : Int) < n := by omega
          have hkm : k < m.fr.length := by have := HL.out.1; omega
          have hf : m.shade.fr[k]? = some (shadow m.fr[k]) := shade_get (List.getElem?_eq_getElem hkm)
          have hfo := HG.out.ok.each k _ (List.getElem?_eq_getElem hkm)
          have hkt : k < x.threads.length := by rw [← HG.out.ok.len]; exact hkm
          have hrl : (shadow m.fr[k]).regs.length ≤ 64 := by
            have h1 := hfo.regs
            have h2 := (codN_parts (right_cod HG.out.right hkt)).1.2
            unfold shadow
            split
            · simp
            · omega
          generalize shadow m.fr[k] = f at hf hrl
          have HF := Lib.hid hf
          obtain ⟨rv, fz, f0, f1, f2, hsrc⟩ := (HV.out.keeps hS.out.keep (fun _ _ h => h)).frame hf
          clear fz
          obtain ⟨ra, rc, rfl, _⟩ := hsrc.ints
          have HSRC := Lib.hid hsrc
          have hgf : gf < wr.heap.size := World.block_lt_of_cell? wr _ f0
          have HCS : Hid (∀ W, Keeps NoBlk wr W → W.cell? ⟨b, 5, none⟩ = some (.slice (some ⟨gf, 0, none⟩) n cf) ∧ W.cell? ⟨gf, k * 3, none⟩ = some (.int .i64 f.st) ∧ W.cell? ⟨gf, k * 3 + 1, none⟩ = some (.slice ra f.regs.length rc) ∧ W.cell? ⟨gf, k * 3 + 2, none⟩ = some (.int .i64 f.at_)) := fun W hk => ⟨hk.cell (p := ⟨b, 5, none⟩) (fun h => h) x5, hk.cell (p := ⟨gf, _, none⟩) (fun h => h) f0, hk.cell (p := ⟨gf, _, none⟩) (fun h => h) f1, hk.cell (p := ⟨gf, _, none⟩) (fun h => h) f2⟩
          have HGF := Lib.hid hgf
          have HRL := Lib.hid hrl
          clear hf hkm hfo hkt hrl hsrc f0 f1 f2 hgf HS0
          go_upto_region 7 with fail
          clear x5
          refine wp_region_table 18 (by kernel_rfl) (by kernel_rfl) (Keeps NoBlk) (Keeps.refl NoBlk) (fun a b c h h' => Keeps.trans0 h h') (RyG b gf wr.heap.size k (.slice (some ⟨gf, 0, none⟩) n cf) f.st f.at_) RyG.st ?_ ?_
          · intro i o' hi ho vs W Q' hR hd hK
            have HR' : Keeps NoBlk wr W := ((Keeps.refl NoBlk wr).drew).trans0 hR
            have hB : wr.heap.size ≤ W.heap.size := HR'.size
            obtain ⟨x5, f0, f1, f2⟩ := HCS.out W HR'
            clear HR'
            rcases (show i = 0 ∨ i = 1 ∨ i = 2 ∨ i = 3 ∨ i = 4 ∨ i = 5 ∨ i = 6 ∨ i = 7 ∨ i = 8 ∨ i = 9 ∨ i = 10 ∨ i = 11 ∨ i = 12 ∨ i = 13 ∨ i = 14 ∨ i = 15 ∨ i = 16 ∨ i = 17 by omega) with rfl | rfl | rfl | rfl | rfl | rfl | rfl | rfl | rfl | rfl | rfl | rfl | rfl | rfl | rfl | rfl | rfl | rfl
            all_goals (simp only [List.getElem?_cons_zero, List.getElem?_cons_succ, Option.some.injEq] at ho; subst ho; simp only [putsTo, List.getElem?_cons_zero, List.getElem?_cons_succ, Option.bind_some, Option.bind, Act.put, List.setIfInBounds_toArray, List.set_cons_zero, List.set_cons_succ] at hK ⊢; clear hi)
            · clear hd
              go_wp2_with fail
              exact hK _ _ (Keeps.refl _ _) rfl
            · have e0 : vs 0 = _ := hd 0 (by kernel_rfl)
              rw [e0] at hK ⊢
              clear hd
              go_wp2_with fail
              exact hK _ _ (Keeps.refl _ _) rfl
            · have e1 : vs 1 = _ := hd 1 (by kernel_rfl)
              rw [e1] at hK ⊢
              clear hd
              go_wp2_with fail
              exact hK _ _ (Keeps.refl _ _) rfl
            · have e2 : vs 2 = _ := hd 2 (by kernel_rfl)
              rw [e2] at hK ⊢
              clear hd
              go_wp2_with fail
              exact hK _ _ (Keeps.refl _ _) rfl
            · clear hd
              go_wp2_with fail
              exact hK _ _ (Keeps.refl _ _) rfl
            · have e3 : vs 3 = _ := hd 3 (by kernel_rfl)
              have e4 : vs 4 = _ := hd 4 (by kernel_rfl)
              rw [e3, e4] at hK ⊢
              clear hd
              go_wp2_with fail
              exact hK _ _ (Keeps.refl _ _) rfl
            · have e5 : vs 5 = _ := hd 5 (by kernel_rfl)
              rw [e5] at hK ⊢
              clear hd
              go_wp2_with fail
              exact hK _ _ (Keeps.refl _ _) rfl
            · have e6 : vs 6 = _ := hd 6 (by kernel_rfl)
              rw [e6] at hK ⊢
              clear hd
              go_wp2_with fail
              exact hK _ _ (Keeps.refl _ _) rfl
            · clear hd
              go_wp2_with fail
              exact hK _ _ (Keeps.refl _ _) rfl
            · have e8 : vs 8 = _ := hd 8 (by kernel_rfl)
              rw [e8] at hK ⊢
              clear hd
              go_wp2_with fail
              exact hK _ _ (Keeps.refl _ _) rfl
            · have e9 : vs 9 = _ := hd 9 (by kernel_rfl)
              rw [e9] at hK ⊢
              clear hd
              go_wp2_with fail
              exact hK _ _ (Keeps.refl _ _) rfl
            · have e10 : vs 10 = _ := hd 10 (by kernel_rfl)
              rw [e10] at hK ⊢
              clear hd
              go_wp2_with fail
              exact hK _ _ (Keeps.refl _ _) rfl
            · clear hd
              go_wp2_with fail
              exact hK _ _ (Keeps.refl _ _) rfl
            · have e11 : vs 11 = _ := hd 11 (by kernel_rfl)
              have e12 : vs 12 = _ := hd 12 (by kernel_rfl)
              rw [e11, e12] at hK ⊢
              clear hd
              go_wp2_with fail
              exact hK _ _ (Keeps.refl _ _) rfl
            · have e13 : vs 13 = _ := hd 13 (by kernel_rfl)
              rw [e13] at hK ⊢
              clear hd
              go_wp2_with fail
              exact hK _ _ (Keeps.refl _ _) rfl
            · have e14 : vs 14 = _ := hd 14 (by kernel_rfl)
              rw [e14] at hK ⊢
              clear hd
              go_wp2_with fail
              exact hK _ _ (Keeps.refl _ _) rfl
            · have e7 : vs 7 = _ := hd 7 (by kernel_rfl)
              have e15 : vs 15 = _ := hd 15 (by kernel_rfl)
              rw [e7, e15] at hK ⊢
              clear hd
              go_wp2_with fail
              exact hK _ _ (Keeps.refl _ _) rfl
            · clear hd
              go_wp2_with fail
              exact hK _ _ ((Keeps.refl _ _).alloc _) ⟨_, rfl, hB, _, _, _, RowAt.ofBlock (heap_alloc_new W _)⟩
          intro vs W hR hF
          have HR' : Keeps NoBlk wr W := ((Keeps.refl NoBlk wr).drew).trans0 hR
          have e16 : vs 16 = _ := hF 16 (by decide)
          obtain ⟨q, e17, hq, u0, u1, u2, hq2⟩ := (hF 17 (by decide) : ∃ q, vs 17 = .pointer (some ⟨q, 0, none⟩) ∧ wr.heap.size ≤ q ∧ ∃ u0 u1 u2, RowAt W q [u0, u1, u2])
          simp only [putsTo, List.getElem?_cons_zero, List.getElem?_cons_succ, Option.bind_some, Option.bind, Act.put, List.setIfInBounds_toArray, List.set_cons_zero, List.set_cons_succ, List.drop_succ_cons, List.drop_zero]
          rw [e16, e17]
          clear hF e16 e17
          generalize vs 0 = ya0
          generalize vs 1 = ya1
          generalize vs 2 = ya2
          generalize vs 3 = ya3
          generalize vs 4 = ya4
          generalize vs 5 = ya5
          generalize vs 6 = ya6
          generalize vs 7 = ya7
          generalize vs 8 = ya8
          generalize vs 9 = ya9
          generalize vs 10 = ya10
          generalize vs 11 = ya11
          generalize vs 12 = ya12
          generalize vs 13 = ya13
          generalize vs 14 = ya14
          generalize vs 15 = ya15
          have HQ := Lib.hid hq
          have RQ := Lib.hid hq2
          have HRW := Lib.hid HR'
          have q0 := hq2.cell (k := 0) (v := u0) rfl
          have q1 := hq2.cell (k := 1) (v := u1) rfl
          have q2 := hq2.cell (k := 2) (v := u2) rfl
          have g0 := hq2.free (k := 0) (by simp)
          have g1 := hq2.free (k := 1) (by simp)
          have g2 := hq2.free (k := 2) (by simp)
          clear hR hq hq2 HR' vs
          go_upto_region 8 with fail
          have hq3 : RowAt (((W.setCell ⟨q, 0, none⟩ (.int .i64 f.st)).setCell ⟨q, 1, none⟩ (.slice none 0 0)).setCell ⟨q, 2, none⟩ (.int .i64 f.at_)) q [.int .i64 f.st, nilV, .int .i64 f.at_] := ((RQ.out.set 0 (by simp) _).set 1 (by simp) _).set 2 (by simp) _
          have hk3 : Keeps NoBlk wr (((W.setCell ⟨q, 0, none⟩ (.int .i64 f.st)).setCell ⟨q, 1, none⟩ (.slice none 0 0)).setCell ⟨q, 2, none⟩ (.int .i64 f.at_)) := ((HRW.out.setCell (p := ⟨q, 0, none⟩) (fun e => by have e' : q < wr.heap.size := e; have := HQ.out; omega) _).setCell (p := ⟨q, 1, none⟩) (fun e => by have e' : q < wr.heap.size := e; have := HQ.out; omega) _).setCell (p := ⟨q, 2, none⟩) (fun e => by have e' : q < wr.heap.size := e; have := HQ.out; omega) _
          generalize ((W.setCell ⟨q, 0, none⟩ (.int .i64 f.st)).setCell ⟨q, 1, none⟩ (.slice none 0 0)).setCell ⟨q, 2, none⟩ (.int .i64 f.at_) = w6 at hq3 hk3 ⊢
          have RQ6 := Lib.hid hq3
          have K6 := Lib.hid hk3
          have HQ6 : Hid (q < w6.heap.size) := hq3.lt (by simp)
          have HLR : Hid ((ints f.regs).length = f.regs.length * 1) := by show _ = _; rw [ints_len, Nat.mul_one]
          clear hq3 hk3 q0 q1 q2 g0 g1 g2 RQ HRW
          refine wp_region_table 12 (by kernel_rfl) (by kernel_rfl) (Keeps NoBlk) (Keeps.refl NoBlk) (fun a b c h h' => Keeps.trans0 h h') (RyH b gf q w6.heap.size k (.slice (some ⟨gf, 0, none⟩) n cf) (.slice ra f.regs.length rc) f.regs) RyH.st ?_ ?_
          · intro i o' hi ho vs W Q' hR hd hK
            have HR' : Keeps NoBlk w6 W := ((Keeps.refl NoBlk w6).drew).trans0 hR
            have hB : w6.heap.size ≤ W.heap.size := HR'.size
            have HKW : Hid (Keeps NoBlk wr W) := K6.out.trans0 HR'
            obtain ⟨x5, f0, f1, f2⟩ := HCS.out W HKW.out
            have q1 := (RQ6.out.keeps HR' (fun h => h)).cell (k := 1) (v := nilV) rfl
            clear HR'
            rcases (show i = 0 ∨ i = 1 ∨ i = 2 ∨ i = 3 ∨ i = 4 ∨ i = 5 ∨ i = 6 ∨ i = 7 ∨ i = 8 ∨ i = 9 ∨ i = 10 ∨ i = 11 by omega) with rfl | rfl | rfl | rfl | rfl | rfl | rfl | rfl | rfl | rfl | rfl | rfl
            all_goals (simp only [List.getElem?_cons_zero, List.getElem?_cons_succ, Option.some.injEq] at ho; subst ho; simp only [putsTo, List.getElem?_cons_zero, List.getElem?_cons_succ, Option.bind_some, Option.bind, Act.put, List.setIfInBounds_toArray, List.set_cons_zero, List.set_cons_succ] at hK ⊢; clear hi)
            · clear hd
              go_wp2_with fail
              exact hK _ _ (Keeps.refl _ _) rfl
            · have e0 : vs 0 = _ := hd 0 (by kernel_rfl)
              rw [e0] at hK ⊢
              clear hd
              go_wp2_with fail
              exact hK _ _ (Keeps.refl _ _) rfl
            · clear hd
              go_wp2_with fail
              exact hK _ _ (Keeps.refl _ _) rfl
            · have e2 : vs 2 = _ := hd 2 (by kernel_rfl)
              rw [e2] at hK ⊢
              clear hd
              go_wp2_with fail
              exact hK _ _ (Keeps.refl _ _) rfl
            · have e3 : vs 3 = _ := hd 3 (by kernel_rfl)
              rw [e3] at hK ⊢
              clear hd
              go_wp2_with fail
              exact hK _ _ (Keeps.refl _ _) rfl
            · have e4 : vs 4 = _ := hd 4 (by kernel_rfl)
              rw [e4] at hK ⊢
              clear hd
              go_wp2_with fail
              exact hK _ _ (Keeps.refl _ _) rfl
            · clear hd
              go_wp2_with fail
              exact hK _ _ (Keeps.refl _ _) rfl
            · have e5 : vs 5 = _ := hd 5 (by kernel_rfl)
              have e6 : vs 6 = _ := hd 6 (by kernel_rfl)
              rw [e5, e6] at hK ⊢
              clear hd
              go_wp2_with fail
              exact hK _ _ (Keeps.refl _ _) rfl
            · have e7 : vs 7 = _ := hd 7 (by kernel_rfl)
              rw [e7] at hK ⊢
              clear hd
              go_wp2_with fail
              exact hK _ _ (Keeps.refl _ _) rfl
            · have e8 : vs 8 = _ := hd 8 (by kernel_rfl)
              rw [e8] at hK ⊢
              clear hd
              go_wp2_with fail
              exact hK _ _ (Keeps.refl _ _) rfl
            · have e1 : vs 1 = _ := hd 1 (by kernel_rfl)
              have e9 : vs 9 = _ := hd 9 (by kernel_rfl)
              rw [e1, e9] at hK ⊢
              clear hd
              go_wp2_with (at_builtin; refine wpList_append_src _ (by rfl) _ _ 22 (by rfl) 0 3 i0 _ 1 8 Try.underlying22 hi0 hz0 hz1 hz2 rfl (by decide) nilV 0 [] (by rfl) (World.ownsRow_nil _ _ _ _) (.slice ra f.regs.length rc) f.regs.length (ints f.regs) (by rfl) (HSRC.out.keeps0 HKW.out) HLR.out (ints_one _) (by unfold maxLen; have := HRL.out; omega) (by have := HRL.out; omega) (Nat.zero_le _) ?_; intro c9 q9 w9 hout; have HO := Lib.hid hout; clear hout)
              have ho9 := HO.out
              rw [Nat.zero_add, List.nil_append] at ho9
              exact hK _ _ (ho9.keeps (S := NoBlk) (Keeps.refl _ W) (fun q e _ => by simp [nilV, Value.ownBlock] at e)) ⟨c9, q9, rfl, ho9.1, fun kb e => by
                rcases ho9.2.2 kb e with h1 | h1
                · simp [nilV, Value.ownBlock] at h1
                · omega⟩
            · clear hd
              go_wp2_with fail
              exact hK _ _ (Keeps.refl _ _) rfl
          intro vs W hR hF
          have HR' : Keeps NoBlk w6 W := ((Keeps.refl NoBlk w6).drew).trans0 hR
          obtain ⟨va, vc, e10, hv1, hv2⟩ := (hF 10 (by decide) : ∃ ad cap, vs 10 = .slice ad f.regs.length cap ∧ W.ownsRow 0 3 1 (vs 10) f.regs.length (ints f.regs) ∧ ∀ kb, (vs 10).ownBlock = some kb → w6.heap.size ≤ kb)
          have e11 : vs 11 = _ := hF 11 (by decide)
          rw [e10] at hv1 hv2
          have hrow := RQ6.out.keeps HR' (fun h => h)
          have q1 := hrow.cell (k := 1) (v := nilV) rfl
          have g1 := hrow.free (k := 1) (by simp)
          simp only [putsTo, List.getElem?_cons_zero, List.getElem?_cons_succ, Option.bind_some, Option.bind, Act.put, List.setIfInBounds_toArray, List.set_cons_zero, List.set_cons_succ, List.drop_succ_cons, List.drop_zero]
          rw [e10, e11]
          clear hF e10 e11
          generalize vs 0 = yc0
          generalize vs 1 = yc1
          generalize vs 2 = yc2
          generalize vs 3 = yc3
          generalize vs 4 = yc4
          generalize vs 5 = yc5
          generalize vs 6 = yc6
          generalize vs 7 = yc7
          generalize vs 8 = yc8
          generalize vs 9 = yc9
          have hq7 : RowAt (W.setCell ⟨q, 1, none⟩ (.slice va f.regs.length vc)) q [.int .i64 f.st, .slice va f.regs.length vc, .int .i64 f.at_] := hrow.set 1 (by simp) _
          have hk7 : Keeps NoBlk wr (W.setCell ⟨q, 1, none⟩ (.slice va f.regs.length vc)) := (K6.out.trans0 HR').setCell (p := ⟨q, 1, none⟩) (fun e => by have e' : q < wr.heap.size := e; have := HQ.out; omega) _
          have hv7 : (W.setCell ⟨q, 1, none⟩ (.slice va f.regs.length vc)).ownsRow 0 3 1 (.slice va f.regs.length vc) f.regs.length (ints f.regs) := ownsRow_keeps hv1 (Keeps.setCell (S := fun z => z = q) (p := ⟨q, 1, none⟩) (Keeps.refl _ _) (fun _ => rfl) _) (fun kb e e' => by have e2 : kb = q := e'; have h1 := hv2 kb e; have h2 := HQ6.out; omega)
          have hv8 : ∀ kb, (Value.slice va f.regs.length vc).ownBlock = some kb → wr.heap.size ≤ kb := fun kb e => by have := hv2 kb e; have := K6.out.size; omega
          have HA7 := Lib.hid (And.intro hq7 (And.intro hk7 (And.intro hv7 hv8)))
          clear hq7 hk7 hv7 hv8 hv1 hv2 hrow hR HR' vs HSRC HLR HRL
          go_upto_region 9 with fail
          clear q1 g1
          obtain ⟨hq7, hk7, hv7, hv8⟩ := HA7.out
          clear HA7
          generalize W.setCell ⟨q, 1, none⟩ (.slice va f.regs.length vc) = w7 at hq7 hk7 hv7 ⊢
          have RQ7 := Lib.hid hq7
          have K7 := Lib.hid hk7
          have V7 := Lib.hid (And.intro hv7 hv8)
          have HS7 := Lib.hid (hS.out.keeps0 hk7)
          have hl8 : k + 1 ≤ 8 := by omega
          clear hq7 hk7 hv7 hv8 K6 RQ6 HQ6 HCS
          refine wp_region_table3 7 (by kernel_rfl) (by kernel_rfl) _ (.pointer (some ⟨b2, 0, none⟩)) rfl (.inl ⟨rfl, fun _ => rfl⟩) (fun _ _ _ h => h) (Keeps NoBlk) (Keeps.refl NoBlk) (fun a b c h h' => Keeps.trans0 h h') (RyK b2 (.slice fa k fc) (.agg #[.int .i64 f.st, .slice va f.regs.length vc, .int .i64 f.at_]) (HFr.mk f.st (.slice va f.regs.length vc) f.at_).cells) RyK.st (fun _ => rfl) ?_ ?_
          · intro i o' hi1 hi ho vs W Q' hR hd hK
            have HR' : Keeps NoBlk w7 W := ((Keeps.refl NoBlk w7).drew).trans0 hR
            have hrow := RQ7.out.keeps HR' (fun h => h)
            have q0 := hrow.cell (k := 0) (v := .int .i64 f.st) rfl
            have q1 := hrow.cell (k := 1) (v := .slice va f.regs.length vc) rfl
            have q2 := hrow.cell (k := 2) (v := .int .i64 f.at_) rfl
            have d5 := (HS7.out.row.keeps HR' (fun h => h)).cell (k := 5) (v := .slice fa k fc) rfl
            clear HR' hrow
            rcases (show i = 1 ∨ i = 2 ∨ i = 3 ∨ i = 4 ∨ i = 5 ∨ i = 6 by omega) with rfl | rfl | rfl | rfl | rfl | rfl
            all_goals (simp only [List.getElem?_cons_zero, List.getElem?_cons_succ, Option.some.injEq] at ho; subst ho; simp only [putsTo, List.getElem?_cons_zero, List.getElem?_cons_succ, Option.bind_some, Option.bind, Act.put, List.setIfInBounds_toArray, List.set_cons_zero, List.set_cons_succ] at hK ⊢; clear hi hi1)
            · clear hd
              go_wp2_with fail
              exact hK _ _ (Keeps.refl _ _) rfl
            · have e1 : vs 1 = _ := hd 1 (by kernel_rfl)
              rw [e1] at hK ⊢
              clear hd
              go_wp2_with fail
              exact hK _ _ (Keeps.refl _ _) rfl
            · have e2 : vs 2 = _ := hd 2 (by kernel_rfl)
              rw [e2] at hK ⊢
              clear hd
              go_wp2_with fail
              exact hK _ _ (Keeps.refl _ _) rfl
            · have e3 : vs 3 = _ := hd 3 (by kernel_rfl)
              rw [e3] at hK ⊢
              clear hd
              go_wp2_with fail
              exact hK _ _ (Keeps.refl _ _) rfl
            · clear hd
              go_wp2_with fail
              exact hK _ _ (Keeps.refl _ _) rfl
            · have e5 : vs 5 = _ := hd 5 (by kernel_rfl)
              rw [e5] at hK ⊢
              clear hd
              go_wp2_with fail
              exact hK _ _ ((Keeps.refl _ _).alloc _) ⟨_, rfl, RowAt.ofBlock (heap_alloc_new W _)⟩
          · intro vs W hR hF
            have HR' : Keeps NoBlk w7 W := ((Keeps.refl NoBlk w7).drew).trans0 hR
            have e0 : vs 0 = _ := hF 0 (by decide)
            have e4 : vs 4 = _ := hF 4 (by decide)
            obtain ⟨gs, e6, hgs⟩ := (hF 6 (by decide) : ∃ g, vs 6 = .slice (some ⟨g, 0, none⟩) 1 1 ∧ RowAt W g (HFr.mk f.st (.slice va f.regs.length vc) f.at_).cells)
            have HGS := Lib.hid hgs
            have HRW := Lib.hid HR'
            simp only [putsTo, List.getElem?_cons_zero, List.getElem?_cons_succ, Option.bind_some, Option.bind, Act.put, List.setIfInBounds_toArray, List.set_cons_zero, List.set_cons_succ, List.drop_succ_cons, List.drop_zero]
            rw [e0, e4, e6]
            clear hF e0 e4 e6
            generalize vs 1 = yd1
            generalize vs 2 = yd2
            generalize vs 3 = yd3
            generalize vs 5 = yd5
            clear HR' hR hgs
            go_wp2_with (at_builtin; refine wpList_append_src _ (by rfl) _ _ 57 (by rfl) 0 61 k0 _ 3 40 Try.underlying57 hk0 hw0 hw1 hw2 rfl (by decide) (.slice fa k fc) k (frCells hs) (by rfl) (ownsRow_keeps HS7.out.fown HRW.out (fun _ _ h => h)) (.slice (some ⟨gs, 0, none⟩) 1 1) 1 (HFr.mk f.st (.slice va f.regs.length vc) f.at_).cells (by rfl) (RowAt.src HGS.out) rfl (by simp [HFr.cells, Value.oneCell']) (by unfold maxLen; omega) (by omega) (Nat.zero_le _) ?_; intro fa' fc' wB hout; have HO := Lib.hid hout; have HRB : Hid (RowAt wB b2 ([.slice xa xn xq, .int .i64 mu, .slice ta nt tc, c, o] ++ [.slice fa k fc])) := (HS7.out.keeps0 HRW.out).row.keeps (hout.keeps (S := fun q => (Value.slice fa k fc).ownBlock = some q) (Keeps.refl _ W) (fun q e _ => e)) (fun e => by have h1 := HS7.out.ftag b2 e; rw [HS7.out.tb] at h1; cases h1); have zrB := HRB.out.cell (k := 5) (v := .slice fa k fc) rfl; have zfB := HRB.out.free (k := 5) (by simp); clear hout)
            obtain ⟨T3, hS10⟩ := hS.out.frStep (K7.out.trans0 HRW.out) HF.out (ownsRow_keeps V7.out.1 HRW.out (fun _ _ h => h)) V7.out.2 HO.out
            exact ⟨⟨k + 1, T3, _, fa', fc', by omega, by go_num, hS10⟩, by simp [intOf]; omega⟩
        · have hkn : n = k := by omega
          subst hkn
          clear hlt hk
          go_wp2_with fail
          go_ret
          obtain ⟨gf2, cf2, hvm⟩ : ∃ gf2 cf2, RmAt wr T' id b2 gf2 cf2 x m := by
            have h1 := hS.out
            have hl := HL.out
            have h2 := HTH.out
            rw [hl.2.2.2.1, hl.2.2.2.2.1, hl.2.2.2.2.2.2] at h1
            exact CyI.rm (xc := ⟨xa, xn, xq⟩) h1 hl.1 n1 h2
          exact ⟨b2, gf2, cf2, T', rfl, hvm, hS.out.ext, hS.out.keep⟩
end Go.Proofs.Ytmkfpkficmmlgaa
