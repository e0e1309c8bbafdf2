/- Package vm: New. -/
import Derived.Test.YtmkfpkficmmlgaaK32
namespace Go.Proofs.Ytmkfpkficmmlgaa
open Go.RowKit
set_option linter.unusedVariables false
set_option linter.unusedSimpArgs false
set_option linter.unnecessarySimpa false

theorem infoRow : (Try.prog.info? 49).map (fun i => (i.zero, i.size, i.bytes)) = some (some (.slice none 0 0), 1, 24) := by kernel_rfl
theorem infoFr : (Try.prog.info? 71).map (fun i => (i.zero, i.size, i.bytes)) = some (some (.agg #[.int .i64 0, .slice none 0 0, .int .i64 0]), 3, 40) := by kernel_rfl
/-- what the operations of New's head leave -/
def VnF (b1 B : Nat) (cv : Value) (mu : Int) (xs ys : List Int) (j : Nat) (v : Value) (W : World) : Prop :=
  match j with
  | 0 => v = .pointer (some ⟨b1, 0, none⟩)
  | 1 => v = cv
  | 2 => ∃ ad cap, v = .slice ad xs.length cap ∧ W.ownsRow 0 3 1 v xs.length (ints xs) ∧ ∀ kb, v.ownBlock = some kb → B ≤ kb
  | 3 => ∃ g, v = .slice (some ⟨g, 0, none⟩) 1 1 ∧ W.cell? ⟨g, 0, none⟩ = some (.int .i64 (-1))
  | 4 => v = .pointer (some ⟨b1, 1, none⟩)
  | 5 => v = .int .i64 mu
  | 6 => ∃ ad cap, v = .slice ad ys.length cap ∧ W.ownsRow 0 3 1 v ys.length (ints ys) ∧ ∀ kb, v.ownBlock = some kb → B ≤ kb
  | _ => True
theorem VnF.st {b1 B : Nat} {cv : Value} {mu : Int} {xs ys : List Int} (j : Nat) (v : Value) (W W' : World) (h : VnF b1 B cv mu xs ys j v W) (hk : Keeps NoBlk W W') : VnF b1 B cv mu xs ys j v W' := by
  unfold VnF at *
  split at h
  case h_3 => obtain ⟨ad, cap, e, h1, h2⟩ := h; exact ⟨ad, cap, e, ownsRow_keeps h1 hk (fun _ _ h => h), h2⟩
  case h_4 => obtain ⟨g, e, h1⟩ := h; exact ⟨g, e, hk.cell (p := ⟨g, 0, none⟩) (fun h => h) h1⟩
  case h_7 => obtain ⟨ad, cap, e, h1, h2⟩ := h; exact ⟨ad, cap, e, ownsRow_keeps h1 hk (fun _ _ h => h), h2⟩
  all_goals first | exact h | trivial
def VnB (j : Nat) (v : Value) : Option Nat := if j = 2 ∨ j = 6 then v.ownBlock else none
theorem VnB.lt {b1 B : Nat} {cv : Value} {mu : Int} {xs ys : List Int} (j : Nat) (v : Value) (W : World) (kb : Nat) (h : VnF b1 B cv mu xs ys j v W) (hb : VnB j v = some kb) : kb < W.heap.size := by
  unfold VnB at hb
  split at hb
  · rename_i hj
    rcases hj with rfl | rfl
    · obtain ⟨ad, cap, e, h1, h2⟩ := h; exact ownsRow_lt h1 hb
    · obtain ⟨ad, cap, e, h1, h2⟩ := h; exact ownsRow_lt h1 hb
  · cases hb
/-- what the operations of a round's first append leave -/
def VnG (b b6 B : Nat) (dv u : Value) (c : Cod) (j : Nat) (v : Value) (W : World) : Prop :=
  match j with
  | 0 => v = .pointer (some ⟨b, 0, none⟩)
  | 1 => v = .pointer (some ⟨b, 0, none⟩)
  | 2 => v = .pointer (some ⟨b, 0, none⟩)
  | 3 => v = .pointer (some ⟨b, 2, none⟩)
  | 4 => v = dv
  | 5 => v = .pointer (some ⟨b6, 1, none⟩)
  | 6 => v = u
  | 7 => ∃ ad cap, v = .slice ad c.ins.length cap ∧ FRow W B v c.ins.length (insCells c.ins)
  | 8 => ∃ g u', v = .slice (some ⟨g, 0, none⟩) 1 1 ∧ RowAt W g [u'] ∧ (∃ ad cap, u' = .slice ad c.ins.length cap) ∧ FRow W B u' c.ins.length (insCells c.ins)
  | _ => True
theorem VnG.st {b b6 B : Nat} {dv u : Value} {c : Cod} (j : Nat) (v : Value) (W W' : World) (h : VnG b b6 B dv u c j v W) (hk : Keeps NoBlk W W') : VnG b b6 B dv u c j v W' := by
  unfold VnG at *
  split at h
  case h_8 => obtain ⟨ad, cap, e, h1⟩ := h; exact ⟨ad, cap, e, h1.keeps0 hk⟩
  case h_9 => obtain ⟨g, u', e, h1, h2, h3⟩ := h; exact ⟨g, u', e, h1.keeps hk (fun h => h), h2, h3.keeps0 hk⟩
  all_goals first | exact h | trivial

/-- what the operations of a round's second append leave -/
def VnH (b b6 B n : Nat) (fv : Value) (j : Nat) (v : Value) (W : World) : Prop :=
  match j with
  | 0 => v = .pointer (some ⟨b, 0, none⟩)
  | 1 => v = .pointer (some ⟨b, 0, none⟩)
  | 2 => v = .pointer (some ⟨b, 0, none⟩)
  | 3 => v = .pointer (some ⟨b, 3, none⟩)
  | 4 => v = fv
  | 5 => v = .pointer (some ⟨b6, 0, none⟩)
  | 6 => v = .int .i64 n
  | 7 => ∃ g, v = .slice (some ⟨g, 0, none⟩) n n ∧ B ≤ g ∧ g < W.heap.size ∧ RowAt W g (ints (List.replicate n 0))
  | 8 => ∃ g, v = .agg #[.int .i64 1, .slice (some ⟨g, 0, none⟩) n n, .int .i64 0] ∧ B ≤ g ∧ g < W.heap.size ∧ RowAt W g (ints (List.replicate n 0))
  | 9 => ∃ g2 g, v = .slice (some ⟨g2, 0, none⟩) 1 1 ∧ RowAt W g2 (idleF (.slice (some ⟨g, 0, none⟩) n n)).cells ∧ B ≤ g ∧ g < W.heap.size ∧ RowAt W g (ints (List.replicate n 0))
  | _ => True
theorem VnH.st {b b6 B n : Nat} {fv : Value} (j : Nat) (v : Value) (W W' : World) (h : VnH b b6 B n fv j v W) (hk : Keeps NoBlk W W') : VnH b b6 B n fv j v W' := by
  unfold VnH at *
  split at h
  case h_8 => obtain ⟨g, e, h1, h2, h3⟩ := h; exact ⟨g, e, h1, Nat.lt_of_lt_of_le h2 hk.size, h3.keeps hk (fun h => h)⟩
  case h_9 => obtain ⟨g, e, h1, h2, h3⟩ := h; exact ⟨g, e, h1, Nat.lt_of_lt_of_le h2 hk.size, h3.keeps hk (fun h => h)⟩
  case h_10 => obtain ⟨g2, g, e, h0, h1, h2, h3⟩ := h; exact ⟨g2, g, e, h0.keeps hk (fun h => h), h1, Nat.lt_of_lt_of_le h2 hk.size, h3.keeps hk (fun h => h)⟩
  all_goals first | exact h | trivial

set_option maxRecDepth 8000 in
set_option maxHeartbeats 1000000 in
theorem vnew_bad (w : World) (cv tv : Value) (x : Img) (h : ImgR w cv tv x) (hr : rightN x = false) :
    Calls Try.prog 8 #[imgV cv tv x] w fun e w' => e = .returned (.tuple #[.pointer none, .int .i64 100]) ∧ Keeps NoBlk w w' := by
  obtain ⟨ca, cc, rfl, _⟩ := h.cells.ints
  obtain ⟨ta, tc, rfl, _⟩ := h.thr
  unfold imgV
  have HR : Hid (∀ W, Keeps NoBlk w W → Calls Try.prog 20 #[.agg #[.slice ca x.cells.length cc, .int .i64 x.mutexes, .slice ta x.threads.length tc]] W fun e w' => e = .returned (.bool false) ∧ Keeps NoBlk W w') := fun W hk => by
    have := asmRight_any W _ _ x (h.keeps0 hk)
    rw [hr] at this
    exact this
  clear h hr
  go_enter Try.func8, Try.ntmps8
  go_wp2_with (go_at_call 20; refine (HR.out _ ((Keeps.refl _ _).alloc _)).mono ?_; rintro e w1 ⟨rfl, g1⟩; have G1 := Lib.hid g1; clear g1)
  go_ret2
  exact ⟨rfl, ((Keeps.refl _ _).alloc _).trans0 G1.out⟩

set_option maxRecDepth 8000 in
set_option maxHeartbeats 4000000 in
theorem vnew_ok (w : World) (T : Tags) (id : Nat) (cv tv : Value) (x : Img) (h : ImgR w cv tv x) (hr : rightN x = true) (hok : TOk T w) (hid : ∀ k y, T k = some y → y.1 ≠ id) :
    Calls Try.prog 8 #[imgV cv tv x] w fun e w' => ∃ b gf cf T', e = .returned (.tuple #[.pointer (some ⟨b, 0, none⟩), .int .i64 0]) ∧ VmAt w' T' id b gf cf x (newN x) ∧ ExtI T T' id w ∧ Keeps NoBlk w w' := by
  have HI := Lib.hid h
  obtain ⟨ca, cc, rfl, _⟩ := h.cells.ints
  obtain ⟨ta, tc, rfl, _⟩ := h.thr
  unfold imgV
  have HR : Hid (∀ W, Keeps NoBlk w W → Calls Try.prog 20 #[.agg #[.slice ca x.cells.length cc, .int .i64 x.mutexes, .slice ta x.threads.length tc]] W fun e w' => e = .returned (.bool true) ∧ Keeps NoBlk W w') := fun W hk => by
    have := asmRight_any W _ _ x (h.keeps0 hk)
    rw [hr] at this
    exact this
  have hp := right_parts hr
  have HRT := Lib.hid hr
  have HTOK := Lib.hid hok
  have HIDF := Lib.hid hid
  have HCL : Hid (∀ W, Keeps NoBlk w W → Calls Try.prog 21 #[.slice ca x.cells.length cc] W (NewRow 3 1 W x.cells.length (ints x.cells))) := fun W hk => clone_ints W _ x.cells (h.keeps0 hk).cells (by have := hp.2.1; omega)
  have HRP : Hid (∀ W g, W.cell? ⟨g, 0, none⟩ = some (.int .i64 (-1)) → Calls Try.prog 22 #[.slice (some ⟨g, 0, none⟩) 1 1, .int .i64 x.mutexes] W (NewRow 3 1 W (ownersN x).length (ints (ownersN x)))) := fun W g hc => by
    have := repeat_new g x.mutexes (-1) (by have := hp.2.2.1; omega) W hc
    unfold ownersN
    rw [List.length_replicate]
    exact this
  obtain ⟨nc, hnc⟩ : ∃ n, n = x.cells.length := ⟨_, rfl⟩
  obtain ⟨nt, hnt⟩ : ∃ n, n = x.threads.length := ⟨_, rfl⟩
  obtain ⟨mu, hmu⟩ : ∃ n, n = x.mutexes := ⟨_, rfl⟩
  have HE : Hid (nc = x.cells.length ∧ nt = x.threads.length ∧ mu = x.mutexes) := ⟨hnc, hnt, hmu⟩
  rw [← hnc, ← hnt] at HI
  rw [← hnc, ← hnt, ← hmu] at HR ⊢
  rw [← hnc] at HCL
  rw [← hmu] at HRP
  have n1 : 1 ≤ nt := by rw [hnt]; exact hp.1.1
  have n2 : nt ≤ 8 := by rw [hnt]; exact hp.1.2
  obtain ⟨ys, hys⟩ : ∃ ys, ys = ownersN x := ⟨_, rfl⟩
  obtain ⟨xs, hxs⟩ : ∃ xs, xs = x.cells := ⟨_, rfl⟩
  have HY : Hid (ys = ownersN x) := hys
  have HX : Hid (xs = x.cells) := hxs
  have hnx : nc = xs.length := by rw [hxs]; exact hnc
  have HNX := Lib.hid hnx
  rw [← hys] at HRP
  rw [← hxs] at HCL
  obtain ⟨i0, hi0, hz0, hz1, hz2⟩ := info_parts infoInt
  obtain ⟨j0, hj0, hy0, hy1, hy2⟩ := info_parts infoRow
  obtain ⟨k0, hk0, hw0, hw1, hw2⟩ := info_parts infoFr
  clear h hr hok hid hp hnc hnt hmu hys hxs hnx
  go_enter Try.func8, Try.ntmps8
  go_upto_region 3 with (go_at_call 20; refine (HR.out _ ((Keeps.refl _ _).alloc _)).mono ?_; rintro e w1 ⟨rfl, g1⟩; have G1 := Lib.hid g1; clear g1)
  obtain ⟨b1, hb1⟩ : ∃ z, z = w.heap.size := ⟨_, rfl⟩
  have R1 : Hid (RowAt w1 b1 [.slice ca nc cc, .int .i64 mu, .slice ta nt tc]) := by show RowAt _ _ _; rw [hb1]; exact (RowAt.ofBlock (heap_alloc_new w _)).keeps G1.out (fun h => h)
  have HK1 : Hid (Keeps NoBlk w w1) := ((Keeps.refl _ _).alloc _).trans0 G1.out
  rw [← hb1]
  clear hb1 G1 HR
  refine wp_region_table2 7 (by kernel_rfl) (by kernel_rfl) (Keeps NoBlk) (Keeps.refl NoBlk) (fun a b c h h' => Keeps.trans0 h h') (VnF b1 w.heap.size (.slice ca nc cc) mu xs ys) VnF.st VnB VnB.lt ?_ ?_
  · intro i o hi ho vs W Q' hR hd hK0
    have HR' : Keeps NoBlk w1 W := ((Keeps.refl NoBlk w1).drew).trans0 hR
    have HRW : Keeps NoBlk w W := HK1.out.trans0 HR'
    have hB : w.heap.size ≤ W.heap.size := HRW.size
    have x0 := (R1.out.keeps HR' (fun h => h)).cell (k := 0) (v := .slice ca nc cc) rfl
    have x1 := (R1.out.keeps HR' (fun h => h)).cell (k := 1) (v := .int .i64 mu) rfl
    have hK := Lib.hid hK0
    clear hK0
    rcases (show i = 0 ∨ i = 1 ∨ i = 2 ∨ i = 3 ∨ i = 4 ∨ i = 5 ∨ i = 6 by omega) with rfl | rfl | rfl | rfl | rfl | rfl | rfl
    all_goals (simp only [List.getElem?_cons_zero, List.getElem?_cons_succ, Option.some.injEq] at ho; subst ho; have hK := hK.out; simp only [putsTo, List.getElem?_cons_zero, List.getElem?_cons_succ, Option.bind_some, Option.bind, Act.put, List.setIfInBounds_toArray, List.set_cons_zero, List.set_cons_succ] at hK ⊢; clear hi)
    · clear hd
      go_wp2_with fail
      exact hK _ _ (Keeps.refl _ _) rfl (fun kb e => by simp [VnB] at e)
    · have e0 : vs 0 = _ := hd 0 (by kernel_rfl)
      rw [e0] at hK ⊢
      clear hd
      go_wp2_with fail
      exact hK _ _ (Keeps.refl _ _) rfl (fun kb e => by simp [VnB] at e)
    · have e1 : vs 1 = _ := hd 1 (by kernel_rfl)
      rw [e1] at hK ⊢
      clear hd
      go_wp2_with (go_at_call 21; refine (HCL.out _ HRW).mono ?_; rintro e W1 ⟨ad, cap, rfl, g1, g2, g3⟩)
      have hx := HNX.out; subst hx; exact hK _ _ g2 ⟨ad, cap, rfl, g1, fun kb e => Nat.le_trans hB (g3 kb e)⟩ (fun kb e => by simp only [VnB, true_or, if_true] at e; exact g3 kb e)
    · clear hd
      go_wp2_with fail
      exact hK _ _ ((Keeps.refl _ _).alloc _) ⟨_, rfl, (RowAt.ofBlock (heap_alloc_new W _)).cell (k := 0) rfl⟩ (fun kb e => by simp [VnB] at e)
    · clear hd
      go_wp2_with fail
      exact hK _ _ (Keeps.refl _ _) rfl (fun kb e => by simp [VnB] at e)
    · have e4 : vs 4 = _ := hd 4 (by kernel_rfl)
      rw [e4] at hK ⊢
      clear hd
      go_wp2_with fail
      exact hK _ _ (Keeps.refl _ _) rfl (fun kb e => by simp [VnB] at e)
    · obtain ⟨g, e3, h3⟩ := (hd 3 (by kernel_rfl) : ∃ g, vs 3 = .slice (some ⟨g, 0, none⟩) 1 1 ∧ W.cell? ⟨g, 0, none⟩ = some (.int .i64 (-1)))
      have e5 : vs 5 = _ := hd 5 (by kernel_rfl)
      rw [e3, e5] at hK ⊢
      clear hd
      have HRP3 := Lib.hid (HRP.out W g h3)
      clear h3
      go_wp2_with (go_at_call 22; refine HRP3.out.mono ?_; rintro e W1 ⟨ad, cap, rfl, g1, g2, g3⟩)
      exact hK _ _ g2 ⟨ad, cap, rfl, g1, fun kb e => Nat.le_trans hB (g3 kb e)⟩ (fun kb e => by simp only [VnB, or_true, if_true] at e; exact g3 kb e)
  · intro vs W hR hF hD
    have HR' : Keeps NoBlk w1 W := ((Keeps.refl NoBlk w1).drew).trans0 hR
    have HKW : Hid (Keeps NoBlk w W) := HK1.out.trans0 HR'
    have R1' : Hid (RowAt W b1 [.slice ca nc cc, .int .i64 mu, .slice ta nt tc]) := R1.out.keeps HR' (fun h => h)
    obtain ⟨ca', cc', e2, hc1, hc2⟩ := (hF 2 (by decide) : ∃ ad cap, vs 2 = .slice ad xs.length cap ∧ W.ownsRow 0 3 1 (vs 2) xs.length (ints xs) ∧ ∀ kb, (vs 2).ownBlock = some kb → w.heap.size ≤ kb)
    obtain ⟨oa', oc', e6, ho1, ho2⟩ := (hF 6 (by decide) : ∃ ad cap, vs 6 = .slice ad ys.length cap ∧ W.ownsRow 0 3 1 (vs 6) ys.length (ints ys) ∧ ∀ kb, (vs 6).ownBlock = some kb → w.heap.size ≤ kb)
    have hap : ∀ kb, (vs 2).ownBlock = some kb → (vs 6).ownBlock ≠ some kb := fun kb e => hD 2 6 kb (by decide) (by decide) (by decide) (by simpa [VnB] using e)
    rw [e2] at hc1 hc2 hap
    rw [e6] at ho1 ho2 hap
    simp only [putsTo, List.getElem?_cons_zero, List.getElem?_cons_succ, Option.bind_some, Option.bind, Act.put, List.setIfInBounds_toArray, List.set_cons_zero, List.set_cons_succ, List.drop_succ_cons, List.drop_zero]
    rw [e2, e6]
    clear hF hD e2 e6
    generalize vs 0 = y0
    generalize vs 1 = y1
    generalize vs 3 = y3
    generalize vs 4 = y4
    generalize vs 5 = y5
    clear vs HR' hR R1 HK1
    have HC1 := Lib.hid hc1
    have HC2 := Lib.hid hc2
    have HO1 := Lib.hid ho1
    have HO2 := Lib.hid ho2
    have HAP := Lib.hid hap
    clear hc1 hc2 ho1 ho2 hap HCL HRP
    go_upto_region 4 with fail
    obtain ⟨b, hb⟩ : ∃ z, z = W.heap.size := ⟨_, rfl⟩
    have hrow : RowAt (W.alloc (.cells #[.slice ca' xs.length cc', .slice oa' ys.length oc', .slice none 0 0, .slice none 0 0] 68)) b [.slice ca' xs.length cc', .slice oa' ys.length oc', nilV, nilV] := by rw [hb]; exact RowAt.ofBlock (heap_alloc_new W _)
    have hkb : Keeps NoBlk W (W.alloc (.cells #[.slice ca' xs.length cc', .slice oa' ys.length oc', .slice none 0 0, .slice none 0 0] 68)) := (Keeps.refl _ _).alloc _
    have hbW : W.heap.size ≤ b := by omega
    rw [← hb]
    generalize W.alloc (.cells #[.slice ca' xs.length cc', .slice oa' ys.length oc', .slice none 0 0, .slice none 0 0] 68) = wN at hrow hkb ⊢
    obtain ⟨T0, hS0⟩ : ∃ T', NvI w wN T T' id b x (.slice ca' xs.length cc') (.slice oa' ys.length oc') 0 0 [] [] nilV nilV := by
      refine NvI.start (W := W) HTOK.out HKW.out hkb hbW hrow ?_ HC2.out ?_ HO2.out HAP.out
      · rw [← HX.out]; exact HC1.out
      · rw [← HY.out]; exact HO1.out
    have HS0 := Lib.hid hS0
    have x2 := (R1'.out.keeps hkb (fun h => h)).cell (k := 2) (v := .slice ta nt tc) rfl
    have HKB : Hid (Keeps NoBlk w wN) := HKW.out.trans0 hkb
    obtain ⟨c, hc⟩ : ∃ c, c = Value.slice ca' xs.length cc' := ⟨_, rfl⟩
    obtain ⟨o, ho⟩ : ∃ c, c = Value.slice oa' ys.length oc' := ⟨_, rfl⟩
    rw [← hc, ← ho] at HS0
    clear hb hbW hrow hkb hS0 hc ho HC1 HC2 HO1 HO2 HAP R1' HKW
    go_wp2_with fail
    go_loopw [22] (fun kv wr => ∃ (k : Nat) (T' : Tags) (us rs : List Value) (da : Option Addr) (dc : Nat) (fa : Option Addr) (fc : Nat), k ≤ nt ∧ kv = .int .i64 k ∧ Hid (NvI w wr T T' id b x c o k k us rs (.slice da k dc) (.slice fa k fc))) (fun kv _ => nt - (intOf kv).toNat)
    case atStart => exact ⟨0, T0, [], [], none, 0, none, 0, Nat.zero_le _, rfl, HS0.out⟩
    case round =>
      obtain ⟨k, T', us, rs, da, dc, fa, fc, hk, rfl, hS⟩ := hrel
      by_cases hlt : k < nt
      · have i1 : (0 : Int) ≤ k := by omega
        have i2 : (k : Int) < nt := by omega
        have hkx : k < x.threads.length := by rw [← HE.out.2.1]; exact hlt
        obtain ⟨ad, cap, e1, f1⟩ := (HI.out.keeps0 hS.out.keep).thr
        obtain ⟨g, og, u, e2, c0, c1, hsrc⟩ := f1 k hkx
        have hcd : x.threads.getD k ⟨0, []⟩ = x.cod k := rfl
        rw [hcd] at c0 hsrc
        have hta : ta = ad := by cases e1; rfl
        subst hta
        subst e2
        obtain ⟨ua, un, uc, hu⟩ : ∃ a n c, u = .slice a n c := by obtain ⟨a, q, e, _⟩ := hsrc; exact ⟨a, _, q, e⟩
        subst hu
        have hcp := codN_parts (right_cod HRT.out hkx)
        obtain ⟨rg, hrg⟩ : ∃ n : Nat, (x.cod k).regs = n := ⟨(x.cod k).regs.toNat, by omega⟩
        have HRG : Hid ((x.cod k).regs = rg ∧ rg ≤ 64) := ⟨hrg, by have := hcp.1.2; omega⟩
        have HNI : Hid ((x.cod k).ins.length ≠ 0 ∧ (x.cod k).ins.length ≤ 4000) := ⟨by have := hcp.2.1; omega, hcp.2.1.2⟩
        rw [hrg] at c0
        have HCI : Hid (∀ W, Keeps NoBlk wr W → Calls Try.prog 23 #[.slice ua un uc] W (NewRow 48 4 W (x.cod k).ins.length (insCells (x.cod k).ins))) := fun W hk => clone_ins W _ _ (hsrc.keeps0 hk) (by have := HNI.out.2; omega)
        have lg : g < wr.heap.size := World.block_lt_of_cell? wr _ c0
        have ng : g ≠ wr.heap.size := by omega
        clear f1 e1 hcd hsrc hcp hrg x2 hkx
        go_upto_region 7 with fail
        obtain ⟨b6, hb6⟩ : ∃ z, z = wr.heap.size := ⟨_, rfl⟩
        have hr6 : RowAt (wr.alloc (.cells #[.int .i64 rg, .slice ua un uc] 51)) b6 [.int .i64 rg, .slice ua un uc] := by rw [hb6]; exact RowAt.ofBlock (heap_alloc_new wr _)
        have hk6 : Keeps NoBlk wr (wr.alloc (.cells #[.int .i64 rg, .slice ua un uc] 51)) := (Keeps.refl _ _).alloc _
        have HL6 : Hid (b6 < (wr.alloc (.cells #[.int .i64 rg, .slice ua un uc] 51)).heap.size) := by show _ < _; rw [hb6]; simp
        have HL6' : Hid (wr.heap.size ≤ b6) := by show _ ≤ _; omega
        rw [← hb6]
        generalize wr.alloc (.cells #[.int .i64 rg, .slice ua un uc] 51) = w6 at hr6 hk6 HL6 ⊢
        have R6 := Lib.hid hr6
        have K6 := Lib.hid hk6
        have HS6 : Hid (NvI w w6 T T' id b x c o k k us rs (.slice da k dc) (.slice fa k fc)) := hS.out.keeps0 hk6
        clear hb6 hr6 hk6 c0 c1 lg ng
        refine wp_region_table3 9 (by kernel_rfl) (by kernel_rfl) _ (.pointer (some ⟨b, 0, none⟩)) rfl (.inl ⟨rfl, fun _ => rfl⟩) (fun _ _ _ h => h) (Keeps NoBlk) (Keeps.refl NoBlk) (fun a b c h h' => Keeps.trans0 h h') (VnG b b6 w6.heap.size (.slice da k dc) (.slice ua un uc) (x.cod k)) VnG.st (fun _ => rfl) ?_ ?_
        · intro i o' hi1 hi ho vs W Q' hR hd hK
          have HR' : Keeps NoBlk w6 W := ((Keeps.refl NoBlk w6).drew).trans0 hR
          have hB : w6.heap.size ≤ W.heap.size := HR'.size
          have x6 := (R6.out.keeps HR' (fun h => h)).cell (k := 1) (v := .slice ua un uc) rfl
          have d2 := (HS6.out.row.keeps HR' (fun h => h)).cell (k := 2) (v := .slice da k dc) rfl
          have HCI2 := HCI.out W (K6.out.trans0 HR')
          have HCI3 := Lib.hid HCI2
          clear HR' HCI2
          rcases (show i = 1 ∨ i = 2 ∨ i = 3 ∨ i = 4 ∨ i = 5 ∨ i = 6 ∨ i = 7 ∨ i = 8 by omega) with rfl | rfl | rfl | rfl | rfl | rfl | rfl | rfl
          all_goals (simp only [List.getElem?_cons_zero, List.getElem?_cons_succ, Option.some.injEq] at ho; subst ho; simp only [putsTo, List.getElem?_cons_zero, List.getElem?_cons_succ, Option.bind_some, Option.bind, Act.put, List.setIfInBounds_toArray, List.set_cons_zero, List.set_cons_succ] at hK ⊢; clear hi hi1)
          · clear hd
            go_wp2_with fail
            exact hK _ _ (Keeps.refl _ _) rfl
          · have e1 : vs 1 = _ := hd 1 (by kernel_rfl)
            rw [e1] at hK ⊢
            clear hd
            go_wp2_with fail
            exact hK _ _ (Keeps.refl _ _) rfl
          · have e2 : vs 2 = _ := hd 2 (by kernel_rfl)
            rw [e2] at hK ⊢
            clear hd
            go_wp2_with fail
            exact hK _ _ (Keeps.refl _ _) rfl
          · have e3 : vs 3 = _ := hd 3 (by kernel_rfl)
            rw [e3] at hK ⊢
            clear hd
            go_wp2_with fail
            exact hK _ _ (Keeps.refl _ _) rfl
          · clear hd
            go_wp2_with fail
            exact hK _ _ (Keeps.refl _ _) rfl
          · have e5 : vs 5 = _ := hd 5 (by kernel_rfl)
            rw [e5] at hK ⊢
            clear hd
            go_wp2_with fail
            exact hK _ _ (Keeps.refl _ _) rfl
          · have e6 : vs 6 = _ := hd 6 (by kernel_rfl)
            rw [e6] at hK ⊢
            clear hd
            go_wp2_with (go_at_call 23; refine HCI3.out.mono ?_; rintro e W1 ⟨ad, cap, rfl, g1, g2, g3⟩)
            exact hK _ _ g2 ⟨ad, cap, rfl, FRow.of g1 (fun kb e => Nat.le_trans hB (g3 kb e))⟩
          · obtain ⟨ad, cap, e7, h7⟩ := (hd 7 (by kernel_rfl) : ∃ ad cap, vs 7 = .slice ad (x.cod k).ins.length cap ∧ FRow W w6.heap.size (vs 7) (x.cod k).ins.length (insCells (x.cod k).ins))
            rw [e7] at hK h7 ⊢
            have H7 := Lib.hid h7
            clear hd h7
            go_wp2_with fail
            exact hK _ _ ((Keeps.refl _ _).alloc _) ⟨_, _, rfl, RowAt.ofBlock (heap_alloc_new W _), ⟨ad, cap, rfl⟩, H7.out.keeps0 ((Keeps.refl _ _).alloc _)⟩
        · intro vs W hR hF
          have HR' : Keeps NoBlk w6 W := ((Keeps.refl NoBlk w6).drew).trans0 hR
          have e0 : vs 0 = _ := hF 0 (by decide)
          have e4 : vs 4 = _ := hF 4 (by decide)
          obtain ⟨gs, u', e8, hgs, ⟨va, vc, eu⟩, hu'⟩ := (hF 8 (by decide) : ∃ g u', vs 8 = .slice (some ⟨g, 0, none⟩) 1 1 ∧ RowAt W g [u'] ∧ (∃ ad cap, u' = .slice ad (x.cod k).ins.length cap) ∧ FRow W w6.heap.size u' (x.cod k).ins.length (insCells (x.cod k).ins))
          have HU' := Lib.hid hu'
          have HGS := Lib.hid hgs
          have HRW := Lib.hid HR'
          simp only [putsTo, List.getElem?_cons_zero, List.getElem?_cons_succ, Option.bind_some, Option.bind, Act.put, List.setIfInBounds_toArray, List.set_cons_zero, List.set_cons_succ, List.drop_succ_cons, List.drop_zero]
          rw [e0, e4, e8]
          clear hF e0 e4 e8
          generalize vs 1 = yy1
          generalize vs 2 = yy2
          generalize vs 3 = yy3
          generalize vs 5 = yy5
          generalize vs 6 = yy6
          generalize vs 7 = yy7
          have hl8 : k + 1 ≤ 8 := by omega
          have HONE : Hid (u'.oneCell' = true) := by show _ = _; rw [eu]; rfl
          clear HR' hR hu' hgs HCI
          go_upto_region 8 with (at_builtin; refine wpList_append_src _ (by rfl) _ _ 65 (by rfl) 0 49 j0 _ 1 24 Try.underlying65 hj0 hy0 hy1 hy2 rfl (by decide) (.slice da k dc) k us (by rfl) (ownsRow_keeps HS6.out.down HRW.out (fun _ _ h => h)) (.slice (some ⟨gs, 0, none⟩) 1 1) 1 [u'] (by rfl) (RowAt.src HGS.out) rfl (by intro q hq; simp only [List.mem_singleton] at hq; rw [hq]; exact HONE.out) (by unfold maxLen; omega) (by omega) (Nat.zero_le _) ?_; intro da' dc' w8 hout; have HO := Lib.hid hout; have HR8 : Hid (RowAt w8 b [c, o, .slice da k dc, .slice fa k fc]) := (HS6.out.keeps0 HRW.out).row.keeps (hout.keeps (S := fun q => (Value.slice da k dc).ownBlock = some q) (Keeps.refl _ W) (fun q e _ => e)) (fun e => by have h1 := (HS6.out.dnew b e).1; rw [HS6.out.tb] at h1; cases h1); have R68 : Hid (RowAt w8 b6 [.int .i64 rg, .slice ua un uc]) := (R6.out.keeps HRW.out (fun h => h)).keeps (hout.keeps (S := fun q => (Value.slice da k dc).ownBlock = some q) (Keeps.refl _ W) (fun q e _ => e)) (fun e => by have h1 := ownsRow_lt hS.out.down e; have h2 := HL6'.out; omega); have zr8 := HR8.out.cell (k := 2) (v := .slice da k dc) rfl; have zf8 := HR8.out.free (k := 2) (by simp); clear hout)
          obtain ⟨T2, hS9⟩ := HS6.out.codeStep HRW.out HU'.out HNI.out.1 HO.out
          have r69 : RowAt (w8.setCell ⟨b, 2, none⟩ (.slice da' (k + 1) dc')) b6 [.int .i64 rg, .slice ua un uc] := R68.out.other (p := ⟨b, 2, none⟩) (fun e => by have e' : b = b6 := e; have h1 := hS.out.tok b _ hS.out.tb; have h2 := HL6'.out; omega) _
          generalize w8.setCell ⟨b, 2, none⟩ (.slice da' (k + 1) dc') = w9 at hS9 r69 ⊢
          have HS9 := Lib.hid hS9
          have R69 := Lib.hid r69
          clear hS9 r69 zr8 zf8 HR8 R68 HO
          refine wp_region_table3 10 (by kernel_rfl) (by kernel_rfl) _ (.pointer (some ⟨b, 0, none⟩)) rfl (.inl ⟨rfl, fun _ => rfl⟩) (fun _ _ _ h => h) (Keeps NoBlk) (Keeps.refl NoBlk) (fun a b c h h' => Keeps.trans0 h h') (VnH b b6 w9.heap.size rg (.slice fa k fc)) VnH.st (fun _ => rfl) ?_ ?_
          · intro i o' hi1 hi ho vs W Q' hR hd hK
            have HR' : Keeps NoBlk w9 W := ((Keeps.refl NoBlk w9).drew).trans0 hR
            have hB : w9.heap.size ≤ W.heap.size := HR'.size
            have x6 := (R69.out.keeps HR' (fun h => h)).cell (k := 0) (v := .int .i64 rg) rfl
            have d3 := (HS9.out.row.keeps HR' (fun h => h)).cell (k := 3) (v := .slice fa k fc) rfl
            have hmk := run_make_row' (P := Try.prog) 22 3 (.int .i64 0) 8 Try.underlying22 infoInt rfl .i64 .i64 rg (by have := HRG.out.2; omega) (by have := HRG.out.2; omega)
            clear HR'
            rcases (show i = 1 ∨ i = 2 ∨ i = 3 ∨ i = 4 ∨ i = 5 ∨ i = 6 ∨ i = 7 ∨ i = 8 ∨ i = 9 by omega) with rfl | rfl | rfl | rfl | rfl | rfl | rfl | rfl | rfl
            all_goals (simp only [List.getElem?_cons_zero, List.getElem?_cons_succ, Option.some.injEq] at ho; subst ho; simp only [putsTo, List.getElem?_cons_zero, List.getElem?_cons_succ, Option.bind_some, Option.bind, Act.put, List.setIfInBounds_toArray, List.set_cons_zero, List.set_cons_succ] at hK ⊢; clear hi hi1)
            · clear hd
              go_wp2_with fail
              exact hK _ _ (Keeps.refl _ _) rfl
            · have e1 : vs 1 = _ := hd 1 (by kernel_rfl)
              rw [e1] at hK ⊢
              clear hd
              go_wp2_with fail
              exact hK _ _ (Keeps.refl _ _) rfl
            · have e2 : vs 2 = _ := hd 2 (by kernel_rfl)
              rw [e2] at hK ⊢
              clear hd
              go_wp2_with fail
              exact hK _ _ (Keeps.refl _ _) rfl
            · have e3 : vs 3 = _ := hd 3 (by kernel_rfl)
              rw [e3] at hK ⊢
              clear hd
              go_wp2_with fail
              exact hK _ _ (Keeps.refl _ _) rfl
            · clear hd
              go_wp2_with fail
              exact hK _ _ (Keeps.refl _ _) rfl
            · have e5 : vs 5 = _ := hd 5 (by kernel_rfl)
              rw [e5] at hK ⊢
              clear hd
              go_wp2_with fail
              exact hK _ _ (Keeps.refl _ _) rfl
            · have e6 : vs 6 = _ := hd 6 (by kernel_rfl)
              rw [e6] at hK ⊢
              clear hd
              go_wp2_with fail
              exact hK _ _ ((Keeps.refl _ _).alloc _) ⟨_, rfl, hB, by simp, by rw [← madeList]; exact RowAt.ofBlock (by rw [Array.toArray_toList]; exact heap_alloc_new W _)⟩
            · obtain ⟨g7, e7, h7⟩ := (hd 7 (by kernel_rfl) : ∃ g, vs 7 = .slice (some ⟨g, 0, none⟩) rg rg ∧ w9.heap.size ≤ g ∧ g < W.heap.size ∧ RowAt W g (ints (List.replicate rg 0)))
              rw [e7] at hK ⊢
              have H7 := Lib.hid h7
              clear hd h7 hmk
              go_wp2_with fail
              exact hK _ _ (Keeps.refl _ _) ⟨g7, rfl, H7.out⟩
            · obtain ⟨g8, e8, h8⟩ := (hd 8 (by kernel_rfl) : ∃ g, vs 8 = .agg #[.int .i64 1, .slice (some ⟨g, 0, none⟩) rg rg, .int .i64 0] ∧ w9.heap.size ≤ g ∧ g < W.heap.size ∧ RowAt W g (ints (List.replicate rg 0)))
              rw [e8] at hK ⊢
              have H8 := Lib.hid h8
              clear hd h8 hmk
              go_wp2_with fail
              exact hK _ _ ((Keeps.refl _ _).alloc _) ⟨_, g8, rfl, RowAt.ofBlock (heap_alloc_new W _), H8.out.1, Nat.lt_of_lt_of_le H8.out.2.1 (by simp), H8.out.2.2.alloc _⟩
          · intro vs W hR hF
            have HR' : Keeps NoBlk w9 W := ((Keeps.refl NoBlk w9).drew).trans0 hR
            have e0 : vs 0 = _ := hF 0 (by decide)
            have e4 : vs 4 = _ := hF 4 (by decide)
            obtain ⟨g2, gr, e9, hg2, hB9, hgl9, hr9⟩ := (hF 9 (by decide) : ∃ g2 g, vs 9 = .slice (some ⟨g2, 0, none⟩) 1 1 ∧ RowAt W g2 (idleF (.slice (some ⟨g, 0, none⟩) rg rg)).cells ∧ w9.heap.size ≤ g ∧ g < W.heap.size ∧ RowAt W g (ints (List.replicate rg 0)))
            have HG2 := Lib.hid hg2
            have HR9 : Hid (w9.heap.size ≤ gr ∧ gr < W.heap.size ∧ RowAt W gr (ints (List.replicate rg 0))) := ⟨hB9, hgl9, hr9⟩
            have HRW' := Lib.hid HR'
            simp only [putsTo, List.getElem?_cons_zero, List.getElem?_cons_succ, Option.bind_some, Option.bind, Act.put, List.setIfInBounds_toArray, List.set_cons_zero, List.set_cons_succ, List.drop_succ_cons, List.drop_zero]
            rw [e0, e4, e9]
            clear hF e0 e4 e9
            generalize vs 1 = zz1
            generalize vs 2 = zz2
            generalize vs 3 = zz3
            generalize vs 5 = zz5
            generalize vs 6 = zz6
            generalize vs 7 = zz7
            generalize vs 8 = zz8
            clear HR' hR hg2 hB9 hgl9 hr9
            go_wp2_with (at_builtin; refine wpList_append_src _ (by rfl) _ _ 66 (by rfl) 0 71 k0 _ 3 40 Try.underlying66 hk0 hw0 hw1 hw2 rfl (by decide) (.slice fa k fc) k (frCells (rs.map idleF)) (by rfl) (ownsRow_keeps HS9.out.fown HRW'.out (fun _ _ h => h)) (.slice (some ⟨g2, 0, none⟩) 1 1) 1 (idleF (.slice (some ⟨gr, 0, none⟩) rg rg)).cells (by rfl) (RowAt.src HG2.out) rfl (by simp [idleF, HFr.cells, Value.oneCell']) (by unfold maxLen; omega) (by omega) (Nat.zero_le _) ?_; intro fa' fc' wB hout; have HO := Lib.hid hout; have HRB : Hid (RowAt wB b [c, o, .slice da' (k + 1) dc', .slice fa k fc]) := (HS9.out.keeps0 HRW'.out).row.keeps (hout.keeps (S := fun q => (Value.slice fa k fc).ownBlock = some q) (Keeps.refl _ W) (fun q e _ => e)) (fun e => by have h1 := HS9.out.ftag b e; rw [HS9.out.tb] at h1; cases h1); have zrB := HRB.out.cell (k := 3) (v := .slice fa k fc) rfl; have zfB := HRB.out.free (k := 3) (by simp); clear hout)
            obtain ⟨T3, hS10⟩ := HS9.out.frStep HRW'.out HR9.out.1 HR9.out.2.1 (by rw [HRG.out.1]; rfl) HR9.out.2.2 HO.out
            exact ⟨⟨k + 1, T3, _, _, da', dc', fa', fc', by omega, by go_num, hS10⟩, by simp [intOf]; omega⟩
      · have hkn : nt = k := by omega
        subst hkn
        clear hlt hk x2
        have e2 := HE.out.2.1
        have hS2 := hS.out
        rw [e2] at hS2
        obtain ⟨T2, gf, cf, hx, hvm⟩ := hS2.done (by rw [← e2]; exact n1)
        have hg0 := new0_good HRT.out
        obtain ⟨f, hf, hgf⟩ := hg0.get (i := 0) (by rw [← e2]; exact n1)
        have HB := Lib.hid (vbegin_any wr T2 id b gf cf 0 x (new0 x) f hvm hf (by rw [← e2]; exact n1) (by rw [← e2]; exact n2) hg0.len (right_cod HRT.out (by rw [← e2]; exact n1)) (hg0.ok.each 0 f hf))
        have HXT := Lib.hid hx
        have HKR : Hid (Keeps NoBlk w wr) := hS.out.keep
        clear e2 hS2 hx hvm hg0 hf hgf
        go_wp2_with (go_at_call 24; refine HB.out.mono ?_; rintro e wE ⟨rfl, hvE, hkE⟩; have HVE := Lib.hid hvE; have HKE := Lib.hid hkE; clear hvE hkE)
        go_ret2
        refine ⟨b, gf, cf, T2, rfl, HVE.out, HXT.out, HKR.out.trans HKE.out (fun q hq e => ?_)⟩
        obtain ⟨t, e1, _⟩ := e
        rcases HXT.out.2 q _ e1 with h1 | h1
        · exact HIDF.out q _ h1 rfl
        · omega
end Go.Proofs.Ytmkfpkficmmlgaa
