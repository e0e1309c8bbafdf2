/- The document's New. -/
import Derived.Test.YtmkfpkficmmlgaaK34
namespace Go.Proofs.Ytmkfpkficmmlgaa
open Go.RowKit
set_option linter.unusedVariables false
set_option linter.unusedSimpArgs false
set_option linter.unnecessarySimpa false

theorem infoThr : (Try.prog.info? 61).map (fun i => (i.zero, i.size, i.bytes)) = some (some (.agg #[.int .i64 0, .slice none 0 0, .int .i64 0]), 3, 40) := by kernel_rfl
/-- what the operations ahead of the appends leave -/
def RnF (b b1 : Nat) (c0 cv : Value) (j : Nat) (v : Value) (W : World) : Prop :=
  match j with
  | 0 => v = .pointer (some ⟨b, 0, none⟩)
  | 1 => v = .pointer (some ⟨b, 0, none⟩)
  | 2 => v = .pointer (some ⟨b, 0, none⟩)
  | 3 => v = .pointer (some ⟨b, 3, none⟩)
  | 4 => v = c0
  | 5 => v = .pointer (some ⟨b1, 0, none⟩)
  | 6 => v = cv
  | _ => True
theorem RnF.st {b b1 : Nat} {c0 cv : Value} (j : Nat) (v : Value) (W W' : World) (h : RnF b b1 c0 cv j v W) (_ : Keeps NoBlk W W') : RnF b b1 c0 cv j v W' := h
def RnG (b : Nat) (o : Value) (j : Nat) (v : Value) (W : World) : Prop :=
  match j with
  | 0 => v = .pointer (some ⟨b, 0, none⟩)
  | 1 => v = .pointer (some ⟨b, 0, none⟩)
  | 2 => v = .pointer (some ⟨b, 0, none⟩)
  | 3 => v = .pointer (some ⟨b, 4, none⟩)
  | 4 => v = o
  | 5 => ∃ g, v = .slice (some ⟨g, 0, none⟩) 1 1 ∧ RowAt W g [.int .i64 (-1)]
  | _ => True
theorem RnG.st {b : Nat} {o : Value} (j : Nat) (v : Value) (W W' : World) (h : RnG b o j v W) (hk : Keeps NoBlk W W') : RnG b o j v W' := by
  unfold RnG at *
  split at h
  case h_6 => obtain ⟨g, e, h1⟩ := h; exact ⟨g, e, h1.keeps hk (fun h => h)⟩
  all_goals first | exact h | trivial
def RnH (b : Nat) (fv : Value) (j : Nat) (v : Value) (W : World) : Prop :=
  match j with
  | 0 => v = .pointer (some ⟨b, 0, none⟩)
  | 1 => v = .pointer (some ⟨b, 0, none⟩)
  | 2 => v = .pointer (some ⟨b, 0, none⟩)
  | 3 => v = .pointer (some ⟨b, 5, none⟩)
  | 4 => v = fv
  | 5 => v = .agg #[.int .i64 1, .slice none 0 0, .int .i64 0]
  | 6 => ∃ g, v = .slice (some ⟨g, 0, none⟩) 1 1 ∧ RowAt W g idle0.cells
  | _ => True
theorem RnH.st {b : Nat} {fv : Value} (j : Nat) (v : Value) (W W' : World) (h : RnH b fv j v W) (hk : Keeps NoBlk W W') : RnH b fv j v W' := by
  unfold RnH at *
  split at h
  case h_7 => obtain ⟨g, e, h1⟩ := h; exact ⟨g, e, h1.keeps hk (fun h => h)⟩
  all_goals first | exact h | trivial

/-- a row that begins with a number lies apart from one that begins with a slice -/
theorem own_apart {w : World} {e size n b1 m c : Nat} {v : Value} {a : Int} {r r' : List Value} {ad : Option Addr} (h : w.ownsRow 0 e size v n (.int .i64 a :: r)) (hr : RowAt w b1 (.slice ad m c :: r')) : v.ownBlock ≠ some b1 := by
  intro hb
  rcases id h.2 with ⟨rfl, _⟩ | ⟨g, cap, cur, rfl, _⟩
  · simp [Value.ownBlock] at hb
  · simp [Value.ownBlock] at hb
    subst hb
    have h1 := (RowAt.ofOwns h).cell (k := 0) (v := .int .i64 a) rfl
    have h2 := hr.cell (k := 0) (v := .slice ad m c) rfl
    rw [h1] at h2
    cases h2

set_option maxRecDepth 8000 in
set_option maxHeartbeats 1000000 in
theorem rnew_bad (w : World) (cv tv : Value) (x : Img) (h : ImgR w cv tv x) (hr : rightN x = false) :
    Calls Try.prog 6 #[imgV cv tv x] w fun e w' => e = .returned (.tuple #[.pointer none, .int .i64 100]) ∧ Keeps NoBlk w w' := by
  obtain ⟨ca, cc, rfl, _⟩ := h.cells.ints
  obtain ⟨ta, tc, rfl, _⟩ := h.thr
  unfold imgV
  have HR : Hid (∀ W, Keeps NoBlk w W → Calls Try.prog 18 #[.agg #[.slice ca x.cells.length cc, .int .i64 x.mutexes, .slice ta x.threads.length tc]] W fun e w' => e = .returned (.bool false) ∧ Keeps NoBlk W w') := fun W hk => by
    have := refRight_any W _ _ x (h.keeps0 hk)
    rw [hr] at this
    exact this
  clear h hr
  go_enter Try.func6, Try.ntmps6
  go_wp2_with (go_at_call 18; refine (HR.out _ ((Keeps.refl _ _).alloc _)).mono ?_; rintro e w1 ⟨rfl, g1⟩; have z0 := (RowAt.ofBlock (g1.heap (k := w.heap.size) (fun h => h) (heap_alloc_new w _))).cell (k := 0) rfl; have G1 := Lib.hid g1; clear g1)
  go_ret2
  exact ⟨rfl, ((Keeps.refl _ _).alloc _).trans0 G1.out⟩

set_option maxRecDepth 8000 in
set_option maxHeartbeats 4000000 in
theorem rnew_ok (w : World) (T : Tags) (id : Nat) (cv tv : Value) (x : Img) (h : ImgR w cv tv x) (hr : rightN x = true) (hok : TOk T w) (hid : ∀ k y, T k = some y → y.1 = id → y.2 = .code) (ht : ThrAt w T tv x.threads) :
    Calls Try.prog 6 #[imgV cv tv x] w fun e w' => ∃ b gf cf T', e = .returned (.tuple #[.pointer (some ⟨b, 0, none⟩), .int .i64 0]) ∧ RmAt w' T' id b gf cf x (newN x) ∧ ExtI T T' id w ∧ Keeps NoBlk w w' := by
  have HI := Lib.hid h
  obtain ⟨ca, cc, rfl, _⟩ := h.cells.ints
  obtain ⟨ta, tc, rfl, _⟩ := h.thr
  unfold imgV
  have HR : Hid (∀ W, Keeps NoBlk w W → Calls Try.prog 18 #[.agg #[.slice ca x.cells.length cc, .int .i64 x.mutexes, .slice ta x.threads.length tc]] W fun e w' => e = .returned (.bool true) ∧ Keeps NoBlk W w') := fun W hk => by
    have := refRight_any W _ _ x (h.keeps0 hk)
    rw [hr] at this
    exact this
  have hp := right_parts hr
  have HRT := Lib.hid hr
  have HTOK := Lib.hid hok
  have HIDF := Lib.hid hid
  have HTH := Lib.hid ht
  obtain ⟨nc, hnc⟩ : ∃ n, n = x.cells.length := ⟨_, rfl⟩
  obtain ⟨nt, hnt⟩ : ∃ n, n = x.threads.length := ⟨_, rfl⟩
  obtain ⟨mu, hmu⟩ : ∃ n, n = x.mutexes := ⟨_, rfl⟩
  have HE : Hid (nc = x.cells.length ∧ nt = x.threads.length ∧ mu = x.mutexes) := ⟨hnc, hnt, hmu⟩
  rw [← hnc, ← hnt] at HI
  rw [← hnt] at HTH
  rw [← hnc, ← hnt, ← hmu] at HR ⊢
  have n1 : 1 ≤ nt := by rw [hnt]; exact hp.1.1
  have n2 : nt ≤ 8 := by rw [hnt]; exact hp.1.2
  have n3 : nc ≤ 8 := by rw [hnc]; exact hp.2.1
  obtain ⟨mm, hmm⟩ : ∃ n : Nat, mu = n := ⟨mu.toNat, by have := hp.2.2.1; omega⟩
  subst hmm
  have n4 : mm ≤ 8 := by have := hp.2.2.1; omega
  obtain ⟨i0, hi0, hz0, hz1, hz2⟩ := info_parts infoInt
  obtain ⟨k0, hk0, hw0, hw1, hw2⟩ := info_parts infoThr
  clear h hr hok hid ht hp hnc hnt hmu
  go_enter Try.func6, Try.ntmps6
  go_upto_region 4 with (go_at_call 18; refine (HR.out _ ((Keeps.refl _ _).alloc _)).mono ?_; rintro e w1 ⟨rfl, g1⟩; have G1 := Lib.hid g1; clear g1)
  obtain ⟨b1, hb1⟩ : ∃ z, z = w.heap.size := ⟨_, rfl⟩
  have R1 : Hid (RowAt w1 b1 [.slice ca nc cc, .int .i64 mm, .slice ta nt tc]) := by show RowAt _ _ _; rw [hb1]; exact (RowAt.ofBlock (heap_alloc_new w _)).keeps G1.out (fun h => h)
  have HK1 : Hid (Keeps NoBlk w w1) := ((Keeps.refl _ _).alloc _).trans0 G1.out
  rw [← hb1]
  have x0 := R1.out.cell (k := 0) (v := .slice ca nc cc) rfl
  have x1 := R1.out.cell (k := 1) (v := .int .i64 mm) rfl
  have x2 := R1.out.cell (k := 2) (v := .slice ta nt tc) rfl
  clear hb1 G1 HR
  go_upto_region 5 with fail
  obtain ⟨b, hb⟩ : ∃ z, z = w1.heap.size := ⟨_, rfl⟩
  have hrow : RowAt (w1.alloc (.cells #[.slice ca nc cc, .int .i64 mm, .slice ta nt tc, .slice none 0 0, .slice none 0 0, .slice none 0 0] 59)) b [.slice ca nc cc, .int .i64 mm, .slice ta nt tc, nilV, nilV, nilV] := by rw [hb]; exact RowAt.ofBlock (heap_alloc_new w1 _)
  have hkb : Keeps NoBlk w1 (w1.alloc (.cells #[.slice ca nc cc, .int .i64 mm, .slice ta nt tc, .slice none 0 0, .slice none 0 0, .slice none 0 0] 59)) := (Keeps.refl _ _).alloc _
  have hbw : w.heap.size ≤ b := by have := HK1.out.size; omega
  have hbb : b1 < b := by have := R1.out.lt (by simp); omega
  rw [← hb]
  generalize w1.alloc (.cells #[.slice ca nc cc, .int .i64 mm, .slice ta nt tc, .slice none 0 0, .slice none 0 0, .slice none 0 0] 59) = w2 at hrow hkb ⊢
  have HROW := Lib.hid hrow
  have HK2 : Hid (Keeps NoBlk w w2) := HK1.out.trans0 hkb
  have R12 : Hid (RowAt w2 b1 [.slice ca nc cc, .int .i64 mm, .slice ta nt tc]) := R1.out.keeps hkb (fun h => h)
  have HBW : Hid (w.heap.size ≤ b ∧ b1 < b) := ⟨hbw, hbb⟩
  clear hb hrow hkb hbw hbb x0 x1 x2 R1 HK1
  refine wp_region_table3 7 (by kernel_rfl) (by kernel_rfl) _ (.pointer (some ⟨b, 0, none⟩)) rfl (.inl ⟨rfl, fun _ => rfl⟩) (fun _ _ _ h => h) (Keeps NoBlk) (Keeps.refl NoBlk) (fun a b c h h' => Keeps.trans0 h h') (RnF b b1 nilV (.slice ca nc cc)) RnF.st (fun _ => rfl) ?_ ?_
  · intro i o' hi1 hi ho vs W Q' hR hd hK
    have HR' : Keeps NoBlk w2 W := ((Keeps.refl NoBlk w2).drew).trans0 hR
    have x3 := (HROW.out.keeps HR' (fun h => h)).cell (k := 3) (v := nilV) rfl
    have x0 := (R12.out.keeps HR' (fun h => h)).cell (k := 0) (v := .slice ca nc cc) rfl
    clear HR'
    rcases (show i = 1 ∨ i = 2 ∨ i = 3 ∨ i = 4 ∨ i = 5 ∨ i = 6 by omega) with rfl | rfl | rfl | rfl | rfl | rfl
    all_goals (simp only [List.getElem?_cons_zero, List.getElem?_cons_succ, Option.some.injEq] at ho; subst ho; simp only [putsTo, List.getElem?_cons_zero, List.getElem?_cons_succ, Option.bind_some, Option.bind, Act.put, List.setIfInBounds_toArray, List.set_cons_zero, List.set_cons_succ] at hK ⊢; clear hi hi1)
    · clear hd
      go_wp2_with fail
      exact hK _ _ (Keeps.refl _ _) rfl
    · have e1 : vs 1 = _ := hd 1 (by kernel_rfl)
      rw [e1] at hK ⊢
      clear hd
      go_wp2_with fail
      exact hK _ _ (Keeps.refl _ _) rfl
    · have e2 : vs 2 = _ := hd 2 (by kernel_rfl)
      rw [e2] at hK ⊢
      clear hd
      go_wp2_with fail
      exact hK _ _ (Keeps.refl _ _) rfl
    · have e3 : vs 3 = _ := hd 3 (by kernel_rfl)
      rw [e3] at hK ⊢
      clear hd
      go_wp2_with fail
      exact hK _ _ (Keeps.refl _ _) rfl
    · clear hd
      go_wp2_with fail
      exact hK _ _ (Keeps.refl _ _) rfl
    · have e5 : vs 5 = _ := hd 5 (by kernel_rfl)
      rw [e5] at hK ⊢
      clear hd
      go_wp2_with fail
      exact hK _ _ (Keeps.refl _ _) rfl
  · intro vs W hR hF
    have HR' : Keeps NoBlk w2 W := ((Keeps.refl NoBlk w2).drew).trans0 hR
    have e0 : vs 0 = _ := hF 0 (by decide)
    have e4 : vs 4 = _ := hF 4 (by decide)
    have e6 : vs 6 = _ := hF 6 (by decide)
    have HRW := Lib.hid HR'
    simp only [putsTo, List.getElem?_cons_zero, List.getElem?_cons_succ, Option.bind_some, Option.bind, Act.put, List.setIfInBounds_toArray, List.set_cons_zero, List.set_cons_succ, List.drop_succ_cons, List.drop_zero]
    rw [e0, e4, e6]
    clear hF e0 e4 e6
    generalize vs 1 = y1
    generalize vs 2 = y2
    generalize vs 3 = y3
    generalize vs 5 = y5
    have HLX : Hid ((ints x.cells).length = nc * 1) := by show _ = _; rw [ints_len, HE.out.1, Nat.mul_one]
    have HSRC : Hid (SrcAt W (.slice ca nc cc) nc (ints x.cells)) := by have h1 := (HI.out.keeps0 (HK2.out.trans0 HRW.out)).cells; rw [← HE.out.1] at h1; exact h1
    clear HR' hR vs
    go_upto_region 6 with (at_builtin; refine wpList_append_src _ (by rfl) _ _ 22 (by rfl) 0 3 i0 _ 1 8 Try.underlying22 hi0 hz0 hz1 hz2 rfl (by decide) nilV 0 [] (by rfl) (World.ownsRow_nil _ _ _ _) (.slice ca nc cc) nc (ints x.cells) (by rfl) HSRC.out HLX.out (ints_one x.cells) (by unfold maxLen; omega) (by omega) (Nat.zero_le _) ?_; intro c1 q1 w3 hout; have HO := Lib.hid hout; have HR3 : Hid (RowAt w3 b [.slice ca nc cc, .int .i64 mm, .slice ta nt tc, nilV, nilV, nilV]) := (HROW.out.keeps HRW.out (fun h => h)).keeps (hout.keeps (S := NoBlk) (Keeps.refl _ W) (fun q e _ => by simp [nilV, Value.ownBlock] at e)) (fun h => h); have R13 : Hid (RowAt w3 b1 [.slice ca nc cc, .int .i64 mm, .slice ta nt tc]) := (R12.out.keeps HRW.out (fun h => h)).keeps (hout.keeps (S := NoBlk) (Keeps.refl _ W) (fun q e _ => by simp [nilV, Value.ownBlock] at e)) (fun h => h); have zr3 := HR3.out.cell (k := 3) (v := nilV) rfl; have zf3 := HR3.out.free (k := 3) (by simp); clear hout)
    have ho1 := HO.out
    rw [Nat.zero_add, List.nil_append, HE.out.1] at ho1
    obtain ⟨T0, hS0⟩ := RnI.start (T := T) (id := id) (b := b) (x := x) (xv := .slice ca nc cc) (tv := .slice ta nt tc) HTOK.out (HK2.out.trans0 HRW.out) HBW.out.1 (by rw [← HE.out.2.2]; exact HROW.out.keeps HRW.out (fun h => h)) ho1
    rw [← HE.out.1] at hS0
    have hr1 : RowAt (w3.setCell ⟨b, 3, none⟩ (.slice c1 nc q1)) b1 [.slice ca nc cc, .int .i64 mm, .slice ta nt tc] := R13.out.other (p := ⟨b, 3, none⟩) (fun e => by have e' : b = b1 := e; have := HBW.out.2; omega) _
    generalize w3.setCell ⟨b, 3, none⟩ (.slice c1 nc q1) = wN at hS0 hr1 ⊢
    have HS0 := Lib.hid hS0
    have RB := Lib.hid hr1
    clear ho1 hS0 hr1 HO HR3 R13 zr3 zf3 HROW R12 HSRC HRW HK2 HLX
    go_wp2_with fail
    go_loopw [6] (fun kv wr => ∃ (k : Nat) (T' : Tags) (oa : Option Addr) (oc : Nat), k ≤ mm ∧ kv = .int .i64 k ∧ (k = 0 → oa = none) ∧ Hid (RnI w wr T T' id b x (.slice ca nc cc) (.slice ta nt tc) (.slice c1 nc q1) k 0 (.slice oa k oc) nilV) ∧ Hid (RowAt wr b1 [.slice ca nc cc, .int .i64 mm, .slice ta nt tc])) (fun kv _ => mm - (intOf kv).toNat)
    case atStart => exact ⟨0, T0, none, 0, Nat.zero_le _, rfl, fun _ => rfl, HS0.out, RB.out⟩
    case round =>
      obtain ⟨k, T', oa, oc, hk, rfl, h00, hS, hB⟩ := hrel
      have x1 := hB.out.cell (k := 1) (v := .int .i64 mm) rfl
      by_cases hlt : k < mm
      · have i1 : (0 : Int) ≤ k := by omega
        have i2 : (k : Int) < mm := by omega
        clear RB HS0 hk
        have x4 := hS.out.row.cell (k := 4) (v := .slice oa k oc) rfl
        have lb : b < wr.heap.size := hS.out.row.lt (by simp)
        have nb : b ≠ wr.heap.size := by omega
        go_wp2_with (at_builtin; refine wpList_append_src _ (by rfl) _ _ 22 (by rfl) 0 3 i0 _ 1 8 Try.underlying22 hi0 hz0 hz1 hz2 rfl (by decide) (.slice oa k oc) k (ints (List.replicate k (-1))) (by rfl) (ownsRow_keeps hS.out.oown ((Keeps.refl NoBlk _).alloc _) (fun _ _ h => h)) (.slice (some ⟨wr.heap.size, 0, none⟩) 1 1) 1 [.int .i64 (-1)] (by rfl) (RowAt.src (RowAt.ofBlock (heap_alloc_new _ _))) rfl (by simp [Value.oneCell']) (by unfold maxLen; omega) (by omega) (Nat.zero_le _) ?_; intro oa' oc' wB hout; have HO := Lib.hid hout; have KB : Hid (Keeps (fun q => (Value.slice oa k oc).ownBlock = some q) wr wB) := hout.keeps ((Keeps.refl _ wr).alloc _) (fun q e _ => e); have HRB : Hid (RowAt wB b [.slice ca nc cc, .int .i64 x.mutexes, .slice ta nt tc, .slice c1 nc q1, .slice oa k oc, nilV]) := hS.out.row.keeps KB.out (fun e => by have h1 := hS.out.otag b e; rw [hS.out.tb] at h1; cases h1); have zrB := HRB.out.cell (k := 4) (v := .slice oa k oc) rfl; have zfB := HRB.out.free (k := 4) (by simp); clear hout)
        obtain ⟨T3, hS10⟩ := hS.out.ownStep ((Keeps.refl _ _).alloc _) HO.out
        refine ⟨⟨k + 1, T3, oa', oc', by omega, by go_num, fun h => by omega, hS10, ?_⟩, by simp [intOf]; omega⟩
        refine (hB.out.keeps KB.out (fun e => ?_)).other (p := ⟨b, 4, none⟩) (fun e => by have e' : b = b1 := e; have := HBW.out.2; omega) _
        by_cases hk0 : k = 0
        · rw [h00 hk0] at e; simp [Value.ownBlock] at e
        · obtain ⟨k', rfl⟩ : ∃ k', k = k' + 1 := ⟨k - 1, by omega⟩
          have h1 := hS.out.oown
          rw [show ints (List.replicate (k' + 1) (-1)) = .int .i64 (-1) :: ints (List.replicate k' (-1)) by simp [ints, List.replicate_succ]] at h1
          exact own_apart h1 hB.out e
      · have hkn : mm = k := by omega
        subst hkn
        have HS1 := hS
        have x2 := hB.out.cell (k := 2) (v := .slice ta nt tc) rfl
        have HB1 := hB
        clear hlt hk HS0 RB
        go_wp2_with fail
        go_loopw [7] (fun kv wr => ∃ (k : Nat) (T' : Tags) (fa : Option Addr) (fc : Nat), k ≤ nt ∧ kv = .int .i64 k ∧ (k = 0 → fa = none) ∧ Hid (RnI w wr T T' id b x (.slice ca nc cc) (.slice ta nt tc) (.slice c1 nc q1) mm k (.slice oa mm oc) (.slice fa k fc)) ∧ Hid (RowAt wr b1 [.slice ca nc cc, .int .i64 mm, .slice ta nt tc])) (fun kv _ => nt - (intOf kv).toNat)
        case atStart => exact ⟨0, T', none, 0, Nat.zero_le _, rfl, fun _ => rfl, HS1.out, HB1.out⟩
        case round =>
          obtain ⟨k, T2, fa, fc, hk, rfl, h01, hS, hB⟩ := hrel
          have x2 := hB.out.cell (k := 2) (v := .slice ta nt tc) rfl
          by_cases hlt : k < nt
          · have i1 : (0 : Int) ≤ k := by omega
            have i2 : (k : Int) < nt := by omega
            clear HB1 HS1 hk
            have x5 := hS.out.row.cell (k := 5) (v := .slice fa k fc) rfl
            have lb : b < wr.heap.size := hS.out.row.lt (by simp)
            have nb : b ≠ wr.heap.size := by omega
            go_wp2_with (at_builtin; refine wpList_append_src _ (by rfl) _ _ 57 (by rfl) 0 61 k0 _ 3 40 Try.underlying57 hk0 hw0 hw1 hw2 rfl (by decide) (.slice fa k fc) k (frCells (List.replicate k idle0)) (by rfl) (ownsRow_keeps hS.out.fown ((Keeps.refl NoBlk _).alloc _) (fun _ _ h => h)) (.slice (some ⟨wr.heap.size, 0, none⟩) 1 1) 1 idle0.cells (by rfl) (RowAt.src (RowAt.ofBlock (heap_alloc_new _ _))) rfl (by simp [idle0, nilV, HFr.cells, Value.oneCell']) (by unfold maxLen; omega) (by omega) (Nat.zero_le _) ?_; intro fa' fc' wB hout; have HO := Lib.hid hout; have KB : Hid (Keeps (fun q => (Value.slice fa k fc).ownBlock = some q) wr wB) := hout.keeps ((Keeps.refl _ wr).alloc _) (fun q e _ => e); have HRB : Hid (RowAt wB b [.slice ca nc cc, .int .i64 x.mutexes, .slice ta nt tc, .slice c1 nc q1, .slice oa mm oc, .slice fa k fc]) := hS.out.row.keeps KB.out (fun e => by have h1 := hS.out.ftag b e; rw [hS.out.tb] at h1; cases h1); have zrB := HRB.out.cell (k := 5) (v := .slice fa k fc) rfl; have zfB := HRB.out.free (k := 5) (by simp); clear hout)
            obtain ⟨T3, hS10⟩ := hS.out.frStep ((Keeps.refl _ _).alloc _) HO.out
            refine ⟨⟨k + 1, T3, fa', fc', by omega, by go_num, fun h => by omega, hS10, ?_⟩, by simp [intOf]; omega⟩
            refine (hB.out.keeps KB.out (fun e => ?_)).other (p := ⟨b, 5, none⟩) (fun e => by have e' : b = b1 := e; have := HBW.out.2; omega) _
            by_cases hk0 : k = 0
            · rw [h01 hk0] at e; simp [Value.ownBlock] at e
            · obtain ⟨k', rfl⟩ : ∃ k', k = k' + 1 := ⟨k - 1, by omega⟩
              have h1 := hS.out.fown
              rw [show frCells (List.replicate (k' + 1) idle0) = .int .i64 1 :: ([nilV, .int .i64 0] ++ frCells (List.replicate k' idle0)) by simp [frCells, List.replicate_succ, idle0, HFr.cells]] at h1
              exact own_apart h1 hB.out e
          · have hkn : nt = k := by omega
            subst hkn
            clear hlt hk
            have e2 := HE.out.2.1
            have e3 := HE.out.2.2
            have hS2 := hS.out
            have em : mm = x.mutexes.toNat := by omega
            have HKR : Hid (Keeps NoBlk w wr) := hS.out.keep
            have HXT : Hid (ExtI T T2 id w) := hS.out.ext
            have hth := HTH.out
            have ex : ∃ gf cf, RmAt wr T2 id b gf cf x (new0 x) := by
              refine RnI.done (w := w) (T := T) (xs := ⟨ca, nc, cc⟩) (tv := .slice ta nt tc) (c := .slice c1 nc q1) (o := .slice oa mm oc) (fv := .slice fa nt fc) ?_ (by rw [← e2]; exact n1) hth
              rw [← em, ← e2]
              exact hS2
            obtain ⟨gf, cf, hvm⟩ := ex
            have hg0 := new0_good HRT.out
            obtain ⟨f, hf, hgf⟩ := hg0.get (i := 0) (by rw [← e2]; exact n1)
            have hst : f.st = 1 := by obtain ⟨_, rfl⟩ := new0_get x 0 f hf; rfl
            have HB := Lib.hid (rbegin_any wr T2 id b gf cf 0 x (new0 x) f hvm hf hst hg0 (new0_zero x))
            clear e2 e3 hS2 em hth hvm hg0 hf hgf hst
            go_wp2_with (go_at_call 19; refine HB.out.mono ?_; rintro e wE ⟨rfl, T4, hx4, hvE, hkE⟩; have HVE := Lib.hid hvE; have HKE := Lib.hid hkE; have HX4 := Lib.hid hx4; clear hvE hkE hx4)
            go_ret2
            refine ⟨b, gf, cf, T4, rfl, HVE.out, HXT.out.trans ((ExtI.ofN HX4.out).later HKR.out.size), HKR.out.trans HKE.out (fun q hq e => ?_)⟩
            obtain ⟨t, e1, et⟩ := e
            rcases HXT.out.2 q _ e1 with h1 | h1
            · exact absurd (HIDF.out q _ h1 rfl) et
            · omega
end Go.Proofs.Ytmkfpkficmmlgaa

/- The law's pick. -/
namespace Go.Proofs.Ytmkfpkficmmlgaa
open Go.RowKit
set_option linter.unusedVariables false
set_option linter.unusedSimpArgs false
set_option linter.unnecessarySimpa false

/-- which thread a raw number means -/
def pickN (n : Int) (l : List Int) : Int := if 100 ≤ n ∧ l ≠ [] then l.getD (n.toNat % l.length) 0 else n

set_option maxRecDepth 8000 in
set_option maxHeartbeats 1000000 in
theorem pick_any (w : World) (n : Int) (v : Value) (l : List Int) (h : SrcAt w v l.length (ints l)) (hl : l.length ≤ 1000) :
    Calls Try.prog 11 #[.int .i64 n, v] w fun e w' => e = .returned (.int .i64 (pickN n l)) ∧ Keeps NoBlk w w' := by
  obtain ⟨ad, cap, rfl, hc⟩ := h.ints
  clear h
  by_cases h1 : 100 ≤ n
  · have q1 : decide (100 ≤ n) = true := decide_eq_true h1
    by_cases h2 : l.length = 0
    · have HP : Hid (pickN n l = n) := by
        show _ = _
        unfold pickN
        rw [if_neg (fun h => h.2 (List.eq_nil_of_length_eq_zero h2))]
      rw [h2]
      clear h1 h2 hc hl
      go_enter Try.func11, Try.ntmps11
      go_wp2_with fail
      go_ret
      exact ⟨congrArg (fun b => Ending.returned (.int .i64 b)) HP.out.symm, Keeps.refl _ _⟩
    · have hlt : n.toNat % l.length < l.length := Nat.mod_lt _ (by omega)
      obtain ⟨g, o, rfl, c0⟩ := hc _ hlt
      have HP : Hid (pickN n l = l.getD (n.toNat % l.length) 0) := by
        show _ = _
        unfold pickN
        rw [if_pos ⟨h1, fun e => h2 (by rw [e]; rfl)⟩]
      obtain ⟨r, hr⟩ : ∃ r, r = n.toNat % l.length := ⟨_, rfl⟩
      have hrem : Int.tmod n (l.length : Int) = (r : Int) := by
        obtain ⟨k, rfl⟩ : ∃ k : Nat, n = k := ⟨n.toNat, by omega⟩
        rw [hr, Int.toNat_natCast]
        exact Int.ofNat_tmod k l.length
      rw [← hr] at hlt c0 HP
      generalize l.getD r 0 = u at c0 HP
      obtain ⟨m, hm⟩ : ∃ m, m = l.length := ⟨_, rfl⟩
      rw [← hm] at hlt hrem h2 hl ⊢
      have q2 : decide (0 < (m : Int)) = true := decide_eq_true (by omega)
      have i1 : (0 : Int) ≤ r := by omega
      have i2 : (r : Int) < m := by omega
      have i3 : (m : Int) ≠ 0 := by omega
      have i4 : ((m : Int) == 0) = false := beq_false_of_ne i3
      clear hr hm h1 h2 hc
      go_enter Try.func11, Try.ntmps11
      go_wp2_with fail
      go_ret
      exact ⟨congrArg (fun b => Ending.returned (.int .i64 b)) HP.out.symm, Keeps.refl _ _⟩
  · have q1 : decide (100 ≤ n) = false := decide_eq_false h1
    have HP : Hid (pickN n l = n) := by
      show _ = _
      unfold pickN
      rw [if_neg (fun h => h1 h.1)]
    clear h1 hc
    go_enter Try.func11, Try.ntmps11
    go_wp2_with fail
    go_ret
    exact ⟨congrArg (fun b => Ending.returned (.int .i64 b)) HP.out.symm, Keeps.refl _ _⟩

/-- the document's example -/
def shownX : Img := ⟨[5], 0, [⟨1, [⟨23, 0, 0, 0⟩, ⟨23, 0, 0, 0⟩, ⟨29, 0, 0, 0⟩]⟩]⟩
theorem shown_right : rightN shownX = true := by kernel_rfl
def shown0 : Mach := ⟨[5], [], [⟨2, [0], 0⟩]⟩
def shown1 : Mach := ⟨[5], [], [⟨2, [5], 1⟩]⟩
def shown2 : Mach := ⟨[10], [], [⟨2, [5], 2⟩]⟩
theorem shown_new : newN shownX = shown0 := by kernel_rfl
theorem shown_step0 : stepR shownX shown0 0 = (shown1, ⟨0, 3, 0, 5, 0⟩, 0) := by kernel_rfl
theorem shown_step1 : stepR shownX shown1 0 = (shown2, ⟨0, 3, 0, 5, 0⟩, 0) := by kernel_rfl
theorem shown_step2 : stepR shownX shown2 1 = (shown2, ⟨0, 0, 0, 0, 0⟩, 2) := by kernel_rfl
end Go.Proofs.Ytmkfpkficmmlgaa
