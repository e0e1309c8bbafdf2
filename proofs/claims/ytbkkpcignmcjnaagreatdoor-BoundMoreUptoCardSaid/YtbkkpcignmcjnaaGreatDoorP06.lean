/- Layer 6: may an expression be? The arguments. -/
import Derived.Test.YtbkkpcignmcjnaaGreatDoorP05
namespace Go.Proofs.YtbkkpcignmcjnaaGreatDoor
open Go.RowKit
set_option linter.unusedVariables false
set_option linter.unusedSimpArgs false
set_option linter.unnecessarySimpa false

theorem Ex.mayL_drop {regs : Int} {l : List Ex} {i : Nat} (h : i < l.length) : Ex.mayL regs (l.drop i) = (l[i].may regs && Ex.mayL regs (l.drop (i + 1))) := by
  rw [drop_at h]; rfl
theorem exprMay_any : ∀ (x : Ex) (regs : Int) (w : World) (F : Nat → Prop) (ad : Option Addr) (cap : Nat), ExsAt w F x.args ad → x.cnt < 1000000000 →
    Calls Tryz.prog 66 #[exV x ad cap, .int .i64 regs] w fun e w' => e = .returned (.bool (x.may regs)) ∧ Keeps NoBlk w w' := by
  refine Ex.ind (fun k num nm l ih regs w F ad cap h hb => ?_)
  have HL : Hid (ExsAt w F l ad) := h
  have IH := Lib.hid ih
  have hl := Ex.len_le l
  have hcn : Ex.cnt (.mk k num nm l) = 1 + Ex.cntL l := by simp [Ex.cnt]
  rw [hcn] at hb
  have hmay : Ex.may regs (.mk k num nm l) = (exLeaf k num nm l.length regs && Ex.mayL regs l) := by simp [Ex.may]
  rw [hmay]
  clear h ih hcn hmay
  show Calls _ _ #[.agg #[.int .i64 k, .int .i64 num, .string nm, .slice ad l.length cap], _] _ _
  by_cases k1 : k = 1
  · subst k1
    have e : (exLeaf 1 num nm l.length regs && Ex.mayL regs l) = exLeaf 1 num nm l.length regs := by
      cases l with
      | nil => simp [Ex.mayL]
      | cons x r => simp [exLeaf]
    rw [e]
    exact exprMay_one num nm _ regs w ad cap
  by_cases k2 : k = 2
  · subst k2
    have e : (exLeaf 2 num nm l.length regs && Ex.mayL regs l) = exLeaf 2 num nm l.length regs := by
      cases l with
      | nil => simp [Ex.mayL]
      | cons x r => simp [exLeaf]
    rw [e]
    exact exprMay_two num nm _ regs w ad cap
  cases hlf : exLeaf k num nm l.length regs
  · exact exprMay_bad k num nm _ regs w ad cap k1 k2 hlf
  rw [exLeaf_else k1 k2] at hlf
  simp only [Bool.and_eq_true, decide_eq_true_eq, beq_iff_eq] at hlf
  obtain ⟨⟨⟨⟨p1, p2⟩, p3⟩, p4⟩, p5⟩ := hlf
  have s1 := noName_T p4
  have p6 : ¬ k < 1 := by omega
  have p7 : ¬ 17 < k := by omega
  subst p3
  have p8 : (l.length : Int) = if k = 3 ∨ k = 4 then 1 else 2 := by split <;> simp_all
  obtain ⟨nl, hnl⟩ : ∃ n, n = l.length := ⟨_, rfl⟩
  have HNL := Lib.hid hnl
  rw [← hnl] at hl p8 ⊢
  simp only [Bool.true_and]
  obtain ⟨res, hres⟩ : ∃ b, b = Ex.mayL regs l := ⟨_, rfl⟩
  have HR := Lib.hid hres
  rw [← hres]
  have hnb : nl < 3 := by split at p8 <;> omega
  clear p5 hres hnl p4
  rcases argN_cases k with h3 | h3 | ⟨k3, k4⟩
  · subst h3
    obtain rfl : nl = 1 := by (have p9 : (nl : Int) = 1 := (by simpa using p8)); omega
    have hb2 : Ex.cntL l < 1000000000 := by omega
    have HB := Lib.hid hb2
    clear p8 hb hb2 hl hnb
    go_enter Tryz.func66, Tryz.ntmps66
    go_upto_region 1 with fail
    obtain ⟨b1, hb1⟩ : ∃ z, z = w.heap.size := ⟨_, rfl⟩
    have hr1 : RowAt (w.alloc (.cells #[.int .i64 3, .int .i64 0, .string nm, .slice ad 1 cap] 37)) b1 [.int .i64 3, .int .i64 0, .string nm, .slice ad 1 cap] := by rw [hb1]; exact RowAt.ofBlock (heap_alloc_new w _)
    have hk1 : Keeps NoBlk w (w.alloc (.cells #[.int .i64 3, .int .i64 0, .string nm, .slice ad 1 cap] 37)) := (Keeps.refl _ _).alloc _
    rw [← hb1]
    generalize w.alloc (.cells #[.int .i64 3, .int .i64 0, .string nm, .slice ad 1 cap] 37) = w1 at hr1 hk1 ⊢
    have R1 := Lib.hid hr1
    have K1 := Lib.hid hk1
    have c0 := hr1.cell (k := 0) (v := .int .i64 3) rfl
    have c1 := hr1.cell (k := 1) (v := .int .i64 0) rfl
    have c2 := hr1.cell (k := 2) (v := .string nm) rfl
    have c3 := hr1.cell (k := 3) (v := .slice ad 1 cap) rfl
    clear hr1 hk1 hb1
    go_upto_region 13 with fail
    clear c0 c1 c2
    go_loopw [6, 7] (fun iv bv wr => ∃ i : Nat, i ≤ 1 ∧ iv = .int .i64 i ∧ Hid (Ex.mayL regs (l.drop i) = res) ∧ Hid (Keeps NoBlk w1 wr)) (fun iv _ _ => 1 - (intOf iv).toNat)
    case atStart => exact ⟨0, Nat.zero_le _, rfl, by show _ = _; rw [List.drop_zero, HR.out], Keeps.refl _ _⟩
    case round =>
      obtain ⟨i, hi, rfl, HN, HK⟩ := hrel
      have c3' := (R1.out.keeps HK.out (fun h => h)).cell (k := 3) (v := .slice ad 1 cap) rfl
      clear c3
      by_cases hlt : i < 1
      · have i1 : (0 : Int) ≤ i := by omega
        have i2 : (i : Int) < 1 := by omega
        have hl2 : i < l.length := by rw [← HNL.out]; exact hlt
        have hd := HN.out
        rw [Ex.mayL_drop hl2] at hd
        obtain ⟨g, o, a, c, e1, hg, d0, d1, d2, d3, hx⟩ := (HL.out.keeps (K1.out.trans0 HK.out) (fun _ _ h => h)).at hl2
        subst e1
        have HC : Hid (∀ W, Keeps NoBlk wr W → Calls Tryz.prog 66 #[.agg #[.int .i64 l[i].kind, .int .i64 l[i].num, .string l[i].nm, .slice a l[i].args.length c], .int .i64 regs] W fun e w' => e = .returned (.bool (l[i].may regs)) ∧ Keeps NoBlk W w') := fun W hk => IH.out _ (List.getElem_mem hl2) regs W F a c (hx.keeps hk (fun _ _ h => h)) (by have := Ex.cnt_mem (List.getElem_mem hl2); have := HB.out; omega)
        obtain ⟨m, hm⟩ : ∃ m, m = l[i].may regs := ⟨_, rfl⟩
        rw [← hm] at HC hd
        have HD := Lib.hid hd
        clear hx hm hd
        generalize l[i].kind = x0 at d0 HC
        generalize l[i].num = x1 at d1 HC
        generalize l[i].nm = x2 at d2 HC
        generalize l[i].args.length = x3 at d3 HC
        cases m
        · go_wp2_with (go_at_call 66; refine (HC.out _ (Keeps.refl _ _)).mono ?_; rintro e w2 ⟨rfl, g1⟩; have G1 := Lib.hid g1; clear g1)
          go_ret
          exact ⟨by rw [← HD.out]; rfl, (K1.out.trans0 HK.out).trans0 G1.out⟩
        · go_wp2_with (go_at_call 66; refine (HC.out _ (Keeps.refl _ _)).mono ?_; rintro e w2 ⟨rfl, g1⟩; have G1 := Lib.hid g1; clear g1)
          go_roundw
          case rel => exact ⟨i + 1, by omega, by go_num, by show _ = _; rw [← HD.out]; rfl, HK.out.trans0 G1.out⟩
          case measure => simp [intOf]; omega
      · obtain rfl : i = 1 := by omega
        have hd := HN.out
        rw [HNL.out, List.drop_length] at hd
        go_wp2_with fail
        go_ret
        exact ⟨by rw [← hd]; rfl, K1.out.trans0 HK.out⟩
  · subst h3
    obtain rfl : nl = 1 := by (have p9 : (nl : Int) = 1 := (by simpa using p8)); omega
    have hb2 : Ex.cntL l < 1000000000 := by omega
    have HB := Lib.hid hb2
    clear p8 hb hb2 hl hnb
    go_enter Tryz.func66, Tryz.ntmps66
    go_upto_region 1 with fail
    obtain ⟨b1, hb1⟩ : ∃ z, z = w.heap.size := ⟨_, rfl⟩
    have hr1 : RowAt (w.alloc (.cells #[.int .i64 4, .int .i64 0, .string nm, .slice ad 1 cap] 37)) b1 [.int .i64 4, .int .i64 0, .string nm, .slice ad 1 cap] := by rw [hb1]; exact RowAt.ofBlock (heap_alloc_new w _)
    have hk1 : Keeps NoBlk w (w.alloc (.cells #[.int .i64 4, .int .i64 0, .string nm, .slice ad 1 cap] 37)) := (Keeps.refl _ _).alloc _
    rw [← hb1]
    generalize w.alloc (.cells #[.int .i64 4, .int .i64 0, .string nm, .slice ad 1 cap] 37) = w1 at hr1 hk1 ⊢
    have R1 := Lib.hid hr1
    have K1 := Lib.hid hk1
    have c0 := hr1.cell (k := 0) (v := .int .i64 4) rfl
    have c1 := hr1.cell (k := 1) (v := .int .i64 0) rfl
    have c2 := hr1.cell (k := 2) (v := .string nm) rfl
    have c3 := hr1.cell (k := 3) (v := .slice ad 1 cap) rfl
    clear hr1 hk1 hb1
    go_upto_region 13 with fail
    clear c0 c1 c2
    go_loopw [6, 7] (fun iv bv wr => ∃ i : Nat, i ≤ 1 ∧ iv = .int .i64 i ∧ Hid (Ex.mayL regs (l.drop i) = res) ∧ Hid (Keeps NoBlk w1 wr)) (fun iv _ _ => 1 - (intOf iv).toNat)
    case atStart => exact ⟨0, Nat.zero_le _, rfl, by show _ = _; rw [List.drop_zero, HR.out], Keeps.refl _ _⟩
    case round =>
      obtain ⟨i, hi, rfl, HN, HK⟩ := hrel
      have c3' := (R1.out.keeps HK.out (fun h => h)).cell (k := 3) (v := .slice ad 1 cap) rfl
      clear c3
      by_cases hlt : i < 1
      · have i1 : (0 : Int) ≤ i := by omega
        have i2 : (i : Int) < 1 := by omega
        have hl2 : i < l.length := by rw [← HNL.out]; exact hlt
        have hd := HN.out
        rw [Ex.mayL_drop hl2] at hd
        obtain ⟨g, o, a, c, e1, hg, d0, d1, d2, d3, hx⟩ := (HL.out.keeps (K1.out.trans0 HK.out) (fun _ _ h => h)).at hl2
        subst e1
        have HC : Hid (∀ W, Keeps NoBlk wr W → Calls Tryz.prog 66 #[.agg #[.int .i64 l[i].kind, .int .i64 l[i].num, .string l[i].nm, .slice a l[i].args.length c], .int .i64 regs] W fun e w' => e = .returned (.bool (l[i].may regs)) ∧ Keeps NoBlk W w') := fun W hk => IH.out _ (List.getElem_mem hl2) regs W F a c (hx.keeps hk (fun _ _ h => h)) (by have := Ex.cnt_mem (List.getElem_mem hl2); have := HB.out; omega)
        obtain ⟨m, hm⟩ : ∃ m, m = l[i].may regs := ⟨_, rfl⟩
        rw [← hm] at HC hd
        have HD := Lib.hid hd
        clear hx hm hd
        generalize l[i].kind = x0 at d0 HC
        generalize l[i].num = x1 at d1 HC
        generalize l[i].nm = x2 at d2 HC
        generalize l[i].args.length = x3 at d3 HC
        cases m
        · go_wp2_with (go_at_call 66; refine (HC.out _ (Keeps.refl _ _)).mono ?_; rintro e w2 ⟨rfl, g1⟩; have G1 := Lib.hid g1; clear g1)
          go_ret
          exact ⟨by rw [← HD.out]; rfl, (K1.out.trans0 HK.out).trans0 G1.out⟩
        · go_wp2_with (go_at_call 66; refine (HC.out _ (Keeps.refl _ _)).mono ?_; rintro e w2 ⟨rfl, g1⟩; have G1 := Lib.hid g1; clear g1)
          go_roundw
          case rel => exact ⟨i + 1, by omega, by go_num, by show _ = _; rw [← HD.out]; rfl, HK.out.trans0 G1.out⟩
          case measure => simp [intOf]; omega
      · obtain rfl : i = 1 := by omega
        have hd := HN.out
        rw [HNL.out, List.drop_length] at hd
        go_wp2_with fail
        go_ret
        exact ⟨by rw [← hd]; rfl, K1.out.trans0 HK.out⟩
  · skip
    obtain rfl : nl = 2 := by rw [if_neg (by omega)] at p8; omega
    have hb2 : Ex.cntL l < 1000000000 := by omega
    have HB := Lib.hid hb2
    clear p8 hb hb2 hl hnb
    go_enter Tryz.func66, Tryz.ntmps66
    go_upto_region 1 with fail
    obtain ⟨b1, hb1⟩ : ∃ z, z = w.heap.size := ⟨_, rfl⟩
    have hr1 : RowAt (w.alloc (.cells #[.int .i64 k, .int .i64 0, .string nm, .slice ad 2 cap] 37)) b1 [.int .i64 k, .int .i64 0, .string nm, .slice ad 2 cap] := by rw [hb1]; exact RowAt.ofBlock (heap_alloc_new w _)
    have hk1 : Keeps NoBlk w (w.alloc (.cells #[.int .i64 k, .int .i64 0, .string nm, .slice ad 2 cap] 37)) := (Keeps.refl _ _).alloc _
    rw [← hb1]
    generalize w.alloc (.cells #[.int .i64 k, .int .i64 0, .string nm, .slice ad 2 cap] 37) = w1 at hr1 hk1 ⊢
    have R1 := Lib.hid hr1
    have K1 := Lib.hid hk1
    have c0 := hr1.cell (k := 0) (v := .int .i64 k) rfl
    have c1 := hr1.cell (k := 1) (v := .int .i64 0) rfl
    have c2 := hr1.cell (k := 2) (v := .string nm) rfl
    have c3 := hr1.cell (k := 3) (v := .slice ad 2 cap) rfl
    clear hr1 hk1 hb1
    go_upto_region 13 with fail
    clear c0 c1 c2
    go_loopw [6, 7] (fun iv bv wr => ∃ i : Nat, i ≤ 2 ∧ iv = .int .i64 i ∧ Hid (Ex.mayL regs (l.drop i) = res) ∧ Hid (Keeps NoBlk w1 wr)) (fun iv _ _ => 2 - (intOf iv).toNat)
    case atStart => exact ⟨0, Nat.zero_le _, rfl, by show _ = _; rw [List.drop_zero, HR.out], Keeps.refl _ _⟩
    case round =>
      obtain ⟨i, hi, rfl, HN, HK⟩ := hrel
      have c3' := (R1.out.keeps HK.out (fun h => h)).cell (k := 3) (v := .slice ad 2 cap) rfl
      clear c3
      by_cases hlt : i < 2
      · have i1 : (0 : Int) ≤ i := by omega
        have i2 : (i : Int) < 2 := by omega
        have hl2 : i < l.length := by rw [← HNL.out]; exact hlt
        have hd := HN.out
        rw [Ex.mayL_drop hl2] at hd
        obtain ⟨g, o, a, c, e1, hg, d0, d1, d2, d3, hx⟩ := (HL.out.keeps (K1.out.trans0 HK.out) (fun _ _ h => h)).at hl2
        subst e1
        have HC : Hid (∀ W, Keeps NoBlk wr W → Calls Tryz.prog 66 #[.agg #[.int .i64 l[i].kind, .int .i64 l[i].num, .string l[i].nm, .slice a l[i].args.length c], .int .i64 regs] W fun e w' => e = .returned (.bool (l[i].may regs)) ∧ Keeps NoBlk W w') := fun W hk => IH.out _ (List.getElem_mem hl2) regs W F a c (hx.keeps hk (fun _ _ h => h)) (by have := Ex.cnt_mem (List.getElem_mem hl2); have := HB.out; omega)
        obtain ⟨m, hm⟩ : ∃ m, m = l[i].may regs := ⟨_, rfl⟩
        rw [← hm] at HC hd
        have HD := Lib.hid hd
        clear hx hm hd
        generalize l[i].kind = x0 at d0 HC
        generalize l[i].num = x1 at d1 HC
        generalize l[i].nm = x2 at d2 HC
        generalize l[i].args.length = x3 at d3 HC
        cases m
        · go_wp2_with (go_at_call 66; refine (HC.out _ (Keeps.refl _ _)).mono ?_; rintro e w2 ⟨rfl, g1⟩; have G1 := Lib.hid g1; clear g1)
          go_ret
          exact ⟨by rw [← HD.out]; rfl, (K1.out.trans0 HK.out).trans0 G1.out⟩
        · go_wp2_with (go_at_call 66; refine (HC.out _ (Keeps.refl _ _)).mono ?_; rintro e w2 ⟨rfl, g1⟩; have G1 := Lib.hid g1; clear g1)
          go_roundw
          case rel => exact ⟨i + 1, by omega, by go_num, by show _ = _; rw [← HD.out]; rfl, HK.out.trans0 G1.out⟩
          case measure => simp [intOf]; omega
      · obtain rfl : i = 2 := by omega
        have hd := HN.out
        rw [HNL.out, List.drop_length] at hd
        go_wp2_with fail
        go_ret
        exact ⟨by rw [← hd]; rfl, K1.out.trans0 HK.out⟩
end Go.Proofs.YtbkkpcignmcjnaaGreatDoor
