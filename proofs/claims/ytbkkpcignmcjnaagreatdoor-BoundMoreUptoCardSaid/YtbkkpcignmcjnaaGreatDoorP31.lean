/- Layer 3: the document's Count and Deep. -/
import Derived.Test.YtbkkpcignmcjnaaGreatDoorP19
import Derived.Test.YtbkkpcignmcjnaaGreatDoorP30
import Derived.Test.YtbkkpcignmcjnaaGreatDoorP05
namespace Go.Proofs.YtbkkpcignmcjnaaGreatDoor
open Go.RowKit
set_option linter.unusedVariables false
set_option linter.unusedSimpArgs false
set_option linter.unnecessarySimpa false

def RcOk (l : List St) : Prop := ∀ (w : World) (F : Nat → Prop) (ad : Option Addr) (cap : Nat), StsAt w F l ad → St.szL l < 1000000000 →
  Calls Tryz.prog 45 #[.slice ad l.length cap] w fun e w' => e = .returned (.int .i64 (St.cntL l : Nat)) ∧ Keeps NoBlk w w'
set_option maxRecDepth 8000 in
set_option maxHeartbeats 2000000 in
theorem rcOk_of (l : List St) (ih : ∀ y, y ∈ l → RcOk y.thn ∧ RcOk y.els) : RcOk l := by
  intro w F ad cap h hb
  have HL := Lib.hid h
  have IH := Lib.hid ih
  have hl := St.len_le l
  have hcl := St.cntL_le l
  have HB := Lib.hid hb
  obtain ⟨tot, ht⟩ : ∃ t, t = St.cntL l := ⟨_, rfl⟩
  have HT := Lib.hid ht
  rw [← ht] at hcl ⊢
  have hb1 : l.length < 1000000000 := by omega
  have hb2 : tot < 1000000000 := by omega
  clear h ih ht hb hl hcl
  go_enter Tryz.func45, Tryz.ntmps45
  go_wp2_with fail
  go_loopw [3, 4] (fun nv iv wr => ∃ i n : Nat, i ≤ l.length ∧ nv = .int .i64 n ∧ iv = .int .i64 i ∧ Hid (n + St.cntL (l.drop i) = tot) ∧ Hid (Keeps NoBlk w wr)) (fun _ iv _ => l.length - (intOf iv).toNat)
  case atStart => exact ⟨0, 0, Nat.zero_le _, rfl, rfl, by show _ = _; rw [List.drop_zero, HT.out]; omega, Keeps.refl _ _⟩
  case round =>
    obtain ⟨i, n, hi, rfl, rfl, HN, HK⟩ := hrel
    by_cases hlt : i < l.length
    · have i1 : (0 : Int) ≤ i := by omega
      have i2 : (i : Int) < l.length := by omega
      have hd := HN.out
      rw [drop_at hlt] at hd
      simp only [St.cntL, St.cnt_eq] at hd
      obtain ⟨g, o, xa, xc, ta, tc, ea, ec, e1, hg, d0, d1, d2, d3, d4, d5, d6, d7, d8, d9, hx, hxt, hxe⟩ := (HL.out.keeps HK.out (fun _ _ h => h)).at hlt
      subst e1
      have hsz := St.sz_mem (List.getElem_mem hlt)
      rw [St.sz_eq] at hsz
      have hB := HB.out
      have HTH : Hid (∀ W, Keeps NoBlk wr W → Calls Tryz.prog 69 #[.agg #[.int .i64 l[i].ex.kind, .int .i64 l[i].ex.num, .string l[i].ex.nm, .slice xa l[i].ex.args.length xc]] W fun e w' => e = .returned (.bool l[i].ex.there) ∧ Keeps NoBlk W w') := fun W hk => exThere_any l[i].ex W xa xc
      have HX : Hid (∀ W, Keeps NoBlk wr W → Calls Tryz.prog 64 #[.agg #[.int .i64 l[i].ex.kind, .int .i64 l[i].ex.num, .string l[i].ex.nm, .slice xa l[i].ex.args.length xc]] W fun e w' => e = .returned (.int .i64 l[i].ex.cnt) ∧ Keeps NoBlk W w') := fun W hk => exprCount_any l[i].ex W F xa xc (hx.keeps hk (fun _ _ h => h)) (by omega)
      have HTT : Hid (∀ W, Keeps NoBlk wr W → Calls Tryz.prog 45 #[.slice ta l[i].thn.length tc] W fun e w' => e = .returned (.int .i64 (St.cntL l[i].thn : Nat)) ∧ Keeps NoBlk W w') := fun W hk => (IH.out _ (List.getElem_mem hlt)).1 W F ta tc (hxt.keeps hk (fun _ _ h => h)) (by omega)
      have HEE : Hid (∀ W, Keeps NoBlk wr W → Calls Tryz.prog 45 #[.slice ea l[i].els.length ec] W fun e w' => e = .returned (.int .i64 (St.cntL l[i].els : Nat)) ∧ Keeps NoBlk W w') := fun W hk => (IH.out _ (List.getElem_mem hlt)).2 W F ea ec (hxe.keeps hk (fun _ _ h => h)) (by omega)
      obtain ⟨th, hth⟩ : ∃ th, th = l[i].ex.there := ⟨_, rfl⟩
      obtain ⟨cx, hcx⟩ : ∃ c, c = l[i].ex.cnt := ⟨_, rfl⟩
      obtain ⟨ct, hct⟩ : ∃ c, c = St.cntL l[i].thn := ⟨_, rfl⟩
      obtain ⟨ce, hce⟩ : ∃ c, c = St.cntL l[i].els := ⟨_, rfl⟩
      rw [← hth] at HTH hd
      rw [← hcx] at HX hd
      rw [← hct] at HTT hd
      rw [← hce] at HEE hd
      clear hx hxt hxe hsz hB hth hcx hct hce d0 d1 d2 d7
      generalize l[i].ex.kind = x3 at d3 HX HTH
      generalize l[i].ex.num = x4 at d4 HX HTH
      generalize l[i].ex.nm = x5 at d5 HX HTH
      generalize l[i].ex.args.length = x6 at d6 HX HTH
      generalize l[i].thn.length = x8 at d8 HTT
      generalize l[i].els.length = x9 at d9 HEE
      cases th
      · rw [if_neg (by decide)] at hd
        have HD := Lib.hid hd
        have b1 : n + 1 + ct + ce < 1000000000 := by omega
        have b2 : n + 1 + ct < 1000000000 := by omega
        clear hd
        go_upto_region 9 with (go_at_call 69; refine (HTH.out _ (Keeps.refl _ _)).mono ?_; rintro e w2 ⟨rfl, g1⟩; have G1 := Lib.hid g1; have d8' := g1.cell (p := ⟨g, o + i * 10 + 8, none⟩) (fun h => h) d8; clear g1)
        go_upto_region 10 with (go_at_call 45; refine (HTT.out _ G1.out).mono ?_; rintro e w3 ⟨rfl, g2⟩; have d9' := (G1.out.trans0 g2).cell (p := ⟨g, o + i * 10 + 9, none⟩) (fun h => h) d9; have G2 := Lib.hid (G1.out.trans0 g2); clear g2 d8')
        go_wp2_with (go_at_call 45; refine (HEE.out _ G2.out).mono ?_; rintro e w4 ⟨rfl, g3⟩; have G3 := Lib.hid (G2.out.trans0 g3); clear g3)
        go_roundw
        case rel => exact ⟨i + 1, n + 1 + ct + ce, by omega, by go_num, by go_num, by show _ = _; have := HD.out; omega, HK.out.trans0 G3.out⟩
        case measure => simp [intOf]; omega
      · rw [if_pos rfl] at hd
        have HD := Lib.hid hd
        have b1 : n + 1 + cx + ct + ce < 1000000000 := by omega
        have b2 : n + 1 + cx + ct < 1000000000 := by omega
        have b3 : n + 1 + cx < 1000000000 := by omega
        clear hd
        go_upto_region 8 with (go_at_call 69; refine (HTH.out _ (Keeps.refl _ _)).mono ?_; rintro e w2 ⟨rfl, g1⟩; have G1 := Lib.hid g1; have d3' := g1.cell (p := ⟨g, o + i * 10 + 3, none⟩) (fun h => h) d3; have d4' := g1.cell (p := ⟨g, o + i * 10 + 4, none⟩) (fun h => h) d4; have d5' := g1.cell (p := ⟨g, o + i * 10 + 5, none⟩) (fun h => h) d5; have d6' := g1.cell (p := ⟨g, o + i * 10 + 6, none⟩) (fun h => h) d6; clear g1)
        go_upto_region 9 with (go_at_call 64; refine (HX.out _ G1.out).mono ?_; rintro e wx ⟨rfl, gx⟩; have GX := Lib.hid (G1.out.trans0 gx); have d8' := (G1.out.trans0 gx).cell (p := ⟨g, o + i * 10 + 8, none⟩) (fun h => h) d8; clear gx d3' d4' d5' d6')
        go_upto_region 10 with (go_at_call 45; refine (HTT.out _ GX.out).mono ?_; rintro e w3 ⟨rfl, g2⟩; have d9' := (GX.out.trans0 g2).cell (p := ⟨g, o + i * 10 + 9, none⟩) (fun h => h) d9; have G2 := Lib.hid (GX.out.trans0 g2); clear g2 d8')
        go_wp2_with (go_at_call 45; refine (HEE.out _ G2.out).mono ?_; rintro e w4 ⟨rfl, g3⟩; have G3 := Lib.hid (G2.out.trans0 g3); clear g3)
        go_roundw
        case rel => exact ⟨i + 1, n + 1 + cx + ct + ce, by omega, by go_num, by go_num, by show _ = _; have := HD.out; omega, HK.out.trans0 G3.out⟩
        case measure => simp [intOf]; omega
    · obtain rfl : i = l.length := by omega
      have hd := HN.out
      rw [List.drop_length] at hd
      simp only [St.cntL] at hd
      obtain rfl : n = tot := by omega
      go_wp2_with fail
      go_ret
      exact ⟨by go_num, HK.out⟩
theorem rcOk (l : List St) : RcOk l := by
  have key : ∀ x : St, RcOk x.thn ∧ RcOk x.els := fun x => St.ind (P := fun x => RcOk x.thn ∧ RcOk x.els) (fun k r o x c t e h1 h2 => ⟨rcOk_of t h1, rcOk_of e h2⟩) x
  exact rcOk_of l (fun y _ => key y)

def RdOk (l : List St) : Prop := ∀ (w : World) (F : Nat → Prop) (ad : Option Addr) (cap d : Nat), StsAt w F l ad → d + St.szL l < 1000000000 →
  Calls Tryz.prog 44 #[.slice ad l.length cap, .int .i64 d] w fun e w' => e = .returned (.int .i64 (St.deepL d l : Nat)) ∧ Keeps NoBlk w w'
set_option maxRecDepth 8000 in
set_option maxHeartbeats 2000000 in
theorem rdOk_of (l : List St) (ih : ∀ y, y ∈ l → RdOk y.thn ∧ RdOk y.els) : RdOk l := by
  intro w F ad cap d h hb
  have HL := Lib.hid h
  have IH := Lib.hid ih
  have hl := St.len_le l
  have hcl := St.deepL_le d l
  have HB := Lib.hid hb
  obtain ⟨tot, ht⟩ : ∃ t, t = St.deepL d l := ⟨_, rfl⟩
  have HT := Lib.hid ht
  rw [← ht] at hcl ⊢
  have hb1 : l.length < 1000000000 := by omega
  have hb2 : tot < 1000000000 := by omega
  have hb3 : d < 1000000000 := by omega
  clear h ih ht hb hl hcl
  have hw : IntKind.i64.wrap ((d : Int) + 1) = (d : Int) + 1 := wrap_small _ (by omega) (by omega)
  go_enter Tryz.func44, Tryz.ntmps44
  go_wp2_with fail
  go_loopw [5, 6] (fun nv iv wr => ∃ i n : Nat, i ≤ l.length ∧ nv = .int .i64 n ∧ iv = .int .i64 i ∧ Hid (max n (St.deepL d (l.drop i)) = tot) ∧ Hid (Keeps NoBlk w wr)) (fun _ iv _ => l.length - (intOf iv).toNat)
  case atStart => exact ⟨0, 0, Nat.zero_le _, rfl, rfl, by show _ = _; rw [List.drop_zero, HT.out]; omega, Keeps.refl _ _⟩
  case round =>
    obtain ⟨i, n, hi, rfl, rfl, HN, HK⟩ := hrel
    by_cases hlt : i < l.length
    · have i1 : (0 : Int) ≤ i := by omega
      have i2 : (i : Int) < l.length := by omega
      have hd := HN.out
      rw [drop_at hlt] at hd
      simp only [St.deepL, St.deep_eq] at hd
      obtain ⟨g, o, xa, xc, ta, tc, ea, ec, e1, hg, d0, d1, d2, d3, d4, d5, d6, d7, d8, d9, hx, hxt, hxe⟩ := (HL.out.keeps HK.out (fun _ _ h => h)).at hlt
      subst e1
      have hsz := St.sz_mem (List.getElem_mem hlt)
      rw [St.sz_eq] at hsz
      have hB := HB.out
      have e : ((d + 1 : Nat) : Int) = (d : Int) + 1 := by omega
      have HTH : Hid (∀ W, Keeps NoBlk wr W → Calls Tryz.prog 69 #[.agg #[.int .i64 l[i].ex.kind, .int .i64 l[i].ex.num, .string l[i].ex.nm, .slice xa l[i].ex.args.length xc]] W fun e w' => e = .returned (.bool l[i].ex.there) ∧ Keeps NoBlk W w') := fun W hk => exThere_any l[i].ex W xa xc
      have HX : Hid (∀ W, Keeps NoBlk wr W → Calls Tryz.prog 70 #[.agg #[.int .i64 l[i].ex.kind, .int .i64 l[i].ex.num, .string l[i].ex.nm, .slice xa l[i].ex.args.length xc]] W fun e w' => e = .returned (.int .i64 l[i].ex.dep) ∧ Keeps NoBlk W w') := fun W hk => exprDeep_any l[i].ex W F xa xc (hx.keeps hk (fun _ _ h => h)) (by omega)
      have HTT : Hid (∀ W, Keeps NoBlk wr W → Calls Tryz.prog 44 #[.slice ta l[i].thn.length tc, .int .i64 ((d : Int) + 1)] W fun e w' => e = .returned (.int .i64 (St.deepL (d + 1) l[i].thn : Nat)) ∧ Keeps NoBlk W w') := fun W hk => by rw [← e]; exact (IH.out _ (List.getElem_mem hlt)).1 W F ta tc (d + 1) (hxt.keeps hk (fun _ _ h => h)) (by omega)
      have HEE : Hid (∀ W, Keeps NoBlk wr W → Calls Tryz.prog 44 #[.slice ea l[i].els.length ec, .int .i64 ((d : Int) + 1)] W fun e w' => e = .returned (.int .i64 (St.deepL (d + 1) l[i].els : Nat)) ∧ Keeps NoBlk W w') := fun W hk => by rw [← e]; exact (IH.out _ (List.getElem_mem hlt)).2 W F ea ec (d + 1) (hxe.keeps hk (fun _ _ h => h)) (by omega)
      obtain ⟨th, hth⟩ : ∃ th, th = l[i].ex.there := ⟨_, rfl⟩
      obtain ⟨cx, hcx⟩ : ∃ c, c = l[i].ex.dep := ⟨_, rfl⟩
      obtain ⟨ct, hct⟩ : ∃ c, c = St.deepL (d + 1) l[i].thn := ⟨_, rfl⟩
      obtain ⟨ce, hce⟩ : ∃ c, c = St.deepL (d + 1) l[i].els := ⟨_, rfl⟩
      rw [← hth] at HTH hd
      rw [← hcx] at HX hd
      rw [← hct] at HTT hd
      rw [← hce] at HEE hd
      clear hx hxt hxe hsz hB hth hcx hct hce d0 d1 d2 d7 e
      generalize l[i].ex.kind = x3 at d3 HX HTH
      generalize l[i].ex.num = x4 at d4 HX HTH
      generalize l[i].ex.nm = x5 at d5 HX HTH
      generalize l[i].ex.args.length = x6 at d6 HX HTH
      generalize l[i].thn.length = x8 at d8 HTT
      generalize l[i].els.length = x9 at d9 HEE
      obtain ⟨n1, hn1⟩ : ∃ z, z = max n d := ⟨_, rfl⟩
      have m1 : max (n : Int) (d : Int) = (n1 : Int) := by omega
      cases th
      · rw [if_neg (by decide)] at hd
        obtain ⟨n2, hn2⟩ : ∃ z, z = max n1 ct := ⟨_, rfl⟩
        have m2 : max (n1 : Int) (ct : Int) = (n2 : Int) := by omega
        obtain ⟨n3, hn3⟩ : ∃ z, z = max n2 ce := ⟨_, rfl⟩
        have m3 : max (n2 : Int) (ce : Int) = (n3 : Int) := by omega
        have HD : Hid (max n3 (St.deepL d (l.drop (i + 1))) = tot) := by show _ = _; omega
        clear hd hn1 hn2 hn3
        go_upto_region 10 with (go_at_call 69; refine (HTH.out _ (Keeps.refl _ _)).mono ?_; rintro e w2 ⟨rfl, g1⟩; have G1 := Lib.hid g1; have d8' := g1.cell (p := ⟨g, o + i * 10 + 8, none⟩) (fun h => h) d8; clear g1)
        go_upto_region 12 with (go_at_call 44; refine (HTT.out _ G1.out).mono ?_; rintro e w3 ⟨rfl, g2⟩; have d9' := (G1.out.trans0 g2).cell (p := ⟨g, o + i * 10 + 9, none⟩) (fun h => h) d9; have G2 := Lib.hid (G1.out.trans0 g2); clear g2 d8')
        go_wp2_with (go_at_call 44; refine (HEE.out _ G2.out).mono ?_; rintro e w4 ⟨rfl, g3⟩; have G3 := Lib.hid (G2.out.trans0 g3); clear g3)
        go_roundw
        case rel => exact ⟨i + 1, n3, by omega, by first | rfl | (congr 1; omega) | go_num, by go_num, HD, HK.out.trans0 G3.out⟩
        case measure => simp [intOf]; omega
      · rw [if_pos rfl] at hd
        obtain ⟨nx, hnx⟩ : ∃ z, z = max n1 cx := ⟨_, rfl⟩
        have mx : max (n1 : Int) (cx : Int) = (nx : Int) := by omega
        obtain ⟨n2, hn2⟩ : ∃ z, z = max nx ct := ⟨_, rfl⟩
        have m2 : max (nx : Int) (ct : Int) = (n2 : Int) := by omega
        obtain ⟨n3, hn3⟩ : ∃ z, z = max n2 ce := ⟨_, rfl⟩
        have m3 : max (n2 : Int) (ce : Int) = (n3 : Int) := by omega
        have HD : Hid (max n3 (St.deepL d (l.drop (i + 1))) = tot) := by show _ = _; omega
        clear hd hn1 hn2 hn3 hnx
        go_upto_region 8 with (go_at_call 69; refine (HTH.out _ (Keeps.refl _ _)).mono ?_; rintro e w2 ⟨rfl, g1⟩; have G1 := Lib.hid g1; have d3' := g1.cell (p := ⟨g, o + i * 10 + 3, none⟩) (fun h => h) d3; have d4' := g1.cell (p := ⟨g, o + i * 10 + 4, none⟩) (fun h => h) d4; have d5' := g1.cell (p := ⟨g, o + i * 10 + 5, none⟩) (fun h => h) d5; have d6' := g1.cell (p := ⟨g, o + i * 10 + 6, none⟩) (fun h => h) d6; clear g1)
        go_upto_region 10 with (go_at_call 70; refine (HX.out _ G1.out).mono ?_; rintro e wx ⟨rfl, gx⟩; have GX := Lib.hid (G1.out.trans0 gx); have d8' := (G1.out.trans0 gx).cell (p := ⟨g, o + i * 10 + 8, none⟩) (fun h => h) d8; clear gx d3' d4' d5' d6')
        go_upto_region 12 with (go_at_call 44; refine (HTT.out _ GX.out).mono ?_; rintro e w3 ⟨rfl, g2⟩; have d9' := (GX.out.trans0 g2).cell (p := ⟨g, o + i * 10 + 9, none⟩) (fun h => h) d9; have G2 := Lib.hid (GX.out.trans0 g2); clear g2 d8')
        go_wp2_with (go_at_call 44; refine (HEE.out _ G2.out).mono ?_; rintro e w4 ⟨rfl, g3⟩; have G3 := Lib.hid (G2.out.trans0 g3); clear g3)
        go_roundw
        case rel => exact ⟨i + 1, n3, by omega, by first | rfl | (congr 1; omega) | go_num, by go_num, HD, HK.out.trans0 G3.out⟩
        case measure => simp [intOf]; omega
    · obtain rfl : i = l.length := by omega
      have hd := HN.out
      rw [List.drop_length] at hd
      simp only [St.deepL] at hd
      obtain rfl : n = tot := by omega
      go_wp2_with fail
      go_ret
      exact ⟨by go_num, HK.out⟩
theorem rdOk (l : List St) : RdOk l := by
  have key : ∀ x : St, RdOk x.thn ∧ RdOk x.els := fun x => St.ind (P := fun x => RdOk x.thn ∧ RdOk x.els) (fun k r o x c t e h1 h2 => ⟨rdOk_of t h1, rdOk_of e h2⟩) x
  exact rdOk_of l (fun y _ => key y)
/-! ### Programs -/
set_option maxRecDepth 8000 in
theorem refCount_any (nm : ByteArray) (ts : List (List St)) (w : World) (F : Nat → Prop) (pca pma ta : Option Addr) (pcn pcc pmn pmc tc : Nat) (h : ThsAt w F nm ts ta) (hb : psSz ts < 900000000) :
    Calls Tryz.prog 29 #[.agg #[.slice pca pcn pcc, .slice pma pmn pmc, .slice ta ts.length tc]] w fun e w' => e = .returned (.int .i64 (psCnt ts : Nat)) ∧ Keeps NoBlk w w' := by
  have HL := Lib.hid h
  have hl := psLen_le ts
  have hc := psCnt_le ts
  have HB := Lib.hid hb
  obtain ⟨tot, ht⟩ : ∃ t, t = psCnt ts := ⟨_, rfl⟩
  have HT := Lib.hid ht
  rw [← ht] at hc ⊢
  have hb1 : ts.length < 1000000000 := by omega
  have hb2 : tot < 1000000000 := by omega
  clear h ht hb hl hc
  go_enter Tryz.func29, Tryz.ntmps29
  go_upto_region 1 with fail
  obtain ⟨b1, hb1⟩ : ∃ z, z = w.heap.size := ⟨_, rfl⟩
  have hr1 : RowAt (w.alloc (.cells #[.slice pca pcn pcc, .slice pma pmn pmc, .slice ta ts.length tc] 57)) b1 [.slice pca pcn pcc, .slice pma pmn pmc, .slice ta ts.length tc] := by rw [hb1]; exact RowAt.ofBlock (heap_alloc_new w _)
  have hk1 : Keeps NoBlk w (w.alloc (.cells #[.slice pca pcn pcc, .slice pma pmn pmc, .slice ta ts.length tc] 57)) := (Keeps.refl _ _).alloc _
  rw [← hb1]
  generalize w.alloc (.cells #[.slice pca pcn pcc, .slice pma pmn pmc, .slice ta ts.length tc] 57) = w1 at hr1 hk1 ⊢
  have R1 := Lib.hid hr1
  have K1 := Lib.hid hk1
  clear hr1 hk1 hb1
  go_wp2_with fail
  go_loopw [3, 4] (fun nv iv wr => ∃ i n : Nat, i ≤ ts.length ∧ nv = .int .i64 n ∧ iv = .int .i64 i ∧ Hid (n + psCnt (ts.drop i) = tot) ∧ Hid (Keeps NoBlk w1 wr)) (fun _ iv _ => ts.length - (intOf iv).toNat)
  case atStart => exact ⟨0, 0, Nat.zero_le _, rfl, rfl, by show _ = _; rw [List.drop_zero, HT.out]; omega, Keeps.refl _ _⟩
  case round =>
    obtain ⟨i, n, hi, rfl, rfl, HN, HK⟩ := hrel
    obtain ⟨y0, y1, y2⟩ := (R1.out.keeps HK.out (fun h => h)).three
    by_cases hlt : i < ts.length
    · have i1 : (0 : Int) ≤ i := by omega
      have i2 : (i : Int) < ts.length := by omega
      have hd := HN.out
      rw [drop_at hlt] at hd
      simp only [psCnt] at hd
      obtain ⟨g, o, ba, bc, e1, hg, d0, d1, hx⟩ := (HL.out.keeps (K1.out.trans0 HK.out) (fun _ _ h => h)).at hlt
      subst e1
      have HX : Hid (∀ W, Keeps NoBlk wr W → Calls Tryz.prog 45 #[.slice ba ts[i].length bc] W fun e w' => e = .returned (.int .i64 (St.cntL ts[i] : Nat)) ∧ Keeps NoBlk W w') := fun W hk => rcOk ts[i] W F ba bc (hx.keeps hk (fun _ _ h => h)) (by have := psSz_mem (List.getElem_mem hlt); have := HB.out; omega)
      obtain ⟨m, hm⟩ : ∃ m, m = St.cntL ts[i] := ⟨_, rfl⟩
      rw [← hm] at HX hd
      have HD := Lib.hid hd
      have b2 : n + m < 1000000000 := by omega
      clear hx hm hd
      generalize ts[i].length = x1 at d1 HX
      go_wp2_with (go_at_call 45; refine (HX.out _ (Keeps.refl _ _)).mono ?_; rintro e w2 ⟨rfl, g1⟩; have G1 := Lib.hid g1; clear g1)
      go_roundw
      case rel => exact ⟨i + 1, n + m, by omega, by go_num, by go_num, by show _ = _; have := HD.out; omega, HK.out.trans0 G1.out⟩
      case measure => simp [intOf]; omega
    · obtain rfl : i = ts.length := by omega
      have hd := HN.out
      rw [List.drop_length] at hd
      simp only [psCnt] at hd
      obtain rfl : n = tot := by omega
      go_wp2_with fail
      go_ret
      exact ⟨by go_num, K1.out.trans0 HK.out⟩
set_option maxRecDepth 8000 in
theorem refDeep_any (nm : ByteArray) (ts : List (List St)) (w : World) (F : Nat → Prop) (pca pma ta : Option Addr) (pcn pcc pmn pmc tc : Nat) (h : ThsAt w F nm ts ta) (hb : psSz ts < 900000000) :
    Calls Tryz.prog 28 #[.agg #[.slice pca pcn pcc, .slice pma pmn pmc, .slice ta ts.length tc]] w fun e w' => e = .returned (.int .i64 (psDeep ts : Nat)) ∧ Keeps NoBlk w w' := by
  have HL := Lib.hid h
  have hl := psLen_le ts
  have hc := psDeep_le ts
  have HB := Lib.hid hb
  obtain ⟨tot, ht⟩ : ∃ t, t = psDeep ts := ⟨_, rfl⟩
  have HT := Lib.hid ht
  rw [← ht] at hc ⊢
  have hb1 : ts.length < 1000000000 := by omega
  have hb2 : tot < 1000000000 := by omega
  clear h ht hb hl hc
  go_enter Tryz.func28, Tryz.ntmps28
  go_upto_region 1 with fail
  obtain ⟨b1, hb1⟩ : ∃ z, z = w.heap.size := ⟨_, rfl⟩
  have hr1 : RowAt (w.alloc (.cells #[.slice pca pcn pcc, .slice pma pmn pmc, .slice ta ts.length tc] 57)) b1 [.slice pca pcn pcc, .slice pma pmn pmc, .slice ta ts.length tc] := by rw [hb1]; exact RowAt.ofBlock (heap_alloc_new w _)
  have hk1 : Keeps NoBlk w (w.alloc (.cells #[.slice pca pcn pcc, .slice pma pmn pmc, .slice ta ts.length tc] 57)) := (Keeps.refl _ _).alloc _
  rw [← hb1]
  generalize w.alloc (.cells #[.slice pca pcn pcc, .slice pma pmn pmc, .slice ta ts.length tc] 57) = w1 at hr1 hk1 ⊢
  have R1 := Lib.hid hr1
  have K1 := Lib.hid hk1
  clear hr1 hk1 hb1
  go_wp2_with fail
  go_loopw [3, 4] (fun nv iv wr => ∃ i n : Nat, i ≤ ts.length ∧ nv = .int .i64 n ∧ iv = .int .i64 i ∧ Hid (max n (psDeep (ts.drop i)) = tot) ∧ Hid (Keeps NoBlk w1 wr)) (fun _ iv _ => ts.length - (intOf iv).toNat)
  case atStart => exact ⟨0, 0, Nat.zero_le _, rfl, rfl, by show _ = _; rw [List.drop_zero, HT.out]; omega, Keeps.refl _ _⟩
  case round =>
    obtain ⟨i, n, hi, rfl, rfl, HN, HK⟩ := hrel
    obtain ⟨y0, y1, y2⟩ := (R1.out.keeps HK.out (fun h => h)).three
    by_cases hlt : i < ts.length
    · have i1 : (0 : Int) ≤ i := by omega
      have i2 : (i : Int) < ts.length := by omega
      have hd := HN.out
      rw [drop_at hlt] at hd
      simp only [psDeep] at hd
      obtain ⟨g, o, ba, bc, e1, hg, d0, d1, hx⟩ := (HL.out.keeps (K1.out.trans0 HK.out) (fun _ _ h => h)).at hlt
      subst e1
      have HX : Hid (∀ W, Keeps NoBlk wr W → Calls Tryz.prog 44 #[.slice ba ts[i].length bc, .int .i64 1] W fun e w' => e = .returned (.int .i64 (St.deepL 1 ts[i] : Nat)) ∧ Keeps NoBlk W w') := fun W hk => rdOk ts[i] W F ba bc 1 (hx.keeps hk (fun _ _ h => h)) (by have := psSz_mem (List.getElem_mem hlt); have := HB.out; omega)
      obtain ⟨m, hm⟩ : ∃ m, m = St.deepL 1 ts[i] := ⟨_, rfl⟩
      rw [← hm] at HX hd
      obtain ⟨n1, hn1⟩ : ∃ z, z = max n m := ⟨_, rfl⟩
      have m1 : max (n : Int) (m : Int) = (n1 : Int) := by omega
      have HD : Hid (max n1 (psDeep (ts.drop (i + 1))) = tot) := by show _ = _; omega
      clear hx hm hd hn1
      generalize ts[i].length = x1 at d1 HX
      go_wp2_with (go_at_call 44; refine (HX.out _ (Keeps.refl _ _)).mono ?_; rintro e w2 ⟨rfl, g1⟩; have G1 := Lib.hid g1; clear g1)
      go_roundw
      case rel => exact ⟨i + 1, n1, by omega, by first | rfl | (congr 1; omega) | go_num, by go_num, HD, HK.out.trans0 G1.out⟩
      case measure => simp [intOf]; omega
    · obtain rfl : i = ts.length := by omega
      have hd := HN.out
      rw [List.drop_length] at hd
      simp only [psDeep] at hd
      obtain rfl : n = tot := by omega
      go_wp2_with fail
      go_ret
      exact ⟨by go_num, K1.out.trans0 HK.out⟩
end Go.Proofs.YtbkkpcignmcjnaaGreatDoor
