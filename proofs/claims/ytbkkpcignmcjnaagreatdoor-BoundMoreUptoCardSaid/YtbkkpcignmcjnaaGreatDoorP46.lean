/- Layer 7: the document's steps and work of a unit. -/
import Derived.Test.YtbkkpcignmcjnaaGreatDoorP45
import Derived.Test.YtbkkpcignmcjnaaGreatDoorP38
namespace Go.Proofs.YtbkkpcignmcjnaaGreatDoor
open Go.RowKit
set_option linter.unusedVariables false
set_option linter.unusedSimpArgs false
set_option linter.unnecessarySimpa false

set_option maxRecDepth 8000 in
set_option maxHeartbeats 2000000 in
theorem both_any (cs : List Int) (mu : Int) (bs : List Bd) (w : World) (F : Nat → Prop) (uca uta : Option Addr) (ucc utc : Nat) (hbd : BdsAt w F bs uta) (hok : bsOk bs) (hsz : bsSz bs < 900000000) (hl2 : bs.length < 1000000000) :
    Calls Tryz.prog 20 #[.agg #[.slice uca cs.length ucc, .int .i64 mu, .slice uta bs.length utc]] w fun e w' => ∃ z1 z2, e = .returned (.tuple #[z1, z2]) ∧ NumV w' (fun _ => True) 10 (unS bs) z1 ∧ NumV w' (fun _ => True) 10 (unW bs) z2 ∧ Keeps NoBlk w w' := by
  have HBD := Lib.hid hbd
  have HOK := Lib.hid hok
  have HSZ := Lib.hid hsz
  have HLL : Hid (∀ m, m ≤ unW bs + 1 → (dig 10 m).length ≤ 12000000000) := fun m hm => un_dlen (by decide) hok hsz hl2 hm
  clear hbd hok hsz
  go_enter Tryz.func20, Tryz.ntmps20
  go_upto_region 1 with fail
  obtain ⟨b1, hb1⟩ : ∃ z, z = w.heap.size := ⟨_, rfl⟩
  have hr1 : RowAt (w.alloc (.cells #[.slice uca cs.length ucc, .int .i64 mu, .slice uta bs.length utc] 25)) b1 [.slice uca cs.length ucc, .int .i64 mu, .slice uta bs.length utc] := by rw [hb1]; exact RowAt.ofBlock (heap_alloc_new w _)
  have hk1 : Keeps NoBlk w (w.alloc (.cells #[.slice uca cs.length ucc, .int .i64 mu, .slice uta bs.length utc] 25)) := (Keeps.refl _ _).alloc _
  rw [← hb1]
  generalize w.alloc (.cells #[.slice uca cs.length ucc, .int .i64 mu, .slice uta bs.length utc] 25) = w1 at hr1 hk1 ⊢
  have R1 := Lib.hid hr1
  have K1 := Lib.hid hk1
  clear hr1 hk1 hb1
  have BD1 : Hid (BdsAt w1 F bs uta) := HBD.out.keeps K1.out (fun _ _ h => h)
  clear HBD
  go_upto_region 4 with fail
  go_loopw [4, 5, 6] (fun sv wv iv wr => ∃ i : Nat, i ≤ bs.length ∧ iv = .int .i64 i ∧ Hid (NumV wr (fun _ => True) 10 (unS (bs.take i)) sv) ∧ Hid (NumV wr (fun _ => True) 10 (unW (bs.take i)) wv) ∧ Hid (Keeps NoBlk w1 wr)) (fun _ _ iv _ => bs.length - (intOf iv).toNat)
  case atStart => exact ⟨0, Nat.zero_le _, rfl, NumV.zero _ _ _, NumV.zero _ _ _, Keeps.refl _ _⟩
  case round =>
    rename_i sv wv _
    obtain ⟨i, hi, rfl, HN, HM, HK⟩ := hrel
    obtain ⟨y0, y1, y2⟩ := (R1.out.keeps HK.out (fun h => h)).three
    by_cases hlt : i < bs.length
    · have i1 : (0 : Int) ≤ i := by omega
      have i2 : (i : Int) < bs.length := by omega
      obtain ⟨g, o, ba, bc, e1, hg, d0, d1, hx⟩ := (BD1.out.keeps HK.out (fun _ _ h => h)) i hlt
      subst e1
      have hokb := HOK.out _ (List.getElem_mem hlt)
      have hszb : Ac.szL bs[i].acts < 1000000000 := by have := bsSz_mem (List.getElem_mem hlt); have := HSZ.out; omega
      have HST : Hid (∀ W, Keeps NoBlk wr W → Calls Tryz.prog 39 #[.slice ba bs[i].acts.length bc] W fun e w' => ∃ z, e = .returned z ∧ NumV w' (Since W.heap.size w') 10 (Ac.stpL bs[i].acts) z ∧ Keeps NoBlk W w') := fun W hk => rstOk _ W F ba bc (hx.keeps hk (fun _ _ h => h)) hszb hokb
      have HWK : Hid (∀ W, Keeps NoBlk wr W → Calls Tryz.prog 40 #[.slice ba bs[i].acts.length bc] W fun e w' => ∃ z, e = .returned z ∧ NumV w' (Since W.heap.size w') 10 (Ac.wrkL bs[i].acts) z ∧ Keeps NoBlk W w') := fun W hk => rwkOk _ W F ba bc (hx.keeps hk (fun _ _ h => h)) hszb hokb
      have HTS := Lib.hid (unS_take hlt)
      have HTW := Lib.hid (unW_take hlt)
      have HPS : Hid (unS (bs.take i) + (Ac.stpL bs[i].acts + 1) ≤ unW bs) := by have h1 := unS_part bs (i + 1); have h2 := unS_le bs; rw [unS_take hlt] at h1; show _ ≤ _; omega
      have HPW : Hid (unW (bs.take i) + (Ac.wrkL bs[i].acts + 1) ≤ unW bs) := by have h1 := unW_part bs (i + 1); rw [unW_take hlt] at h1; show _ ≤ _; omega
      clear hx hokb hszb
      generalize Ac.stpL bs[i].acts = ts at HST HTS HPS
      generalize Ac.wrkL bs[i].acts = tw at HWK HTW HPW
      generalize bs[i].acts.length = x1 at d1 HST HWK
      go_upto_region 7 with (go_at_call 39; refine (HST.out _ (Keeps.refl _ _)).mono ?_; rintro e w2 ⟨z2, rfl, n2, g2⟩; have d1' := g2.cell (p := ⟨g, o + i * 2 + 1, none⟩) (fun h => h) d1; have y2' := ((R1.out.keeps HK.out (fun h => h)).keeps g2 (fun h => h)).three.2.2; have N2 := Lib.hid n2; have G2 := Lib.hid g2; clear g2 n2)
      clear d0 d1 y0 y1 y2
      go_upto_region 8 with (go_at_call 40; refine (HWK.out _ G2.out).mono ?_; rintro e w3 ⟨z3, rfl, n3, g3⟩; have N3 := Lib.hid n3; have G3 : Hid (Keeps NoBlk wr w3) := G2.out.trans0 g3; have N2' : Hid (NumV w3 (fun _ => True) 10 ts z2) := (N2.out.keeps0 g3).mono (fun _ _ => trivial); clear g3 n3)
      clear d1' y2'
      go_upto_region 9 with (go_at_call 41; refine (rplusV (HN.out.keeps0 G3.out) N2'.out (by have := HLL.out (unS (bs.take i)) (by have := HPS.out; omega); omega) (by have := HLL.out ts (by have := HPS.out; omega); omega)).mono ?_; rintro e w4 ⟨z4, rfl, n4, g4⟩; have N4 := Lib.hid n4; have G4 : Hid (Keeps NoBlk wr w4) := G3.out.trans0 g4; have N34 : Hid (NumV w4 (fun _ => True) 10 tw z3) := (N3.out.keeps0 g4).mono (fun _ _ => trivial); clear g4 n4)
      go_upto_region 10 with (go_at_call 41; refine (rplusV (F := fun _ => True) ((N4.out.keeps0 ((Keeps.refl NoBlk w4).alloc _)).mono (fun _ _ => trivial)) (NumV.one (by decide) _ (RowAt.ofBlock (heap_alloc_new w4 _)) trivial) (by have := HLL.out (unS (bs.take i) + ts) (by have := HPS.out; omega); omega) (by rw [dig_one (by decide)]; simp)).mono ?_; rintro e w5 ⟨z5, rfl, n5, g5⟩; have N5 := Lib.hid n5; have G5 : Hid (Keeps NoBlk w4 w5) := ((Keeps.refl NoBlk w4).alloc _).trans0 g5; have N35 : Hid (NumV w5 (fun _ => True) 10 tw z3) := N34.out.keeps0 G5.out; clear g5 n5)
      go_upto_region 11 with (go_at_call 41; refine (rplusV (HM.out.keeps0 (G4.out.trans0 G5.out)) N35.out (by have := HLL.out (unW (bs.take i)) (by have := HPW.out; omega); omega) (by have := HLL.out tw (by have := HPW.out; omega); omega)).mono ?_; rintro e w6 ⟨z6, rfl, n6, g6⟩; have N6 := Lib.hid n6; have G6 : Hid (Keeps NoBlk w5 w6) := g6; clear g6 n6)
      go_wp2_with (go_at_call 41; refine (rplusV (F := fun _ => True) ((N6.out.keeps0 ((Keeps.refl NoBlk w6).alloc _)).mono (fun _ _ => trivial)) (NumV.one (by decide) _ (RowAt.ofBlock (heap_alloc_new w6 _)) trivial) (by have := HLL.out (unW (bs.take i) + tw) (by have := HPW.out; omega); omega) (by rw [dig_one (by decide)]; simp)).mono ?_; rintro e w7 ⟨z7, rfl, n7, g7⟩; have N7 := Lib.hid n7; have G7 : Hid (Keeps NoBlk w6 w7) := ((Keeps.refl NoBlk w6).alloc _).trans0 g7; clear g7 n7)
      go_roundw
      case rel =>
        refine ⟨i + 1, by omega, by go_num, ?_, ?_, ((HK.out.trans0 G4.out).trans0 G5.out).trans0 (G6.out.trans0 G7.out)⟩
        · show NumV _ _ _ _ _
          rw [HTS.out, ← Nat.add_assoc]
          exact (N5.out.keeps0 (G6.out.trans0 G7.out)).mono (fun _ _ => trivial)
        · show NumV _ _ _ _ _
          rw [HTW.out, ← Nat.add_assoc]
          exact N7.out.mono (fun _ _ => trivial)
      case measure => simp [intOf]; omega
    · obtain rfl : i = bs.length := by omega
      go_wp2_with fail
      go_ret2
      have h1 := HN.out
      have h2 := HM.out
      rw [List.take_length] at h1 h2
      exact ⟨_, _, rfl, h1, h2, K1.out.trans0 HK.out⟩
end Go.Proofs.YtbkkpcignmcjnaaGreatDoor

/- Layer 7: the document's Steps, Work and Within. Printed by gentop.py. -/
namespace Go.Proofs.YtbkkpcignmcjnaaGreatDoor
open Go.RowKit
set_option linter.unusedVariables false
set_option linter.unusedSimpArgs false
set_option linter.unnecessarySimpa false

/-- a number told, of a unit that may be -/
def tell (b : Bool) (n : Nat) : ByteArray := if b then ⟨(decL n).toArray⟩ else ⟨#[]⟩
/-- is a unit within the bounds? -/
def withinU (b : Bool) (s m : Nat) : Int := if b then (if 60 < s then 70 else if 10000 < m then 71 else 0) else 1
theorem toldV {n : Nat} {w : World} {F : Nat → Prop} {v : Value} (h : NumV w F 10 n v) (hl : (dig 10 n).length ≤ 12000000000) : Calls Tryz.prog 21 #[v] w fun e w' => e = .returned (.string ⟨(decL n).toArray⟩) ∧ Keeps NoBlk w w' := by
  obtain ⟨ad, cap, rfl, h1⟩ := h
  exact told_any n w F ad cap h1 (by omega)
theorem rlessV {x y : Nat} {w : World} {F : Nat → Prop} {v u : Value} (hx : NumV w F 10 x v) (hy : NumV w F 10 y u) (lx : (dig 10 x).length ≤ 100000000000) (ly : (dig 10 y).length ≤ 100000000000) :
    Calls Tryz.prog 22 #[v, u] w fun e w' => e = .returned (.bool (decide (x < y))) ∧ Keeps NoBlk w w' := by
  obtain ⟨xa, xc, rfl, h1⟩ := hx
  obtain ⟨ya, yc, rfl, h2⟩ := hy
  exact less_any x y w F xa ya xc yc h1 h2 lx ly

set_option maxRecDepth 8000 in
set_option maxHeartbeats 2000000 in
theorem refSteps_any (cs : List Int) (mu : Int) (bs : List Bd) (w : World) (F : Nat → Prop) (uca uta : Option Addr) (ucc utc : Nat) (hcs : NumsAt w F cs uca) (hbd : BdsAt w F bs uta) (hF : ∀ k, F k → k < w.heap.size) (hsz : bsSz bs < 900000000) (hl1 : cs.length < 1000000000) (hl2 : bs.length < 1000000000) :
    Calls Tryz.prog 10 #[.agg #[.slice uca cs.length ucc, .int .i64 mu, .slice uta bs.length utc]] w fun e w' => e = .returned (.string (tell (rightU ⟨cs, mu, bs⟩) (unS bs))) ∧ Keeps NoBlk w w' := by
  obtain ⟨r, hr⟩ : ∃ r, r = rightU ⟨cs, mu, bs⟩ := ⟨_, rfl⟩
  have HR := Lib.hid hr
  rw [← hr]
  have HRT : Hid (∀ W, Keeps NoBlk w W → Calls Tryz.prog 14 #[.agg #[.slice uca cs.length ucc, .int .i64 mu, .slice uta bs.length utc]] W fun e w' => e = .returned (.bool r) ∧ Keeps NoBlk W w') := fun W hk => hr ▸ refRight_any cs mu bs W F uca uta ucc utc (hcs.keeps hk (fun _ _ h => h)) (hbd.keeps hk (fun _ _ h => h)) (fun k h => Nat.lt_of_lt_of_le (hF k h) hk.size) hsz hl1 hl2
  have HBO : Hid (r = true → ∀ W, Keeps NoBlk w W → Calls Tryz.prog 20 #[.agg #[.slice uca cs.length ucc, .int .i64 mu, .slice uta bs.length utc]] W fun e w' => ∃ z1 z2, e = .returned (.tuple #[z1, z2]) ∧ NumV w' (fun _ => True) 10 (unS bs) z1 ∧ NumV w' (fun _ => True) 10 (unW bs) z2 ∧ Keeps NoBlk W w') := fun hr1 W hk => both_any cs mu bs W F uca uta ucc utc (hbd.keeps hk (fun _ _ h => h)) (bsOk_right (u := ⟨cs, mu, bs⟩) (hr.symm.trans hr1)) hsz hl2
  have HDL : Hid (r = true → ∀ m, m ≤ unW bs + 1 → (dig 10 m).length ≤ 12000000000) := fun hr1 m hm => un_dlen (by decide) (bsOk_right (u := ⟨cs, mu, bs⟩) (hr.symm.trans hr1)) hsz hl2 hm
  have HSW : Hid (unS bs ≤ unW bs) := unS_le bs
  clear hcs hbd hF hsz hl1 hl2 hr
  go_enter Tryz.func10, Tryz.ntmps10
  go_upto_region 1 with fail
  obtain ⟨b1, hb1⟩ : ∃ z, z = w.heap.size := ⟨_, rfl⟩
  have hr1 : RowAt (w.alloc (.cells #[.slice uca cs.length ucc, .int .i64 mu, .slice uta bs.length utc] 25)) b1 [.slice uca cs.length ucc, .int .i64 mu, .slice uta bs.length utc] := by rw [hb1]; exact RowAt.ofBlock (heap_alloc_new w _)
  have hk1 : Keeps NoBlk w (w.alloc (.cells #[.slice uca cs.length ucc, .int .i64 mu, .slice uta bs.length utc] 25)) := (Keeps.refl _ _).alloc _
  rw [← hb1]
  generalize w.alloc (.cells #[.slice uca cs.length ucc, .int .i64 mu, .slice uta bs.length utc] 25) = w1 at hr1 hk1 ⊢
  have R1 := Lib.hid hr1
  have K1 := Lib.hid hk1
  obtain ⟨y0, y1, y2⟩ := hr1.three
  clear hr1 hk1 hb1
  generalize cs.length = n0 at y0 R1 HRT HBO
  generalize bs.length = n2 at y2 R1 HRT HBO
  go_upto_region 2 with (go_at_call 14; refine (HRT.out _ K1.out).mono ?_; rintro e w2 ⟨rfl, g2⟩; have c := (R1.out.keeps g2 (fun h => h)).three; clear y0 y1 y2; obtain ⟨y0, y1, y2⟩ := c; have K2 : Hid (Keeps NoBlk w w2) := K1.out.trans0 g2; clear g2)
  clear HR
  cases r
  · go_wp2_with fail
    go_ret
    exact ⟨rfl, K2.out⟩
  · have HBO2 := Lib.hid (HBO.out rfl)
    have HDL2 := Lib.hid (HDL.out rfl)
    clear HBO HDL
    go_upto_region 5 with (go_at_call 20; refine (HBO2.out _ K2.out).mono ?_; rintro e w3 ⟨z1, z2, rfl, n1, n2, g3⟩; have N1 := Lib.hid n1; have N2 := Lib.hid n2; have K3 : Hid (Keeps NoBlk w w3) := K2.out.trans0 g3; clear n1 n2 g3)
    go_wp2_with (go_at_call 21; refine (toldV N1.out (HDL2.out _ (by have := HSW.out; omega))).mono ?_; rintro e w4 ⟨rfl, g4⟩; have K4 : Hid (Keeps NoBlk w w4) := K3.out.trans0 g4; clear g4)
    go_ret
    exact ⟨rfl, K4.out⟩

set_option maxRecDepth 8000 in
set_option maxHeartbeats 2000000 in
theorem refWork_any (cs : List Int) (mu : Int) (bs : List Bd) (w : World) (F : Nat → Prop) (uca uta : Option Addr) (ucc utc : Nat) (hcs : NumsAt w F cs uca) (hbd : BdsAt w F bs uta) (hF : ∀ k, F k → k < w.heap.size) (hsz : bsSz bs < 900000000) (hl1 : cs.length < 1000000000) (hl2 : bs.length < 1000000000) :
    Calls Tryz.prog 11 #[.agg #[.slice uca cs.length ucc, .int .i64 mu, .slice uta bs.length utc]] w fun e w' => e = .returned (.string (tell (rightU ⟨cs, mu, bs⟩) (unW bs))) ∧ Keeps NoBlk w w' := by
  obtain ⟨r, hr⟩ : ∃ r, r = rightU ⟨cs, mu, bs⟩ := ⟨_, rfl⟩
  have HR := Lib.hid hr
  rw [← hr]
  have HRT : Hid (∀ W, Keeps NoBlk w W → Calls Tryz.prog 14 #[.agg #[.slice uca cs.length ucc, .int .i64 mu, .slice uta bs.length utc]] W fun e w' => e = .returned (.bool r) ∧ Keeps NoBlk W w') := fun W hk => hr ▸ refRight_any cs mu bs W F uca uta ucc utc (hcs.keeps hk (fun _ _ h => h)) (hbd.keeps hk (fun _ _ h => h)) (fun k h => Nat.lt_of_lt_of_le (hF k h) hk.size) hsz hl1 hl2
  have HBO : Hid (r = true → ∀ W, Keeps NoBlk w W → Calls Tryz.prog 20 #[.agg #[.slice uca cs.length ucc, .int .i64 mu, .slice uta bs.length utc]] W fun e w' => ∃ z1 z2, e = .returned (.tuple #[z1, z2]) ∧ NumV w' (fun _ => True) 10 (unS bs) z1 ∧ NumV w' (fun _ => True) 10 (unW bs) z2 ∧ Keeps NoBlk W w') := fun hr1 W hk => both_any cs mu bs W F uca uta ucc utc (hbd.keeps hk (fun _ _ h => h)) (bsOk_right (u := ⟨cs, mu, bs⟩) (hr.symm.trans hr1)) hsz hl2
  have HDL : Hid (r = true → ∀ m, m ≤ unW bs + 1 → (dig 10 m).length ≤ 12000000000) := fun hr1 m hm => un_dlen (by decide) (bsOk_right (u := ⟨cs, mu, bs⟩) (hr.symm.trans hr1)) hsz hl2 hm
  have HSW : Hid (unS bs ≤ unW bs) := unS_le bs
  clear hcs hbd hF hsz hl1 hl2 hr
  go_enter Tryz.func11, Tryz.ntmps11
  go_upto_region 1 with fail
  obtain ⟨b1, hb1⟩ : ∃ z, z = w.heap.size := ⟨_, rfl⟩
  have hr1 : RowAt (w.alloc (.cells #[.slice uca cs.length ucc, .int .i64 mu, .slice uta bs.length utc] 25)) b1 [.slice uca cs.length ucc, .int .i64 mu, .slice uta bs.length utc] := by rw [hb1]; exact RowAt.ofBlock (heap_alloc_new w _)
  have hk1 : Keeps NoBlk w (w.alloc (.cells #[.slice uca cs.length ucc, .int .i64 mu, .slice uta bs.length utc] 25)) := (Keeps.refl _ _).alloc _
  rw [← hb1]
  generalize w.alloc (.cells #[.slice uca cs.length ucc, .int .i64 mu, .slice uta bs.length utc] 25) = w1 at hr1 hk1 ⊢
  have R1 := Lib.hid hr1
  have K1 := Lib.hid hk1
  obtain ⟨y0, y1, y2⟩ := hr1.three
  clear hr1 hk1 hb1
  generalize cs.length = n0 at y0 R1 HRT HBO
  generalize bs.length = n2 at y2 R1 HRT HBO
  go_upto_region 2 with (go_at_call 14; refine (HRT.out _ K1.out).mono ?_; rintro e w2 ⟨rfl, g2⟩; have c := (R1.out.keeps g2 (fun h => h)).three; clear y0 y1 y2; obtain ⟨y0, y1, y2⟩ := c; have K2 : Hid (Keeps NoBlk w w2) := K1.out.trans0 g2; clear g2)
  clear HR
  cases r
  · go_wp2_with fail
    go_ret
    exact ⟨rfl, K2.out⟩
  · have HBO2 := Lib.hid (HBO.out rfl)
    have HDL2 := Lib.hid (HDL.out rfl)
    clear HBO HDL
    go_upto_region 5 with (go_at_call 20; refine (HBO2.out _ K2.out).mono ?_; rintro e w3 ⟨z1, z2, rfl, n1, n2, g3⟩; have N1 := Lib.hid n1; have N2 := Lib.hid n2; have K3 : Hid (Keeps NoBlk w w3) := K2.out.trans0 g3; clear n1 n2 g3)
    go_wp2_with (go_at_call 21; refine (toldV N2.out (HDL2.out _ (by have := HSW.out; omega))).mono ?_; rintro e w4 ⟨rfl, g4⟩; have K4 : Hid (Keeps NoBlk w w4) := K3.out.trans0 g4; clear g4)
    go_ret
    exact ⟨rfl, K4.out⟩

set_option maxRecDepth 8000 in
set_option maxHeartbeats 2000000 in
theorem refWithin_any (cs : List Int) (mu : Int) (bs : List Bd) (w : World) (F : Nat → Prop) (uca uta : Option Addr) (ucc utc : Nat) (hcs : NumsAt w F cs uca) (hbd : BdsAt w F bs uta) (hF : ∀ k, F k → k < w.heap.size) (hsz : bsSz bs < 900000000) (hl1 : cs.length < 1000000000) (hl2 : bs.length < 1000000000) :
    Calls Tryz.prog 12 #[.agg #[.slice uca cs.length ucc, .int .i64 mu, .slice uta bs.length utc]] w fun e w' => e = .returned (.int .i64 (withinU (rightU ⟨cs, mu, bs⟩) (unS bs) (unW bs))) ∧ Keeps NoBlk w w' := by
  obtain ⟨v, hv⟩ : ∃ v, v = withinU (rightU ⟨cs, mu, bs⟩) (unS bs) (unW bs) := ⟨_, rfl⟩
  rw [← hv]
  obtain ⟨r, hr⟩ : ∃ r, r = rightU ⟨cs, mu, bs⟩ := ⟨_, rfl⟩
  have HR := Lib.hid hr
  rw [← hr] at hv
  have HV := Lib.hid hv
  clear hv
  have HRT : Hid (∀ W, Keeps NoBlk w W → Calls Tryz.prog 14 #[.agg #[.slice uca cs.length ucc, .int .i64 mu, .slice uta bs.length utc]] W fun e w' => e = .returned (.bool r) ∧ Keeps NoBlk W w') := fun W hk => hr ▸ refRight_any cs mu bs W F uca uta ucc utc (hcs.keeps hk (fun _ _ h => h)) (hbd.keeps hk (fun _ _ h => h)) (fun k h => Nat.lt_of_lt_of_le (hF k h) hk.size) hsz hl1 hl2
  have HBO : Hid (r = true → ∀ W, Keeps NoBlk w W → Calls Tryz.prog 20 #[.agg #[.slice uca cs.length ucc, .int .i64 mu, .slice uta bs.length utc]] W fun e w' => ∃ z1 z2, e = .returned (.tuple #[z1, z2]) ∧ NumV w' (fun _ => True) 10 (unS bs) z1 ∧ NumV w' (fun _ => True) 10 (unW bs) z2 ∧ Keeps NoBlk W w') := fun hr1 W hk => both_any cs mu bs W F uca uta ucc utc (hbd.keeps hk (fun _ _ h => h)) (bsOk_right (u := ⟨cs, mu, bs⟩) (hr.symm.trans hr1)) hsz hl2
  have HDL : Hid (r = true → ∀ m, m ≤ unW bs + 1 → (dig 10 m).length ≤ 12000000000) := fun hr1 m hm => un_dlen (by decide) (bsOk_right (u := ⟨cs, mu, bs⟩) (hr.symm.trans hr1)) hsz hl2 hm
  have HSW : Hid (unS bs ≤ unW bs) := unS_le bs
  clear hcs hbd hF hsz hl1 hl2 hr
  go_enter Tryz.func12, Tryz.ntmps12
  go_upto_region 1 with fail
  obtain ⟨b1, hb1⟩ : ∃ z, z = w.heap.size := ⟨_, rfl⟩
  have hr1 : RowAt (w.alloc (.cells #[.slice uca cs.length ucc, .int .i64 mu, .slice uta bs.length utc] 25)) b1 [.slice uca cs.length ucc, .int .i64 mu, .slice uta bs.length utc] := by rw [hb1]; exact RowAt.ofBlock (heap_alloc_new w _)
  have hk1 : Keeps NoBlk w (w.alloc (.cells #[.slice uca cs.length ucc, .int .i64 mu, .slice uta bs.length utc] 25)) := (Keeps.refl _ _).alloc _
  rw [← hb1]
  generalize w.alloc (.cells #[.slice uca cs.length ucc, .int .i64 mu, .slice uta bs.length utc] 25) = w1 at hr1 hk1 ⊢
  have R1 := Lib.hid hr1
  have K1 := Lib.hid hk1
  obtain ⟨y0, y1, y2⟩ := hr1.three
  clear hr1 hk1 hb1
  generalize cs.length = n0 at y0 R1 HRT HBO
  generalize bs.length = n2 at y2 R1 HRT HBO
  go_upto_region 2 with (go_at_call 14; refine (HRT.out _ K1.out).mono ?_; rintro e w2 ⟨rfl, g2⟩; have c := (R1.out.keeps g2 (fun h => h)).three; clear y0 y1 y2; obtain ⟨y0, y1, y2⟩ := c; have K2 : Hid (Keeps NoBlk w w2) := K1.out.trans0 g2; clear g2)
  clear HR
  cases r
  · go_wp2_with fail
    go_ret
    exact ⟨by rw [HV.out]; rfl, K2.out⟩
  · have HBO2 := Lib.hid (HBO.out rfl)
    have HDL2 := Lib.hid (HDL.out rfl)
    clear HBO HDL
    go_upto_region 5 with (go_at_call 20; refine (HBO2.out _ K2.out).mono ?_; rintro e w3 ⟨z1, z2, rfl, n1, n2, g3⟩; have N1 := Lib.hid n1; have N2 := Lib.hid n2; have K3 : Hid (Keeps NoBlk w w3) := K2.out.trans0 g3; clear n1 n2 g3)
    go_upto_region 6 with (first
      | (go_at_call 23; refine (rsmallV 61 (by decide) _).mono ?_; rintro e w4 ⟨z4, rfl, n4, g4⟩; have N4 := Lib.hid n4; have G4 := Lib.hid g4; clear g4 n4)
      | (go_at_call 22; refine (rlessV (F := fun _ => True) (N1.out.keeps0 G4.out) (N4.out.mono (fun _ _ => trivial)) (by have := HDL2.out (unS bs) (by have := HSW.out; omega); omega) (by have h := dig_le (b := 10) (n := 61) (i := 2) (by decide) (by decide); omega)).mono ?_; rintro e w5 ⟨rfl, g5⟩; have G5 : Hid (Keeps NoBlk w3 w5) := G4.out.trans0 g5; have N25 := Lib.hid (N2.out.keeps0 G5.out); have K5 := Lib.hid (K3.out.trans0 G5.out); clear g5))
    go_upto_region 7 with (first
      | (go_at_call 23; refine (rsmallV 10001 (by decide) _).mono ?_; rintro e w6 ⟨z6, rfl, n6, g6⟩; have N6 := Lib.hid n6; have G6 := Lib.hid g6; clear g6 n6)
      | (go_at_call 22; refine (rlessV (F := fun _ => True) (N25.out.keeps0 G6.out) (N6.out.mono (fun _ _ => trivial)) (by have := HDL2.out (unW bs) (by omega); omega) (by have h := dig_le (b := 10) (n := 10001) (i := 5) (by decide) (by decide); omega)).mono ?_; rintro e w7 ⟨rfl, g7⟩; have K7 : Hid (Keeps NoBlk w w7) := K5.out.trans0 (G6.out.trans0 g7); clear g7))
    have hE : ∃ a b, a = decide (unS bs < 61) ∧ b = decide (unW bs < 10001) := ⟨_, _, rfl, rfl⟩
    obtain ⟨a, b, ha, hb⟩ := hE
    have HVV : Hid (v = if a then (if b then 0 else 71) else 70) := by
      show _ = _
      rw [HV.out, ha, hb]
      unfold withinU
      by_cases h1 : unS bs < 61
      · by_cases h2 : unW bs < 10001
        · simp [h1, h2, show ¬ 60 < unS bs by omega, show ¬ 10000 < unW bs by omega]
        · simp [h1, h2, show ¬ 60 < unS bs by omega, show 10000 < unW bs by omega]
      · simp [h1, show 60 < unS bs by omega]
    rw [← ha, ← hb]
    clear ha hb
    cases a
    · go_wp2_with fail
      go_ret
      exact ⟨by rw [HVV.out]; rfl, K7.out⟩
    · cases b
      · go_wp2_with fail
        go_ret
        exact ⟨by rw [HVV.out]; rfl, K7.out⟩
      · go_wp2_with fail
        go_ret
        exact ⟨by rw [HVV.out]; rfl, K7.out⟩
end Go.Proofs.YtbkkpcignmcjnaaGreatDoor
