/- Layer N: texts joined. -/
import Derived.Test.YtoapgjjepiopbaaGreatDoorN05
set_option linter.all false
set_option maxHeartbeats 4000000
set_option maxRecDepth 8000
namespace Go.Proofs.YtoapgjjepiopbaaGreatDoor
open Go.RowKit
theorem J1 (P:Prop) (h:P:=by
 have e0:b=false:=by (rw [HB.out,Bool.eq_false_iff];intro h;simp [acB] at h <;> omega)
 have E0:=Lib.hid e0;clear e0 HB;go_wp2_with fail
 go_ret
 exact ⟨by rw [E0.out];rfl,K0.out.zB GO.out⟩):P:=h
theorem J131 (P:Prop) (h:P:=by
 have h5i:(0:Int) < nt:=by omega
 exact J1 _):P:=h
theorem J132 (P:Prop) (h:P:=by
 have h6i:(0:Int) < ne:=by omega
 exact J1 _):P:=h
theorem J153x22 (P:Prop) (h:P:=by rw [hb1];exact (zC.zG (heap_alloc_new w _)).alloc _):P:=h
theorem J159 (P:Prop) (h:P:=by rw [hb2];exact zC.zG (zW w _ _)):P:=h
section
variable (reg regs obj xk xn count mu most:Int) (nm:ByteArray) (xa ta ea ca tha:Option Addr) (nx xc nt tc ne ec nc cc nth thc:Nat) (m z one two b:Bool) (w:World)
theorem zKT (HO:Hid (∀ W,Calls Tryz.prog 150 #[.int .i64 1, .agg #[.slice ca nc cc, .int .i64 mu, .slice tha nth thc]] W fun e w'=>e=.returned (.int .i64 most) /\ Keeps zA W w'))
 (HM:Hid (∀ W,Keeps zA w W -> Calls Tryz.prog 148 #[.agg #[.int .i64 xk, .int .i64 xn, .string nm, .slice xa nx xc], .int .i64 regs] W fun e w'=>e=.returned (.bool m) /\ Keeps zA W w'))
 (HZ:Hid (∀ W,Calls Tryz.prog 149 #[.agg #[.int .i64 xk, .int .i64 xn, .string nm, .slice xa nx xc]] W fun e w'=>e=.returned (.bool z) /\ Keeps zA W w'))
 (HT:Hid (∀ W,Keeps zA w W -> Calls Tryz.prog 48 #[.slice ta nt tc, .int .i64 regs, .agg #[.slice ca nc cc, .int .i64 mu, .slice tha nth thc]] W fun e w'=>e=.returned (.bool one) /\ Keeps zA W w'))
 (HE:Hid (∀ W,Keeps zA w W -> Calls Tryz.prog 48 #[.slice ea ne ec, .int .i64 regs, .agg #[.slice ca nc cc, .int .i64 mu, .slice tha nth thc]] W fun e w'=>e=.returned (.bool two) /\ Keeps zA W w'))
 (HB:Hid (b=(acB ⟨true,false,true,false,false,false⟩ reg regs obj most count m z nt ne&&one&&two))) :
 Calls Tryz.prog 93 #[.agg #[.int .i64 1, .int .i64 reg, .int .i64 obj, .int .i64 xk, .int .i64 xn, .string nm, .slice xa nx xc, .int .i64 count, .slice ta nt tc, .slice ea ne ec], .int .i64 regs, .agg #[.slice ca nc cc, .int .i64 mu, .slice tha nth thc]] w fun e w'=>e=.returned (.bool b) /\ Keeps zA w w':=by
 have HF:Hid (∀ W,Calls Tryz.prog 147 #[.int .i64 1] W fun e w'=>e=.returned (.tuple #[.bool true, .bool false, .bool true, .bool false, .bool false, .bool false]) /\ Keeps zA W w'):=fun W=>zAO 1 W
 go_enter Tryz.func93,Tryz.ntmps93
 go_upto_region 1 with fail
 obtain ⟨b1,hb1⟩:=eX w.heap.size;obtain ⟨b2,hb2⟩:=eX (w.heap.size+1);have hr1:zC ((w.alloc (.cells #[.int .i64 1, .int .i64 reg, .int .i64 obj, .int .i64 xk, .int .i64 xn, .string nm, .slice xa nx xc, .int .i64 count, .slice ta nt tc, .slice ea ne ec] 146)).alloc (.cells #[.slice ca nc cc, .int .i64 mu, .slice tha nth thc] 25)) b1 [.int .i64 1, .int .i64 reg, .int .i64 obj, .int .i64 xk, .int .i64 xn, .string nm, .slice xa nx xc, .int .i64 count, .slice ta nt tc, .slice ea ne ec]:=J153x22 _;have hr2:zC ((w.alloc (.cells #[.int .i64 1, .int .i64 reg, .int .i64 obj, .int .i64 xk, .int .i64 xn, .string nm, .slice xa nx xc, .int .i64 count, .slice ta nt tc, .slice ea ne ec] 146)).alloc (.cells #[.slice ca nc cc, .int .i64 mu, .slice tha nth thc] 25)) b2 [.slice ca nc cc, .int .i64 mu, .slice tha nth thc]:=J159 _;have hk1:Keeps zA w ((w.alloc (.cells #[.int .i64 1, .int .i64 reg, .int .i64 obj, .int .i64 xk, .int .i64 xn, .string nm, .slice xa nx xc, .int .i64 count, .slice ta nt tc, .slice ea ne ec] 146)).alloc (.cells #[.slice ca nc cc, .int .i64 mu, .slice tha nth thc] 25)):=((Keeps.refl _ _).alloc _).alloc _;rw [<- hb2,<- hb1];generalize (w.alloc (.cells #[.int .i64 1, .int .i64 reg, .int .i64 obj, .int .i64 xk, .int .i64 xn, .string nm, .slice xa nx xc, .int .i64 count, .slice ta nt tc, .slice ea ne ec] 146)).alloc (.cells #[.slice ca nc cc, .int .i64 mu, .slice tha nth thc] 25)=w1 at hr1 hr2 hk1 ⊢;have R1:=Lib.hid hr1;have R2:=Lib.hid hr2;have K0:=Lib.hid hk1;obtain ⟨c0,c1,c2,c3,c4,c5,c6,c7,c8,c9⟩:=hr1.ten;obtain ⟨d0,d1,d2⟩:=hr2.three;clear hr1 hr2 hk1 hb1 hb2;go_upto_region 7 with (first | (go_at_call 147;refine (HF.out w1).mono ?_;rintro e wGF ⟨rfl,g0⟩;have g:=(Keeps.refl zA w1).zB g0;clear g0 c0 c1 c2 c3 c4 c5 c6 c7 c8 c9 d0 d1 d2;obtain ⟨c0,c1,c2,c3,c4,c5,c6,c7,c8,c9⟩:=(R1.out.keeps g (fun h=>h)).ten;obtain ⟨d0,d1,d2⟩:=(R2.out.keeps g (fun h=>h)).three;have GF:=Lib.hid g;clear g) | (go_at_call 148;refine (HM.out _ (K0.out.zB GF.out)).mono ?_;rintro e wGM ⟨rfl,g0⟩;have g:=GF.out.zB g0;clear g0 c0 c1 c2 c3 c4 c5 c6 c7 c8 c9 d0 d1 d2;obtain ⟨c0,c1,c2,c3,c4,c5,c6,c7,c8,c9⟩:=(R1.out.keeps g (fun h=>h)).ten;obtain ⟨d0,d1,d2⟩:=(R2.out.keeps g (fun h=>h)).three;have GM:=Lib.hid g;clear g) | (go_at_call 149;refine (HZ.out _).mono ?_;rintro e wGZ ⟨rfl,g0⟩;have g:=GM.out.zB g0;clear g0 c0 c1 c2 c3 c4 c5 c6 c7 c8 c9 d0 d1 d2;obtain ⟨c0,c1,c2,c3,c4,c5,c6,c7,c8,c9⟩:=(R1.out.keeps g (fun h=>h)).ten;obtain ⟨d0,d1,d2⟩:=(R2.out.keeps g (fun h=>h)).three;have GZ:=Lib.hid g;clear g) | (go_at_call 150;refine (HO.out _).mono ?_;rintro e wGO ⟨rfl,g0⟩;have g:=GZ.out.zB g0;clear g0 c0 c1 c2 c3 c4 c5 c6 c7 c8 c9 d0 d1 d2;obtain ⟨c0,c1,c2,c3,c4,c5,c6,c7,c8,c9⟩:=(R1.out.keeps g (fun h=>h)).ten;obtain ⟨d0,d1,d2⟩:=(R2.out.keeps g (fun h=>h)).three;have GO:=Lib.hid g;clear g))
 rcases (show reg < 0 \/ 0 <= reg by omega) with h0 | h0
 ·exact J1 _
 rcases (show regs <= reg \/ reg < regs by omega) with h1 | h1
 ·exact J1 _
 rcases (show ¬ obj=0 \/ obj=0 by omega) with h2 | h2
 ·exact J1 _
 subst h2;rcases (show m=false \/ m=true by (cases m <;> simp)) with h3 | h3
 ·subst h3
  exact J1 _
 subst h3;rcases (show ¬ count=0 \/ count=0 by omega) with h4 | h4
 ·exact J1 _
 subst h4;rcases (show 0 < nt \/ nt=0 by omega) with h5 | h5
 ·exact J131 _
 subst h5;rcases (show 0 < ne \/ ne=0 by omega) with h6 | h6
 ·exact J132 _
 subst h6;have e0:b=(one&&two):=by (rw [HB.out];have e1:acB ⟨true,false,true,false,false,false⟩ reg regs 0 most 0 true z 0 0=true:=(by simp [acB] <;> omega);rw [e1];rfl)
 have E0:=Lib.hid e0;clear e0 HB;go_upto_region 12 with (go_at_call 48;refine (HT.out _ (K0.out.zB GO.out)).mono ?_;rintro e wT ⟨rfl,g0⟩;have g:=GO.out.zB g0;clear g0 c0 c1 c2 c3 c4 c5 c6 c7 c8 c9 d0 d1 d2;obtain ⟨c0,c1,c2,c3,c4,c5,c6,c7,c8,c9⟩:=(R1.out.keeps g (fun h=>h)).ten;obtain ⟨d0,d1,d2⟩:=(R2.out.keeps g (fun h=>h)).three;have GT:=Lib.hid g;clear g)
 cases one <;> cases two
 all_goals (
  go_wp2_with (go_at_call 48;refine (HE.out _ (K0.out.zB GT.out)).mono ?_;rintro e wE ⟨rfl,g0⟩;have g:=GT.out.zB g0;clear g0;have GE:=Lib.hid g;clear g)
  go_ret
  exact ⟨by rw [E0.out];rfl,K0.out.zB GE.out⟩)
theorem zLf (HO:Hid (∀ W,Calls Tryz.prog 150 #[.int .i64 2, .agg #[.slice ca nc cc, .int .i64 mu, .slice tha nth thc]] W fun e w'=>e=.returned (.int .i64 most) /\ Keeps zA W w'))
 (HM:Hid (∀ W,Keeps zA w W -> Calls Tryz.prog 148 #[.agg #[.int .i64 xk, .int .i64 xn, .string nm, .slice xa nx xc], .int .i64 regs] W fun e w'=>e=.returned (.bool m) /\ Keeps zA W w'))
 (HZ:Hid (∀ W,Calls Tryz.prog 149 #[.agg #[.int .i64 xk, .int .i64 xn, .string nm, .slice xa nx xc]] W fun e w'=>e=.returned (.bool z) /\ Keeps zA W w'))
 (HT:Hid (∀ W,Keeps zA w W -> Calls Tryz.prog 48 #[.slice ta nt tc, .int .i64 regs, .agg #[.slice ca nc cc, .int .i64 mu, .slice tha nth thc]] W fun e w'=>e=.returned (.bool one) /\ Keeps zA W w'))
 (HE:Hid (∀ W,Keeps zA w W -> Calls Tryz.prog 48 #[.slice ea ne ec, .int .i64 regs, .agg #[.slice ca nc cc, .int .i64 mu, .slice tha nth thc]] W fun e w'=>e=.returned (.bool two) /\ Keeps zA W w'))
 (HB:Hid (b=(acB ⟨true,true,false,false,false,false⟩ reg regs obj most count m z nt ne&&one&&two))) :
 Calls Tryz.prog 93 #[.agg #[.int .i64 2, .int .i64 reg, .int .i64 obj, .int .i64 xk, .int .i64 xn, .string nm, .slice xa nx xc, .int .i64 count, .slice ta nt tc, .slice ea ne ec], .int .i64 regs, .agg #[.slice ca nc cc, .int .i64 mu, .slice tha nth thc]] w fun e w'=>e=.returned (.bool b) /\ Keeps zA w w':=by
 have HF:Hid (∀ W,Calls Tryz.prog 147 #[.int .i64 2] W fun e w'=>e=.returned (.tuple #[.bool true, .bool true, .bool false, .bool false, .bool false, .bool false]) /\ Keeps zA W w'):=fun W=>zAO 2 W
 go_enter Tryz.func93,Tryz.ntmps93
 go_upto_region 1 with fail
 obtain ⟨b1,hb1⟩:=eX w.heap.size;obtain ⟨b2,hb2⟩:=eX (w.heap.size+1);have hr1:zC ((w.alloc (.cells #[.int .i64 2, .int .i64 reg, .int .i64 obj, .int .i64 xk, .int .i64 xn, .string nm, .slice xa nx xc, .int .i64 count, .slice ta nt tc, .slice ea ne ec] 146)).alloc (.cells #[.slice ca nc cc, .int .i64 mu, .slice tha nth thc] 25)) b1 [.int .i64 2, .int .i64 reg, .int .i64 obj, .int .i64 xk, .int .i64 xn, .string nm, .slice xa nx xc, .int .i64 count, .slice ta nt tc, .slice ea ne ec]:=J153x22 _;have hr2:zC ((w.alloc (.cells #[.int .i64 2, .int .i64 reg, .int .i64 obj, .int .i64 xk, .int .i64 xn, .string nm, .slice xa nx xc, .int .i64 count, .slice ta nt tc, .slice ea ne ec] 146)).alloc (.cells #[.slice ca nc cc, .int .i64 mu, .slice tha nth thc] 25)) b2 [.slice ca nc cc, .int .i64 mu, .slice tha nth thc]:=J159 _;have hk1:Keeps zA w ((w.alloc (.cells #[.int .i64 2, .int .i64 reg, .int .i64 obj, .int .i64 xk, .int .i64 xn, .string nm, .slice xa nx xc, .int .i64 count, .slice ta nt tc, .slice ea ne ec] 146)).alloc (.cells #[.slice ca nc cc, .int .i64 mu, .slice tha nth thc] 25)):=((Keeps.refl _ _).alloc _).alloc _;rw [<- hb2,<- hb1];generalize (w.alloc (.cells #[.int .i64 2, .int .i64 reg, .int .i64 obj, .int .i64 xk, .int .i64 xn, .string nm, .slice xa nx xc, .int .i64 count, .slice ta nt tc, .slice ea ne ec] 146)).alloc (.cells #[.slice ca nc cc, .int .i64 mu, .slice tha nth thc] 25)=w1 at hr1 hr2 hk1 ⊢;have R1:=Lib.hid hr1;have R2:=Lib.hid hr2;have K0:=Lib.hid hk1;obtain ⟨c0,c1,c2,c3,c4,c5,c6,c7,c8,c9⟩:=hr1.ten;obtain ⟨d0,d1,d2⟩:=hr2.three;clear hr1 hr2 hk1 hb1 hb2;go_upto_region 7 with (first | (go_at_call 147;refine (HF.out w1).mono ?_;rintro e wGF ⟨rfl,g0⟩;have g:=(Keeps.refl zA w1).zB g0;clear g0 c0 c1 c2 c3 c4 c5 c6 c7 c8 c9 d0 d1 d2;obtain ⟨c0,c1,c2,c3,c4,c5,c6,c7,c8,c9⟩:=(R1.out.keeps g (fun h=>h)).ten;obtain ⟨d0,d1,d2⟩:=(R2.out.keeps g (fun h=>h)).three;have GF:=Lib.hid g;clear g) | (go_at_call 148;refine (HM.out _ (K0.out.zB GF.out)).mono ?_;rintro e wGM ⟨rfl,g0⟩;have g:=GF.out.zB g0;clear g0 c0 c1 c2 c3 c4 c5 c6 c7 c8 c9 d0 d1 d2;obtain ⟨c0,c1,c2,c3,c4,c5,c6,c7,c8,c9⟩:=(R1.out.keeps g (fun h=>h)).ten;obtain ⟨d0,d1,d2⟩:=(R2.out.keeps g (fun h=>h)).three;have GM:=Lib.hid g;clear g) | (go_at_call 149;refine (HZ.out _).mono ?_;rintro e wGZ ⟨rfl,g0⟩;have g:=GM.out.zB g0;clear g0 c0 c1 c2 c3 c4 c5 c6 c7 c8 c9 d0 d1 d2;obtain ⟨c0,c1,c2,c3,c4,c5,c6,c7,c8,c9⟩:=(R1.out.keeps g (fun h=>h)).ten;obtain ⟨d0,d1,d2⟩:=(R2.out.keeps g (fun h=>h)).three;have GZ:=Lib.hid g;clear g) | (go_at_call 150;refine (HO.out _).mono ?_;rintro e wGO ⟨rfl,g0⟩;have g:=GZ.out.zB g0;clear g0 c0 c1 c2 c3 c4 c5 c6 c7 c8 c9 d0 d1 d2;obtain ⟨c0,c1,c2,c3,c4,c5,c6,c7,c8,c9⟩:=(R1.out.keeps g (fun h=>h)).ten;obtain ⟨d0,d1,d2⟩:=(R2.out.keeps g (fun h=>h)).three;have GO:=Lib.hid g;clear g))
 rcases (show reg < 0 \/ 0 <= reg by omega) with h0 | h0
 ·exact J1 _
 rcases (show regs <= reg \/ reg < regs by omega) with h1 | h1
 ·exact J1 _
 rcases (show obj < 0 \/ 0 <= obj by omega) with h2 | h2
 ·exact J1 _
 rcases (show most <= obj \/ obj < most by omega) with h3 | h3
 ·exact J1 _
 rcases (show z=false \/ z=true by (cases z <;> simp)) with h4 | h4
 ·subst h4
  exact J1 _
 subst h4;rcases (show ¬ count=0 \/ count=0 by omega) with h5 | h5
 ·exact J1 _
 subst h5;rcases (show 0 < nt \/ nt=0 by omega) with h6 | h6
 ·have h6i:(0:Int) < nt:=by omega
  exact J1 _
 subst h6;rcases (show 0 < ne \/ ne=0 by omega) with h7 | h7
 ·have h7i:(0:Int) < ne:=by omega
  exact J1 _
 subst h7;have e0:b=(one&&two):=by (rw [HB.out];have e1:acB ⟨true,true,false,false,false,false⟩ reg regs obj most 0 m true 0 0=true:=(by simp [acB] <;> omega);rw [e1];rfl)
 have E0:=Lib.hid e0;clear e0 HB;go_upto_region 12 with (go_at_call 48;refine (HT.out _ (K0.out.zB GO.out)).mono ?_;rintro e wT ⟨rfl,g0⟩;have g:=GO.out.zB g0;clear g0 c0 c1 c2 c3 c4 c5 c6 c7 c8 c9 d0 d1 d2;obtain ⟨c0,c1,c2,c3,c4,c5,c6,c7,c8,c9⟩:=(R1.out.keeps g (fun h=>h)).ten;obtain ⟨d0,d1,d2⟩:=(R2.out.keeps g (fun h=>h)).three;have GT:=Lib.hid g;clear g)
 cases one <;> cases two
 all_goals (
  go_wp2_with (go_at_call 48;refine (HE.out _ (K0.out.zB GT.out)).mono ?_;rintro e wE ⟨rfl,g0⟩;have g:=GT.out.zB g0;clear g0;have GE:=Lib.hid g;clear g)
  go_ret
  exact ⟨by rw [E0.out];rfl,K0.out.zB GE.out⟩)
theorem zJ9 (HO:Hid (∀ W,Calls Tryz.prog 150 #[.int .i64 3, .agg #[.slice ca nc cc, .int .i64 mu, .slice tha nth thc]] W fun e w'=>e=.returned (.int .i64 most) /\ Keeps zA W w'))
 (HM:Hid (∀ W,Keeps zA w W -> Calls Tryz.prog 148 #[.agg #[.int .i64 xk, .int .i64 xn, .string nm, .slice xa nx xc], .int .i64 regs] W fun e w'=>e=.returned (.bool m) /\ Keeps zA W w'))
 (HZ:Hid (∀ W,Calls Tryz.prog 149 #[.agg #[.int .i64 xk, .int .i64 xn, .string nm, .slice xa nx xc]] W fun e w'=>e=.returned (.bool z) /\ Keeps zA W w'))
 (HT:Hid (∀ W,Keeps zA w W -> Calls Tryz.prog 48 #[.slice ta nt tc, .int .i64 regs, .agg #[.slice ca nc cc, .int .i64 mu, .slice tha nth thc]] W fun e w'=>e=.returned (.bool one) /\ Keeps zA W w'))
 (HE:Hid (∀ W,Keeps zA w W -> Calls Tryz.prog 48 #[.slice ea ne ec, .int .i64 regs, .agg #[.slice ca nc cc, .int .i64 mu, .slice tha nth thc]] W fun e w'=>e=.returned (.bool two) /\ Keeps zA W w'))
 (HB:Hid (b=(acB ⟨false,true,true,false,false,false⟩ reg regs obj most count m z nt ne&&one&&two))) :
 Calls Tryz.prog 93 #[.agg #[.int .i64 3, .int .i64 reg, .int .i64 obj, .int .i64 xk, .int .i64 xn, .string nm, .slice xa nx xc, .int .i64 count, .slice ta nt tc, .slice ea ne ec], .int .i64 regs, .agg #[.slice ca nc cc, .int .i64 mu, .slice tha nth thc]] w fun e w'=>e=.returned (.bool b) /\ Keeps zA w w':=by
 have HF:Hid (∀ W,Calls Tryz.prog 147 #[.int .i64 3] W fun e w'=>e=.returned (.tuple #[.bool false, .bool true, .bool true, .bool false, .bool false, .bool false]) /\ Keeps zA W w'):=fun W=>zAO 3 W
 go_enter Tryz.func93,Tryz.ntmps93
 go_upto_region 1 with fail
 obtain ⟨b1,hb1⟩:=eX w.heap.size;obtain ⟨b2,hb2⟩:=eX (w.heap.size+1);have hr1:zC ((w.alloc (.cells #[.int .i64 3, .int .i64 reg, .int .i64 obj, .int .i64 xk, .int .i64 xn, .string nm, .slice xa nx xc, .int .i64 count, .slice ta nt tc, .slice ea ne ec] 146)).alloc (.cells #[.slice ca nc cc, .int .i64 mu, .slice tha nth thc] 25)) b1 [.int .i64 3, .int .i64 reg, .int .i64 obj, .int .i64 xk, .int .i64 xn, .string nm, .slice xa nx xc, .int .i64 count, .slice ta nt tc, .slice ea ne ec]:=J153x22 _;have hr2:zC ((w.alloc (.cells #[.int .i64 3, .int .i64 reg, .int .i64 obj, .int .i64 xk, .int .i64 xn, .string nm, .slice xa nx xc, .int .i64 count, .slice ta nt tc, .slice ea ne ec] 146)).alloc (.cells #[.slice ca nc cc, .int .i64 mu, .slice tha nth thc] 25)) b2 [.slice ca nc cc, .int .i64 mu, .slice tha nth thc]:=J159 _;have hk1:Keeps zA w ((w.alloc (.cells #[.int .i64 3, .int .i64 reg, .int .i64 obj, .int .i64 xk, .int .i64 xn, .string nm, .slice xa nx xc, .int .i64 count, .slice ta nt tc, .slice ea ne ec] 146)).alloc (.cells #[.slice ca nc cc, .int .i64 mu, .slice tha nth thc] 25)):=((Keeps.refl _ _).alloc _).alloc _;rw [<- hb2,<- hb1];generalize (w.alloc (.cells #[.int .i64 3, .int .i64 reg, .int .i64 obj, .int .i64 xk, .int .i64 xn, .string nm, .slice xa nx xc, .int .i64 count, .slice ta nt tc, .slice ea ne ec] 146)).alloc (.cells #[.slice ca nc cc, .int .i64 mu, .slice tha nth thc] 25)=w1 at hr1 hr2 hk1 ⊢;have R1:=Lib.hid hr1;have R2:=Lib.hid hr2;have K0:=Lib.hid hk1;obtain ⟨c0,c1,c2,c3,c4,c5,c6,c7,c8,c9⟩:=hr1.ten;obtain ⟨d0,d1,d2⟩:=hr2.three;clear hr1 hr2 hk1 hb1 hb2;go_upto_region 7 with (first | (go_at_call 147;refine (HF.out w1).mono ?_;rintro e wGF ⟨rfl,g0⟩;have g:=(Keeps.refl zA w1).zB g0;clear g0 c0 c1 c2 c3 c4 c5 c6 c7 c8 c9 d0 d1 d2;obtain ⟨c0,c1,c2,c3,c4,c5,c6,c7,c8,c9⟩:=(R1.out.keeps g (fun h=>h)).ten;obtain ⟨d0,d1,d2⟩:=(R2.out.keeps g (fun h=>h)).three;have GF:=Lib.hid g;clear g) | (go_at_call 148;refine (HM.out _ (K0.out.zB GF.out)).mono ?_;rintro e wGM ⟨rfl,g0⟩;have g:=GF.out.zB g0;clear g0 c0 c1 c2 c3 c4 c5 c6 c7 c8 c9 d0 d1 d2;obtain ⟨c0,c1,c2,c3,c4,c5,c6,c7,c8,c9⟩:=(R1.out.keeps g (fun h=>h)).ten;obtain ⟨d0,d1,d2⟩:=(R2.out.keeps g (fun h=>h)).three;have GM:=Lib.hid g;clear g) | (go_at_call 149;refine (HZ.out _).mono ?_;rintro e wGZ ⟨rfl,g0⟩;have g:=GM.out.zB g0;clear g0 c0 c1 c2 c3 c4 c5 c6 c7 c8 c9 d0 d1 d2;obtain ⟨c0,c1,c2,c3,c4,c5,c6,c7,c8,c9⟩:=(R1.out.keeps g (fun h=>h)).ten;obtain ⟨d0,d1,d2⟩:=(R2.out.keeps g (fun h=>h)).three;have GZ:=Lib.hid g;clear g) | (go_at_call 150;refine (HO.out _).mono ?_;rintro e wGO ⟨rfl,g0⟩;have g:=GZ.out.zB g0;clear g0 c0 c1 c2 c3 c4 c5 c6 c7 c8 c9 d0 d1 d2;obtain ⟨c0,c1,c2,c3,c4,c5,c6,c7,c8,c9⟩:=(R1.out.keeps g (fun h=>h)).ten;obtain ⟨d0,d1,d2⟩:=(R2.out.keeps g (fun h=>h)).three;have GO:=Lib.hid g;clear g))
 rcases (show ¬ reg=0 \/ reg=0 by omega) with h0 | h0
 ·exact J1 _
 subst h0;rcases (show obj < 0 \/ 0 <= obj by omega) with h1 | h1
 ·exact J1 _
 rcases (show most <= obj \/ obj < most by omega) with h2 | h2
 ·exact J1 _
 rcases (show m=false \/ m=true by (cases m <;> simp)) with h3 | h3
 ·subst h3
  exact J1 _
 subst h3;rcases (show ¬ count=0 \/ count=0 by omega) with h4 | h4
 ·exact J1 _
 subst h4;rcases (show 0 < nt \/ nt=0 by omega) with h5 | h5
 ·exact J131 _
 subst h5;rcases (show 0 < ne \/ ne=0 by omega) with h6 | h6
 ·exact J132 _
 subst h6;have e0:b=(one&&two):=by (rw [HB.out];have e1:acB ⟨false,true,true,false,false,false⟩ 0 regs obj most 0 true z 0 0=true:=(by simp [acB] <;> omega);rw [e1];rfl)
 have E0:=Lib.hid e0;clear e0 HB;go_upto_region 12 with (go_at_call 48;refine (HT.out _ (K0.out.zB GO.out)).mono ?_;rintro e wT ⟨rfl,g0⟩;have g:=GO.out.zB g0;clear g0 c0 c1 c2 c3 c4 c5 c6 c7 c8 c9 d0 d1 d2;obtain ⟨c0,c1,c2,c3,c4,c5,c6,c7,c8,c9⟩:=(R1.out.keeps g (fun h=>h)).ten;obtain ⟨d0,d1,d2⟩:=(R2.out.keeps g (fun h=>h)).three;have GT:=Lib.hid g;clear g)
 cases one <;> cases two
 all_goals (
  go_wp2_with (go_at_call 48;refine (HE.out _ (K0.out.zB GT.out)).mono ?_;rintro e wE ⟨rfl,g0⟩;have g:=GT.out.zB g0;clear g0;have GE:=Lib.hid g;clear g)
  go_ret
  exact ⟨by rw [E0.out];rfl,K0.out.zB GE.out⟩)
end
end Go.Proofs.YtoapgjjepiopbaaGreatDoor
