/- Layer N: texts joined. -/
import Derived.Test.YtoapgjjepiopbaaGreatDoorN24
set_option linter.all false
set_option maxHeartbeats 4000000
set_option maxRecDepth 8000
namespace Go.Proofs.YtoapgjjepiopbaaGreatDoor
open Go.RowKit
theorem J104 (P:Prop) (h:P:=by
 go_enter Tryz.func93,Tryz.ntmps93
 go_wp2_with fail
 go_ret
 exact ⟨rfl,((Keeps.refl _ _).alloc _).alloc _⟩):P:=h
theorem J124x24 (P:Prop) (h:P:=by
 have e2:vs 2=_:=hd 2 (by kernel_rfl);rw [e2] at hK ⊢;exact J3 _):P:=h
theorem J153x24 (P:Prop) (h:P:=by rw [hb1];exact (zC.zG (heap_alloc_new w _)).alloc _):P:=h
section
variable (reg regs obj xk xn count mu most:Int) (nm:ByteArray) (xa ta ea ca tha:Option Addr) (nx xc nt tc ne ec nc cc nth thc:Nat) (m z one two b:Bool) (w:World)
theorem zJl (HO:Hid (∀ W,Calls Tryz.prog 150 #[.int .i64 10, .agg #[.slice ca nc cc, .int .i64 mu, .slice tha nth thc]] W fun e w'=>e=.returned (.int .i64 most) /\ Keeps zA W w'))
 (HM:Hid (∀ W,Keeps zA w W -> Calls Tryz.prog 148 #[.agg #[.int .i64 xk, .int .i64 xn, .string nm, .slice xa nx xc], .int .i64 regs] W fun e w'=>e=.returned (.bool m) /\ Keeps zA W w'))
 (HZ:Hid (∀ W,Calls Tryz.prog 149 #[.agg #[.int .i64 xk, .int .i64 xn, .string nm, .slice xa nx xc]] W fun e w'=>e=.returned (.bool z) /\ Keeps zA W w'))
 (HT:Hid (∀ W,Keeps zA w W -> Calls Tryz.prog 48 #[.slice ta nt tc, .int .i64 regs, .agg #[.slice ca nc cc, .int .i64 mu, .slice tha nth thc]] W fun e w'=>e=.returned (.bool one) /\ Keeps zA W w'))
 (HE:Hid (∀ W,Keeps zA w W -> Calls Tryz.prog 48 #[.slice ea ne ec, .int .i64 regs, .agg #[.slice ca nc cc, .int .i64 mu, .slice tha nth thc]] W fun e w'=>e=.returned (.bool two) /\ Keeps zA W w'))
 (HB:Hid (b=(acB ⟨false,false,true,false,true,true⟩ reg regs obj most count m z nt ne&&one&&two))) :
 Calls Tryz.prog 93 #[.agg #[.int .i64 10, .int .i64 reg, .int .i64 obj, .int .i64 xk, .int .i64 xn, .string nm, .slice xa nx xc, .int .i64 count, .slice ta nt tc, .slice ea ne ec], .int .i64 regs, .agg #[.slice ca nc cc, .int .i64 mu, .slice tha nth thc]] w fun e w'=>e=.returned (.bool b) /\ Keeps zA w w':=by
 have HF:Hid (∀ W,Calls Tryz.prog 147 #[.int .i64 10] W fun e w'=>e=.returned (.tuple #[.bool false, .bool false, .bool true, .bool false, .bool true, .bool true]) /\ Keeps zA W w'):=fun W=>zAO 10 W
 go_enter Tryz.func93,Tryz.ntmps93
 go_upto_region 1 with fail
 obtain ⟨b1,hb1⟩:=eX w.heap.size;obtain ⟨b2,hb2⟩:=eX (w.heap.size+1);have hr1:zC ((w.alloc (.cells #[.int .i64 10, .int .i64 reg, .int .i64 obj, .int .i64 xk, .int .i64 xn, .string nm, .slice xa nx xc, .int .i64 count, .slice ta nt tc, .slice ea ne ec] 146)).alloc (.cells #[.slice ca nc cc, .int .i64 mu, .slice tha nth thc] 25)) b1 [.int .i64 10, .int .i64 reg, .int .i64 obj, .int .i64 xk, .int .i64 xn, .string nm, .slice xa nx xc, .int .i64 count, .slice ta nt tc, .slice ea ne ec]:=J153x24 _;have hr2:zC ((w.alloc (.cells #[.int .i64 10, .int .i64 reg, .int .i64 obj, .int .i64 xk, .int .i64 xn, .string nm, .slice xa nx xc, .int .i64 count, .slice ta nt tc, .slice ea ne ec] 146)).alloc (.cells #[.slice ca nc cc, .int .i64 mu, .slice tha nth thc] 25)) b2 [.slice ca nc cc, .int .i64 mu, .slice tha nth thc]:=J159 _;have hk1:Keeps zA w ((w.alloc (.cells #[.int .i64 10, .int .i64 reg, .int .i64 obj, .int .i64 xk, .int .i64 xn, .string nm, .slice xa nx xc, .int .i64 count, .slice ta nt tc, .slice ea ne ec] 146)).alloc (.cells #[.slice ca nc cc, .int .i64 mu, .slice tha nth thc] 25)):=((Keeps.refl _ _).alloc _).alloc _;rw [<- hb2,<- hb1];generalize (w.alloc (.cells #[.int .i64 10, .int .i64 reg, .int .i64 obj, .int .i64 xk, .int .i64 xn, .string nm, .slice xa nx xc, .int .i64 count, .slice ta nt tc, .slice ea ne ec] 146)).alloc (.cells #[.slice ca nc cc, .int .i64 mu, .slice tha nth thc] 25)=w1 at hr1 hr2 hk1 ⊢;have R1:=Lib.hid hr1;have R2:=Lib.hid hr2;have K0:=Lib.hid hk1;obtain ⟨c0,c1,c2,c3,c4,c5,c6,c7,c8,c9⟩:=hr1.ten;obtain ⟨d0,d1,d2⟩:=hr2.three;clear hr1 hr2 hk1 hb1 hb2;go_upto_region 7 with (first | (go_at_call 147;refine (HF.out w1).mono ?_;rintro e wGF ⟨rfl,g0⟩;have g:=(Keeps.refl zA w1).zB g0;clear g0 c0 c1 c2 c3 c4 c5 c6 c7 c8 c9 d0 d1 d2;obtain ⟨c0,c1,c2,c3,c4,c5,c6,c7,c8,c9⟩:=(R1.out.keeps g (fun h=>h)).ten;obtain ⟨d0,d1,d2⟩:=(R2.out.keeps g (fun h=>h)).three;have GF:=Lib.hid g;clear g) | (go_at_call 148;refine (HM.out _ (K0.out.zB GF.out)).mono ?_;rintro e wGM ⟨rfl,g0⟩;have g:=GF.out.zB g0;clear g0 c0 c1 c2 c3 c4 c5 c6 c7 c8 c9 d0 d1 d2;obtain ⟨c0,c1,c2,c3,c4,c5,c6,c7,c8,c9⟩:=(R1.out.keeps g (fun h=>h)).ten;obtain ⟨d0,d1,d2⟩:=(R2.out.keeps g (fun h=>h)).three;have GM:=Lib.hid g;clear g) | (go_at_call 149;refine (HZ.out _).mono ?_;rintro e wGZ ⟨rfl,g0⟩;have g:=GM.out.zB g0;clear g0 c0 c1 c2 c3 c4 c5 c6 c7 c8 c9 d0 d1 d2;obtain ⟨c0,c1,c2,c3,c4,c5,c6,c7,c8,c9⟩:=(R1.out.keeps g (fun h=>h)).ten;obtain ⟨d0,d1,d2⟩:=(R2.out.keeps g (fun h=>h)).three;have GZ:=Lib.hid g;clear g) | (go_at_call 150;refine (HO.out _).mono ?_;rintro e wGO ⟨rfl,g0⟩;have g:=GZ.out.zB g0;clear g0 c0 c1 c2 c3 c4 c5 c6 c7 c8 c9 d0 d1 d2;obtain ⟨c0,c1,c2,c3,c4,c5,c6,c7,c8,c9⟩:=(R1.out.keeps g (fun h=>h)).ten;obtain ⟨d0,d1,d2⟩:=(R2.out.keeps g (fun h=>h)).three;have GO:=Lib.hid g;clear g))
 rcases (show ¬ reg=0 \/ reg=0 by omega) with h0 | h0
 ·exact J1 _
 subst h0;rcases (show ¬ obj=0 \/ obj=0 by omega) with h1 | h1
 ·exact J1 _
 subst h1;rcases (show m=false \/ m=true by (cases m <;> simp)) with h2 | h2
 ·subst h2
  exact J1 _
 subst h2;rcases (show ¬ count=0 \/ count=0 by omega) with h3 | h3
 ·exact J1 _
 subst h3;have e0:b=(one&&two):=by (rw [HB.out];have e1:acB ⟨false,false,true,false,true,true⟩ 0 regs 0 most 0 true z nt ne=true:=(by simp [acB] <;> omega);rw [e1];rfl)
 have E0:=Lib.hid e0;clear e0 HB;go_upto_region 12 with (go_at_call 48;refine (HT.out _ (K0.out.zB GO.out)).mono ?_;rintro e wT ⟨rfl,g0⟩;have g:=GO.out.zB g0;clear g0 c0 c1 c2 c3 c4 c5 c6 c7 c8 c9 d0 d1 d2;obtain ⟨c0,c1,c2,c3,c4,c5,c6,c7,c8,c9⟩:=(R1.out.keeps g (fun h=>h)).ten;obtain ⟨d0,d1,d2⟩:=(R2.out.keeps g (fun h=>h)).three;have GT:=Lib.hid g;clear g)
 cases one <;> cases two
 all_goals (
  go_wp2_with (go_at_call 48;refine (HE.out _ (K0.out.zB GT.out)).mono ?_;rintro e wE ⟨rfl,g0⟩;have g:=GT.out.zB g0;clear g0;have GE:=Lib.hid g;clear g)
  go_ret
  exact ⟨by rw [E0.out];rfl,K0.out.zB GE.out⟩)
theorem zJV (HO:Hid (∀ W,Calls Tryz.prog 150 #[.int .i64 11, .agg #[.slice ca nc cc, .int .i64 mu, .slice tha nth thc]] W fun e w'=>e=.returned (.int .i64 most) /\ Keeps zA W w'))
 (HM:Hid (∀ W,Keeps zA w W -> Calls Tryz.prog 148 #[.agg #[.int .i64 xk, .int .i64 xn, .string nm, .slice xa nx xc], .int .i64 regs] W fun e w'=>e=.returned (.bool m) /\ Keeps zA W w'))
 (HZ:Hid (∀ W,Calls Tryz.prog 149 #[.agg #[.int .i64 xk, .int .i64 xn, .string nm, .slice xa nx xc]] W fun e w'=>e=.returned (.bool z) /\ Keeps zA W w'))
 (HT:Hid (∀ W,Keeps zA w W -> Calls Tryz.prog 48 #[.slice ta nt tc, .int .i64 regs, .agg #[.slice ca nc cc, .int .i64 mu, .slice tha nth thc]] W fun e w'=>e=.returned (.bool one) /\ Keeps zA W w'))
 (HE:Hid (∀ W,Keeps zA w W -> Calls Tryz.prog 48 #[.slice ea ne ec, .int .i64 regs, .agg #[.slice ca nc cc, .int .i64 mu, .slice tha nth thc]] W fun e w'=>e=.returned (.bool two) /\ Keeps zA W w'))
 (HB:Hid (b=(acB ⟨false,false,false,true,true,false⟩ reg regs obj most count m z nt ne&&one&&two))) :
 Calls Tryz.prog 93 #[.agg #[.int .i64 11, .int .i64 reg, .int .i64 obj, .int .i64 xk, .int .i64 xn, .string nm, .slice xa nx xc, .int .i64 count, .slice ta nt tc, .slice ea ne ec], .int .i64 regs, .agg #[.slice ca nc cc, .int .i64 mu, .slice tha nth thc]] w fun e w'=>e=.returned (.bool b) /\ Keeps zA w w':=by
 have HF:Hid (∀ W,Calls Tryz.prog 147 #[.int .i64 11] W fun e w'=>e=.returned (.tuple #[.bool false, .bool false, .bool false, .bool true, .bool true, .bool false]) /\ Keeps zA W w'):=fun W=>zAO 11 W
 go_enter Tryz.func93,Tryz.ntmps93
 go_upto_region 1 with fail
 obtain ⟨b1,hb1⟩:=eX w.heap.size;obtain ⟨b2,hb2⟩:=eX (w.heap.size+1);have hr1:zC ((w.alloc (.cells #[.int .i64 11, .int .i64 reg, .int .i64 obj, .int .i64 xk, .int .i64 xn, .string nm, .slice xa nx xc, .int .i64 count, .slice ta nt tc, .slice ea ne ec] 146)).alloc (.cells #[.slice ca nc cc, .int .i64 mu, .slice tha nth thc] 25)) b1 [.int .i64 11, .int .i64 reg, .int .i64 obj, .int .i64 xk, .int .i64 xn, .string nm, .slice xa nx xc, .int .i64 count, .slice ta nt tc, .slice ea ne ec]:=J153x24 _;have hr2:zC ((w.alloc (.cells #[.int .i64 11, .int .i64 reg, .int .i64 obj, .int .i64 xk, .int .i64 xn, .string nm, .slice xa nx xc, .int .i64 count, .slice ta nt tc, .slice ea ne ec] 146)).alloc (.cells #[.slice ca nc cc, .int .i64 mu, .slice tha nth thc] 25)) b2 [.slice ca nc cc, .int .i64 mu, .slice tha nth thc]:=J159 _;have hk1:Keeps zA w ((w.alloc (.cells #[.int .i64 11, .int .i64 reg, .int .i64 obj, .int .i64 xk, .int .i64 xn, .string nm, .slice xa nx xc, .int .i64 count, .slice ta nt tc, .slice ea ne ec] 146)).alloc (.cells #[.slice ca nc cc, .int .i64 mu, .slice tha nth thc] 25)):=((Keeps.refl _ _).alloc _).alloc _;rw [<- hb2,<- hb1];generalize (w.alloc (.cells #[.int .i64 11, .int .i64 reg, .int .i64 obj, .int .i64 xk, .int .i64 xn, .string nm, .slice xa nx xc, .int .i64 count, .slice ta nt tc, .slice ea ne ec] 146)).alloc (.cells #[.slice ca nc cc, .int .i64 mu, .slice tha nth thc] 25)=w1 at hr1 hr2 hk1 ⊢;have R1:=Lib.hid hr1;have R2:=Lib.hid hr2;have K0:=Lib.hid hk1;obtain ⟨c0,c1,c2,c3,c4,c5,c6,c7,c8,c9⟩:=hr1.ten;obtain ⟨d0,d1,d2⟩:=hr2.three;clear hr1 hr2 hk1 hb1 hb2;go_upto_region 7 with (first | (go_at_call 147;refine (HF.out w1).mono ?_;rintro e wGF ⟨rfl,g0⟩;have g:=(Keeps.refl zA w1).zB g0;clear g0 c0 c1 c2 c3 c4 c5 c6 c7 c8 c9 d0 d1 d2;obtain ⟨c0,c1,c2,c3,c4,c5,c6,c7,c8,c9⟩:=(R1.out.keeps g (fun h=>h)).ten;obtain ⟨d0,d1,d2⟩:=(R2.out.keeps g (fun h=>h)).three;have GF:=Lib.hid g;clear g) | (go_at_call 148;refine (HM.out _ (K0.out.zB GF.out)).mono ?_;rintro e wGM ⟨rfl,g0⟩;have g:=GF.out.zB g0;clear g0 c0 c1 c2 c3 c4 c5 c6 c7 c8 c9 d0 d1 d2;obtain ⟨c0,c1,c2,c3,c4,c5,c6,c7,c8,c9⟩:=(R1.out.keeps g (fun h=>h)).ten;obtain ⟨d0,d1,d2⟩:=(R2.out.keeps g (fun h=>h)).three;have GM:=Lib.hid g;clear g) | (go_at_call 149;refine (HZ.out _).mono ?_;rintro e wGZ ⟨rfl,g0⟩;have g:=GM.out.zB g0;clear g0 c0 c1 c2 c3 c4 c5 c6 c7 c8 c9 d0 d1 d2;obtain ⟨c0,c1,c2,c3,c4,c5,c6,c7,c8,c9⟩:=(R1.out.keeps g (fun h=>h)).ten;obtain ⟨d0,d1,d2⟩:=(R2.out.keeps g (fun h=>h)).three;have GZ:=Lib.hid g;clear g) | (go_at_call 150;refine (HO.out _).mono ?_;rintro e wGO ⟨rfl,g0⟩;have g:=GZ.out.zB g0;clear g0 c0 c1 c2 c3 c4 c5 c6 c7 c8 c9 d0 d1 d2;obtain ⟨c0,c1,c2,c3,c4,c5,c6,c7,c8,c9⟩:=(R1.out.keeps g (fun h=>h)).ten;obtain ⟨d0,d1,d2⟩:=(R2.out.keeps g (fun h=>h)).three;have GO:=Lib.hid g;clear g))
 rcases (show ¬ reg=0 \/ reg=0 by omega) with h0 | h0
 ·exact J1 _
 subst h0;rcases (show ¬ obj=0 \/ obj=0 by omega) with h1 | h1
 ·exact J1 _
 subst h1;rcases (show z=false \/ z=true by (cases z <;> simp)) with h2 | h2
 ·subst h2
  exact J1 _
 subst h2;rcases (show count < 0 \/ 0 <= count by omega) with h3 | h3
 ·exact J1 _
 rcases (show 1000 < count \/ count <= 1000 by omega) with h4 | h4
 ·exact J1 _
 rcases (show 0 < ne \/ ne=0 by omega) with h5 | h5
 ·have h5i:(0:Int) < ne:=by omega
  exact J1 _
 subst h5;have e0:b=(one&&two):=by (rw [HB.out];have e1:acB ⟨false,false,false,true,true,false⟩ 0 regs 0 most count m true nt 0=true:=(by simp [acB] <;> omega);rw [e1];rfl)
 have E0:=Lib.hid e0;clear e0 HB;go_upto_region 12 with (go_at_call 48;refine (HT.out _ (K0.out.zB GO.out)).mono ?_;rintro e wT ⟨rfl,g0⟩;have g:=GO.out.zB g0;clear g0 c0 c1 c2 c3 c4 c5 c6 c7 c8 c9 d0 d1 d2;obtain ⟨c0,c1,c2,c3,c4,c5,c6,c7,c8,c9⟩:=(R1.out.keeps g (fun h=>h)).ten;obtain ⟨d0,d1,d2⟩:=(R2.out.keeps g (fun h=>h)).three;have GT:=Lib.hid g;clear g)
 cases one <;> cases two
 all_goals (
  go_wp2_with (go_at_call 48;refine (HE.out _ (K0.out.zB GT.out)).mono ?_;rintro e wE ⟨rfl,g0⟩;have g:=GT.out.zB g0;clear g0;have GE:=Lib.hid g;clear g)
  go_ret
  exact ⟨by rw [E0.out];rfl,K0.out.zB GE.out⟩)
end
def unV (u:Un) (ca:Option Addr) (cc:Nat) (tha:Option Addr) (thc:Nat):Value:=.agg #[.slice ca u.cells.length cc, .int .i64 u.mutexes, .slice tha u.threads.length thc]
def zKI (x:Ac):Prop:=∀ (u:Un) (regs:Int) (w:World) (F:Nat -> Prop) (ca:Option Addr) (cc:Nat) (tha:Option Addr) (thc:Nat) (xa:Option Addr) (xc:Nat) (ta:Option Addr) (tc:Nat) (ea:Option Addr) (ec:Nat),
 zR w F x.ex.args xa -> zAG w F x.thn ta -> zAG w F x.els ea -> x.sz < 1000000000 →
 Calls Tryz.prog 93 #[acV x xa xc ta tc ea ec, .int .i64 regs,unV u ca cc tha thc] w fun e w'=>e=.returned (.bool (x.may u regs)) /\ Keeps zA w w'
def zGh (l:List Ac):Prop:=∀ (u:Un) (regs:Int) (w:World) (F:Nat -> Prop) (ca:Option Addr) (cc:Nat) (tha:Option Addr) (thc:Nat) (ad:Option Addr) (cap:Nat),
 zAG w F l ad -> Ac.szL l < 1000000000 →
 Calls Tryz.prog 48 #[.slice ad l.length cap, .int .i64 regs,unV u ca cc tha thc] w fun e w'=>e=.returned (.bool (Ac.zq u regs l)) /\ Keeps zA w w'
theorem zIL (k reg obj xk xn count mu regs:Int) (nm:ByteArray) (xa ta ea ca tha:Option Addr) (nx xc nt tc ne ec nc cc nth thc:Nat) (w:World) (hk:¬ (1 <= k /\ k <= 11)) :
 Calls Tryz.prog 93 #[.agg #[.int .i64 k, .int .i64 reg, .int .i64 obj, .int .i64 xk, .int .i64 xn, .string nm, .slice xa nx xc, .int .i64 count, .slice ta nt tc, .slice ea ne ec], .int .i64 regs, .agg #[.slice ca nc cc, .int .i64 mu, .slice tha nth thc]] w
  fun e w'=>e=.returned (.bool false) /\ Keeps zA w w':=by
 rcases (show k < 1 \/ (1 <= k /\ 11 < k) by omega) with h | ⟨h1,h2⟩
 ·clear hk
  exact J104 _
 ·clear hk
  have h3:¬ k < 1:=by omega
  exact J104 _
theorem zLu (x:Ac) (ht:zGh x.thn) (he:zGh x.els):zKI x:=by
 intro u regs w F ca cc tha thc xa xc ta tc ea ec hx h1 h2 hb
 rw [Ac.zB1] at hb
 have hm:x.may u regs=(zAr u regs x.kind x.reg x.obj x.ex x.count x.thn.length x.els.length&&Ac.zq u regs x.thn&&Ac.zq u regs x.els):=by
  cases x;simp only [Ac.may,Ac.kind,Ac.reg,Ac.obj,Ac.ex,Ac.count,Ac.thn,Ac.els]
 rw [hm,zDi];by_cases hk:1 <= x.kind /\ x.kind <= 11
 ·have hkk:(decide (1 <= x.kind)&&decide (x.kind <= 11))=true:=by simp [hk.1,hk.2]
  rw [hkk,Bool.true_and]
  have HO:Hid (∀ W,Calls Tryz.prog 150 #[.int .i64 x.kind, .agg #[.slice ca u.cells.length cc, .int .i64 u.mutexes, .slice tha u.threads.length thc]] W fun e w'=>e=.returned (.int .i64 (zAv u x.kind)) /\ Keeps zA W w') :=
   fun W=>zH1 u x.kind W ca tha cc thc
  have HM:Hid (∀ W,Keeps zA w W -> Calls Tryz.prog 148 #[.agg #[.int .i64 x.ex.kind, .int .i64 x.ex.num, .string x.ex.nm, .slice xa x.ex.args.length xc], .int .i64 regs] W fun e w'=>e=.returned (.bool (x.ex.may regs)) /\ Keeps zA W w') :=
   fun W hW=>zHY x.ex regs W F xa xc (hx.keeps hW (fun _ _ h=>h)) (by omega)
  have HZ:Hid (∀ W,Calls Tryz.prog 149 #[.agg #[.int .i64 x.ex.kind, .int .i64 x.ex.num, .string x.ex.nm, .slice xa x.ex.args.length xc]] W fun e w'=>e=.returned (.bool x.ex.none) /\ Keeps zA W w') :=
   fun W=>zHy x.ex W xa xc
  have HT:Hid (∀ W,Keeps zA w W -> Calls Tryz.prog 48 #[.slice ta x.thn.length tc, .int .i64 regs, .agg #[.slice ca u.cells.length cc, .int .i64 u.mutexes, .slice tha u.threads.length thc]] W fun e w'=>e=.returned (.bool (Ac.zq u regs x.thn)) /\ Keeps zA W w') :=
   fun W hW=>ht u regs W F ca cc tha thc ta tc (h1.keeps hW (fun _ _ h=>h)) (by omega)
  have HE:Hid (∀ W,Keeps zA w W -> Calls Tryz.prog 48 #[.slice ea x.els.length ec, .int .i64 regs, .agg #[.slice ca u.cells.length cc, .int .i64 u.mutexes, .slice tha u.threads.length thc]] W fun e w'=>e=.returned (.bool (Ac.zq u regs x.els)) /\ Keeps zA W w') :=
   fun W hW=>he u regs W F ca cc tha thc ea ec (h2.keeps hW (fun _ _ h=>h)) (by omega)
  unfold acV unV;obtain ⟨k,ek⟩:=eX x.kind;rw [<- ek] at HO hk ⊢;generalize x.reg=reg;generalize x.obj=obj;generalize x.count=count;rcases (show k=1 \/ k=2 \/ k=3 \/ k=4 \/ k=5 \/ k=6 \/ k=7 \/ k=8 \/ k=9 \/ k=10 \/ k=11 by omega) with h | h | h | h | h | h | h | h | h | h | h
  all_goals (clear ek hk;subst h)
  ·exact zKT _ _ _ _ _ _ _ _ _ _ _ _ _ _ _ _ _ _ _ _ _ _ _ _ _ _ _ _ _ _ HO HM HZ HT HE rfl
  ·exact zLf _ _ _ _ _ _ _ _ _ _ _ _ _ _ _ _ _ _ _ _ _ _ _ _ _ _ _ _ _ _ HO HM HZ HT HE rfl
  ·exact zJ9 _ _ _ _ _ _ _ _ _ _ _ _ _ _ _ _ _ _ _ _ _ _ _ _ _ _ _ _ _ _ HO HM HZ HT HE rfl
  ·exact zKF _ _ _ _ _ _ _ _ _ _ _ _ _ _ _ _ _ _ _ _ _ _ _ _ _ _ _ _ _ _ HO HM HZ HT HE rfl
  ·exact zKA _ _ _ _ _ _ _ _ _ _ _ _ _ _ _ _ _ _ _ _ _ _ _ _ _ _ _ _ _ _ HO HM HZ HT HE rfl
  ·exact zLE _ _ _ _ _ _ _ _ _ _ _ _ _ _ _ _ _ _ _ _ _ _ _ _ _ _ _ _ _ _ HO HM HZ HT HE rfl
  ·exact zKu _ _ _ _ _ _ _ _ _ _ _ _ _ _ _ _ _ _ _ _ _ _ _ _ _ _ _ _ _ _ HO HM HZ HT HE rfl
  ·exact zJ4 _ _ _ _ _ _ _ _ _ _ _ _ _ _ _ _ _ _ _ _ _ _ _ _ _ _ _ _ _ _ HO HM HZ HT HE rfl
  ·exact zKh _ _ _ _ _ _ _ _ _ _ _ _ _ _ _ _ _ _ _ _ _ _ _ _ _ _ _ _ _ _ HO HM HZ HT HE rfl
  ·exact zJl _ _ _ _ _ _ _ _ _ _ _ _ _ _ _ _ _ _ _ _ _ _ _ _ _ _ _ _ _ _ HO HM HZ HT HE rfl
  ·exact zJV _ _ _ _ _ _ _ _ _ _ _ _ _ _ _ _ _ _ _ _ _ _ _ _ _ _ _ _ _ _ HO HM HZ HT HE rfl
 ·have hkk:(decide (1 <= x.kind)&&decide (x.kind <= 11))=false:=by
   by_cases h:1 <= x.kind
   ·have:¬ x.kind <= 11:=fun e=>hk ⟨h,e⟩
    simp [this]
   ·simp [h]
  rw [hkk];exact zIL _ _ _ _ _ _ _ _ _ _ _ _ _ _ _ _ _ _ _ _ _ _ _ _ w hk
def AyF (v0:Value) (i:Int) (p:Addr) (v3:Value) (regs:Int) (uv:Value) (m:Bool) (j:Nat) (v:Value) (W:World):Prop :=
 match j with
 | 0=>v=v0
 | 1=>v=.int .i64 i
 | 2=>v=.pointer (some p)
 | 3=>v=v3
 | 4=>v=.int .i64 regs
 | 5=>v=uv
 | 6=>v=.bool m
 | _=>True
theorem AyF.st {v0:Value} {i:Int} {p:Addr} {v3:Value} {regs:Int} {uv:Value} {m:Bool} (j:Nat) (v:Value) (W W':World) (h:AyF v0 i p v3 regs uv m j v W) (hk:Keeps zA W W'):AyF v0 i p v3 regs uv m j v W':=by
 unfold AyF at *;split at h <;> first | exact h | trivial
theorem Ac.zCc {u:Un} {regs:Int} {l:List Ac} {i:Nat} (h:i < l.length):Ac.zq u regs (l.drop i)=(l[i].may u regs&&Ac.zq u regs (l.drop (i+1))):=by
 rw [drop_at h];rfl
theorem zEi (l:List Ac) (ih:∀ y,y ∈ l -> zKI y):zGh l:=by
 intro u regs w F ca cc tha thc ad cap h hb
 have HL:=Lib.hid h;have IH:=Lib.hid ih;have hl:=Ac.zAY l;have hb2:l.length < 1000000000:=by omega
 have HB:=Lib.hid hb;obtain ⟨res,hres⟩:=eX (Ac.zq u regs l);have HR:=Lib.hid hres;rw [<- hres];clear h ih hl hb hres;unfold unV;obtain ⟨nc,hnc⟩:=eX u.cells.length;obtain ⟨nth,hnth⟩:=eX u.threads.length;obtain ⟨mu,hmu⟩:=eX u.mutexes
 have HU:Hid (∀ (x:Ac) (w:World) (F:Nat -> Prop) (xa:Option Addr) (xc:Nat) (ta:Option Addr) (tc:Nat) (ea:Option Addr) (ec:Nat),x ∈ l -> zR w F x.ex.args xa -> zAG w F x.thn ta -> zAG w F x.els ea →
  Calls Tryz.prog 93 #[acV x xa xc ta tc ea ec, .int .i64 regs, .agg #[.slice ca nc cc, .int .i64 mu, .slice tha nth thc]] w fun e w'=>e=.returned (.bool (x.may u regs)) /\ Keeps zA w w'):=by
  rw [hnc,hnth,hmu];exact fun x w F xa xc ta tc ea ec hm h1 h2 h3=>IH.out x hm u regs w F ca cc tha thc xa xc ta tc ea ec h1 h2 h3 (by have:=Ac.zBk hm;have:=HB.out;omega)
 rw [<- hnc,<- hnth,<- hmu];clear hnc hnth hmu IH;go_enter Tryz.func48,Tryz.ntmps48
 go_upto_region 1 with fail
 obtain ⟨b1,hb1⟩:=eX w.heap.size;have hr1:zC (w.alloc (.cells #[.slice ca nc cc, .int .i64 mu, .slice tha nth thc] 25)) b1 [.slice ca nc cc, .int .i64 mu, .slice tha nth thc]:=J150 _;have hk1:Keeps zA w (w.alloc (.cells #[.slice ca nc cc, .int .i64 mu, .slice tha nth thc] 25)):=(Keeps.refl _ _).alloc _;rw [<- hb1];generalize w.alloc (.cells #[.slice ca nc cc, .int .i64 mu, .slice tha nth thc] 25)=w1 at hr1 hk1 ⊢;have R1:=Lib.hid hr1;have K1:=Lib.hid hk1;clear hr1 hk1 hb1;go_wp2_with fail
 go_loopw [7,8] (fun iv bv wr=>∃ i:Nat,i <= l.length /\ iv=.int .i64 i /\ Hid (Ac.zq u regs (l.drop i)=res) /\ Hid (Keeps zA w1 wr)) (fun iv _ _=>l.length - (intOf iv).toNat)
 case atStart=>exact ⟨0,Nat.zero_le _,rfl,by show _=_;rw [List.drop_zero,HR.out],Keeps.refl _ _⟩
 case round =>
  obtain ⟨i,hi,rfl,HN,HK⟩:=hrel;by_cases hlt:i < l.length
  ·have i1:(0:Int) <= i:=by omega
   have i2:(i:Int) < l.length:=by omega
   have hd:=HN.out;rw [Ac.zCc hlt] at hd;obtain ⟨g,o,xa,xc,ta,tc,ea,ec,e1,hg,d0,d1,d2,d3,d4,d5,d6,d7,d8,d9,hx,hxt,hxe⟩:=(HL.out.keeps (K1.out.zB HK.out) (fun _ _ h=>h)).at hlt;subst e1
   have HC:Hid (∀ W,Keeps zA wr W -> Calls Tryz.prog 93 #[.agg #[.int .i64 l[i].kind, .int .i64 l[i].reg, .int .i64 l[i].obj, .int .i64 l[i].ex.kind, .int .i64 l[i].ex.num, .string l[i].ex.nm, .slice xa l[i].ex.args.length xc, .int .i64 l[i].count, .slice ta l[i].thn.length tc, .slice ea l[i].els.length ec], .int .i64 regs, .agg #[.slice ca nc cc, .int .i64 mu, .slice tha nth thc]] W fun e w'=>e=.returned (.bool (l[i].may u regs)) /\ Keeps zA W w') :=
    fun W hk=>HU.out _ W F xa xc ta tc ea ec (List.getElem_mem hlt) (hx.keeps hk (fun _ _ h=>h)) (hxt.keeps hk (fun _ _ h=>h)) (hxe.keeps hk (fun _ _ h=>h))
   obtain ⟨m,hm⟩:=eX (l[i].may u regs);rw [<- hm] at HC hd;have HD:=Lib.hid hd;clear hx hxt hxe hm hd;generalize l[i].kind=x0 at d0 HC;generalize l[i].reg=x1 at d1 HC;generalize l[i].obj=x2 at d2 HC;generalize l[i].ex.kind=x3 at d3 HC;generalize l[i].ex.num=x4 at d4 HC;generalize l[i].ex.nm=x5 at d5 HC;generalize l[i].ex.args.length=x6 at d6 HC;generalize l[i].count=x7 at d7 HC;generalize l[i].thn.length=x8 at d8 HC;generalize l[i].els.length=x9 at d9 HC;go_upto_region 4 with fail
   refine ze 7 (by kernel_rfl) (by kernel_rfl) (Keeps zA) (Keeps.refl zA) (fun a b c h h'=>Keeps.zB h h') (AyF (.slice (some ⟨g,o,none⟩) l.length cap) i ⟨g,o+i*10,none⟩ (.agg #[.int .i64 x0, .int .i64 x1, .int .i64 x2, .int .i64 x3, .int .i64 x4, .string x5, .slice xa x6 xc, .int .i64 x7, .slice ta x8 tc, .slice ea x9 ec]) regs (.agg #[.slice ca nc cc, .int .i64 mu, .slice tha nth thc]) m) AyF.st ?_ ?_
   ·intro q oo hq ho vs W Q' hR hd hK
    have HR':Keeps zA wr W:=((Keeps.refl zA wr).drew).zB hR;obtain ⟨u0,u1,u2⟩:=(R1.out.keeps (HK.out.zB HR') (fun h=>h)).three;have c0:=HR'.cell (p:=⟨g,o+i*10,none⟩) (fun h=>h) d0;have c1:=HR'.cell (p:=⟨g,o+i*10+1,none⟩) (fun h=>h) d1;have c2:=HR'.cell (p:=⟨g,o+i*10+2,none⟩) (fun h=>h) d2;have c3:=HR'.cell (p:=⟨g,o+i*10+3,none⟩) (fun h=>h) d3;have c4:=HR'.cell (p:=⟨g,o+i*10+4,none⟩) (fun h=>h) d4;have c5:=HR'.cell (p:=⟨g,o+i*10+5,none⟩) (fun h=>h) d5;have c6:=HR'.cell (p:=⟨g,o+i*10+6,none⟩) (fun h=>h) d6;have c7:=HR'.cell (p:=⟨g,o+i*10+7,none⟩) (fun h=>h) d7;have c8:=HR'.cell (p:=⟨g,o+i*10+8,none⟩) (fun h=>h) d8;have c9:=HR'.cell (p:=⟨g,o+i*10+9,none⟩) (fun h=>h) d9;have HCW:=Lib.hid (HC.out W HR');clear d0 d1 d2 d3 d4 d5 d6 d7 d8 d9 HR' HC;rcases (show q=0 \/ q=1 \/ q=2 \/ q=3 \/ q=4 \/ q=5 \/ q=6 by omega) with rfl | rfl | rfl | rfl | rfl | rfl | rfl
    all_goals (simp only [List.getElem?_cons_zero,List.getElem?_cons_succ,Option.some.injEq] at ho;subst ho;simp only [zJ,List.getElem?_cons_zero,List.getElem?_cons_succ,Option.bind_some,Option.bind,Act.put,List.setIfInBounds_toArray,List.set_cons_zero,List.set_cons_succ] at hK ⊢;clear hq)
    ·exact J3 _
    ·exact J3 _
    ·have e0:vs 0=_:=hd 0 (by kernel_rfl)
     have e1:vs 1=_:=hd 1 (by kernel_rfl);rw [e0,e1] at hK ⊢;exact J3 _
    ·exact J124x24 _
    ·exact J3 _
    ·exact J3 _
    ·have e3:vs 3=_:=hd 3 (by kernel_rfl)
     have e4:vs 4=_:=hd 4 (by kernel_rfl);have e5:vs 5=_:=hd 5 (by kernel_rfl);rw [e3,e4,e5] at hK ⊢;clear hd;go_wp2_with (go_at_call 93;refine HCW.out.mono ?_;rintro e W1 ⟨rfl,g1⟩)
     exact hK _ _ g1 rfl
   ·intro vs W hR hF
    have HR':Keeps zA wr W:=((Keeps.refl zA wr).drew).zB hR;have HKW:Hid (Keeps zA w1 W):=HK.out.zB HR';have e6:vs 6=.bool m:=hF 6 (by decide);simp only [zJ,List.getElem?_cons_zero,List.getElem?_cons_succ,Option.bind_some,Option.bind,Act.put,List.setIfInBounds_toArray,List.set_cons_zero,List.set_cons_succ,List.drop_succ_cons,List.drop_zero];rw [e6];clear hF e6 d0 d1 d2 d3 d4 d5 d6 d7 d8 d9 HC HR' hR;generalize vs 0=y0;generalize vs 1=y1;generalize vs 2=y2;generalize vs 3=y3;generalize vs 4=y4;generalize vs 5=y5;cases m
    ·go_wp2_with fail
     go_ret
     exact ⟨by rw [<- HD.out];rfl,K1.out.zB HKW.out⟩
    ·go_wp2_with fail
     go_roundw
     case rel=>exact ⟨i+1,by omega,by go_num,by show _=_;rw [<- HD.out];rfl,HKW.out⟩
     case measure=>simp [intOf];omega
  ·obtain rfl:i=l.length:=by omega
   have hd:=HN.out;rw [List.drop_length] at hd;exact J39 _
theorem zOs (x:Ac):zKI x:=Ac.ind (fun k r o x c t e h1 h2=>zLu _ (zEi t h1) (zEi e h2)) x
theorem zNf (l:List Ac):zGh l:=zEi l (fun y _=>zOs y)
end Go.Proofs.YtoapgjjepiopbaaGreatDoor
