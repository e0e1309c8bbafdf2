/- Layer L: texts joined. -/
import Derived.Test.YtfokdllgnblamaaGreatDoorL04
set_option linter.all false
set_option maxHeartbeats 4000000
set_option maxRecDepth 8000
namespace Go.Proofs.YtfokdllgnblamaaGreatDoor
open Go.RowKit
abbrev vK:=@zQ.keeps
theorem J51 (P:Prop) (h:P:=by
 go_wp2_with fail
 go_ret
 exact ⟨by rw [HRES.out];simp [zFI,w64],K02.out.drewN _⟩):P:=h
theorem J57 (P:Prop) (h:P:=by
 clear hr hl;go_enter Tryz.func78,Tryz.ntmps78
 go_wp2_with fail
 refine wp_loop_rounds 1 ?_
 rw [rounds_succ];go_upto_region 7 with fail
 go_quiet (fail)
 go_wp2_with fail
 go_ret
 exact ⟨rfl,(((zI w).alloc _).alloc _).drewN _⟩):P:=h
theorem J208 (P:Prop) (h:P:=by have e':q=b2:=e;have:=N.out;omega):P:=h
theorem zJJ (b:Bool) (w:World):Calls Tryz.prog 101 #[.bool b] w fun e w'=>e=.returned (.int .i64 (zEd b)) /\ w=w':=by
 cases b
 all_goals (
  go_enter Tryz.func101,Tryz.ntmps101
  go_wp2_with fail
  go_ret
  exact ⟨rfl,rfl⟩)
def holdB (k a b:Int):Bool :=
 if k=10 then a==b else if k=11 then a != b else if k=12 then decide (a < b) else if k=13 then decide (a <= b)
 else if k=14 then decide (b < a) else if k=15 then decide (b <= a) else if k=16 then a != 0&&b != 0 else a != 0 || b != 0
theorem zJl {k:Int} (a b:Int) (hk:10 <= k):zFI k a b=zEd (holdB k a b):=by
 unfold zFI holdB;rw [if_neg (by omega),if_neg (by omega),if_neg (by omega),if_neg (by omega),if_neg (by omega)];have e1:(a==b)=decide (a=b):=rfl;have e2:(a != b)=decide (a ≠ b):=by simp [bne,e1]
 have e3:(a != 0)=decide (a ≠ 0):=by simp [bne];rfl
 have e4:(b != 0)=decide (b ≠ 0):=by simp [bne];rfl
 rw [e1,e2,e3,e4];by_cases h1:k=10
 ·simp only [if_pos h1]
 ·by_cases h2:k=11
  ·simp only [if_neg h1,if_pos h2]
  ·by_cases h3:k=12
   ·simp only [if_neg h1,if_neg h2,if_pos h3]
   ·by_cases h4:k=13
    ·simp only [if_neg h1,if_neg h2,if_neg h3,if_pos h4]
    ·by_cases h5:k=14
     ·simp only [if_neg h1,if_neg h2,if_neg h3,if_neg h4,if_pos h5]
     ·by_cases h6:k=15
      ·simp only [if_neg h1,if_neg h2,if_neg h3,if_neg h4,if_neg h5,if_pos h6]
      ·by_cases h7:k=16
       ·simp only [if_neg h1,if_neg h2,if_neg h3,if_neg h4,if_neg h5,if_neg h6,if_pos h7]
       ·simp only [if_neg h1,if_neg h2,if_neg h3,if_neg h4,if_neg h5,if_neg h6,if_neg h7]
theorem zJk (k a b:Int) (hk:10 <= k /\ k <= 17) (w:World):Calls Tryz.prog 102 #[.int .i64 k, .int .i64 a, .int .i64 b] w fun e w'=>e=.returned (.bool (holdB k a b)) /\ w=w':=by
 rcases (show k=10 \/ k=11 \/ k=12 \/ k=13 \/ k=14 \/ k=15 \/ k=16 \/ k=17 by omega) with rfl | rfl | rfl | rfl | rfl | rfl | rfl | rfl
 all_goals (
  go_enter Tryz.func102,Tryz.ntmps102
  go_wp2_with fail
  all_goals go_ret
  all_goals first | exact ⟨rfl,rfl⟩ | (rename_i h;exact ⟨by simp [holdB,h],rfl⟩))
theorem zMX {w:World} {rv:Value} {regs:List Int} (h:zl w rv regs.length (ints regs)) {k:Nat} (hk:k < regs.length):∃ g o rc,rv=.slice (some ⟨g,o,none⟩) regs.length rc /\ w.cell? ⟨g,o+k,none⟩=some (.int .i64 (regs.getD k 0)):=by
 obtain ⟨ad,cap,e,h1⟩:=h;obtain ⟨g,o,e1,h2⟩:=h1 (by omega);exact ⟨g,o,cap,by rw [e,e1],h2 k _ (zAA regs k hk)⟩
theorem zHO (k num:Int) (nm:ByteArray) (regs:List Int) (n:Int) (w:World) (ad:Option Addr) (cap:Nat) (rv:Value) (hr:zl w rv regs.length (ints regs)) (hl:regs.length=n.toNat) (hk:k=1 \/ (k=2 /\ 0 <= num /\ num < n)) :
 Calls Tryz.prog 78 #[.agg #[.int .i64 k, .int .i64 num, .string nm, .slice ad 0 cap],rv] w fun e w'=>e=.returned (.int .i64 (if k=1 then num else regs.getD num.toNat 0)) /\ Keeps zA w w':=by
 rcases hk with rfl | ⟨rfl,h1,h2⟩
 ·rw [if_pos rfl]
  exact J57 _
 ·rw [if_neg (by decide)]
  obtain ⟨g,o,rc,rfl,hc⟩:=zMX hr (k:=num.toNat) (by omega);have i1:num < (regs.length:Int):=by omega
  have e:((num.toNat:Nat):Int)=num:=by omega
  have hg:g < w.heap.size:=xP w _ hc;have hn1:g ≠ w.heap.size:=by omega
  have hn2:g ≠ w.heap.size+1:=by omega
  generalize regs.getD num.toNat 0=v at hc ⊢;generalize regs.length=z at i1 ⊢;exact J57 _
def zHe (k a:Int):Int:=if k=3 then w64 (-a) else zEd (decide (a=0))
theorem val_one (k num:Int) (nm:ByteArray) (x0:Ex) (w:World) (F:Nat -> Prop) (ad:Option Addr) (cap:Nat) (rv:Value) (v0:Int) (hx:zQ w F [x0] ad)
 (hv0:∀ W xa xc,Keeps zA w W -> zQ W F x0.args xa -> Calls Tryz.prog 78 #[exV x0 xa xc,rv] W fun e w'=>e=.returned (.int .i64 v0) /\ Keeps zA W w')
 (hk:k=3 \/ k=4) :
 Calls Tryz.prog 78 #[.agg #[.int .i64 k, .int .i64 num, .string nm, .slice ad 1 cap],rv] w fun e w'=>e=.returned (.int .i64 (zHe k v0)) /\ Keeps zA w w':=by
 obtain ⟨g,o,xa0,xc0,rfl,hg0,c0,c1,c2,c3,hxx⟩:=hx.at (i:=0) (Nat.succ_pos _);have H0:Ret w 78 #[.agg #[.int .i64 x0.kind, .int .i64 x0.num, .string x0.nm, .slice xa0 x0.args.length xc0],rv] (.int .i64 v0):=fun W hk=>hv0 W xa0 xc0 hk (vK hxx hk (fun _ _ h=>h))
 have d0:∀ W,Keeps zA w W -> W.cell? ⟨g,o+0,none⟩=some (.int .i64 x0.kind) /\ W.cell? ⟨g,o+1,none⟩=some (.int .i64 x0.num) /\ W.cell? ⟨g,o+2,none⟩=some (.string x0.nm) /\ W.cell? ⟨g,o+3,none⟩=some (.slice xa0 x0.args.length xc0):=fun W q=>⟨q.cell (fun h=>h) c0,q.cell (fun h=>h) c1,q.cell (fun h=>h) c2,q.cell (fun h=>h) c3⟩
 have HGW0:Hid (g < w.heap.size):=xP w _ c0;generalize x0.kind=p0 at H0 d0;generalize x0.num=m0 at H0 d0;generalize x0.nm=s0 at H0 d0;generalize x0.args.length=z0 at H0 d0;clear c0 c1 c2 c3 hxx hv0 hg0;rw [Nat.add_zero] at d0;clear hx;go_enter Tryz.func78,Tryz.ntmps78
 go_upto_region 1 with fail
 obtain ⟨b1,w1,e1,e2,R1,K1,S1⟩:=newRow w [.int .i64 k, .int .i64 num, .string nm, .slice (some ⟨g,o,none⟩) 1 cap] 65;rw [e1,e2];go_upto_region 2 with fail
 obtain ⟨b2,w2,e3,e4,R2,K2,S2⟩:=newRow w1 [.int .i64 0, .int .i64 0] 177;rw [e3,e4];have N:Hid (w.heap.size <= b2):=by show _ <= _;rw [<- e3];exact K1.size
 have K02:Hid (Keeps zA w w2):=K1.zB K2;have hR1:=yA (R1.keeps K2 (fun h=>h));have hN1:Hid (b1 < b2):=by show _ < _;rw [<- e3];exact R1.lt (by simp)
 clear e1 e2 e3 e4 S1 S2 K1 K2 R1;have y:=hR1.out.zDZ;replace d0:=fun W q=>d0 W (K02.out.zB q)
 have k2:=zI w2;go_wp2_with fail
 refine wp_loop_rounds 2 ?_
 rw [rounds_succ];go_upto_region 5 with fail
 obtain ⟨b3,w3,e1,e2,R3,K3,S3⟩:=newRow w2 [.int .i64 p0, .int .i64 m0, .string s0, .slice xa0 z0 xc0] 65;rw [e1,e2];have K03:Keeps zA w w3:=K02.out.zB K3;clear e1 e2 S3 k2;have y3:=R3.zDZ;have k3:=zI w3;have hf:=zT ((R2.keeps K3 (fun h=>h)).cell (k:=0) rfl);have hz:∀ W,Keeps zA w3 W -> W.frozen? ⟨b2,0,none⟩=false:=fun W q=>((R2.keeps K3 (fun h=>h)).keeps q (fun h=>h)).free (k:=0) (by simp)
 go_upto_region 6 with (go_at_call 78;refine H0.call K03 ?_;intro w4 K04 K34)
 have R4:=((R2.keeps K3 (fun h=>h)).keeps K34 (fun h=>h)).set 0 (by simp) (.int .i64 v0);have K45:Keeps (fun q=>q=b2) w4 (w4.setCell ⟨b2,0,none⟩ (.int .i64 v0)):=(yB (fun q=>q=b2) w4).setCell (p:=⟨b2,0,none⟩) (fun _=>rfl) _;generalize w4.setCell ⟨b2,0,none⟩ (.int .i64 v0)=w5_0 at R4 K45 ⊢;have K05:Hid (Keeps zA w w5_0):=K04.trans K45 (fun q hq e=>by exact J208 _);have hR5:=yA (((hR1.out.keeps K3 (fun h=>h)).keeps K34 (fun h=>h)).keeps K45 (fun e=>by have e':b1=b2:=e;have:=hN1.out;omega));have R5:zC w5_0 b2 [.int .i64 v0, .int .i64 0]:=R4;clear y hf hz y3 k3 K03 K04 R3 R4 hR1 R2 K34 K45 K3 d0 K02;have hR1:=hR5;have R2:=R5;have K02:=K05;clear hR5 R5 K05;have y:=hR1.out.zDZ;have k2:=zI w5_0;go_wp2_with fail
 rw [rounds_succ];have y2:=R2.all2;go_upto_region 7 with fail
 go_quiet (fail)
 have kq:=k2.drewN;rcases hk with rfl | rfl
 ·go_wp2_with fail
  go_ret
  exact ⟨by simp [zHe,w64],K02.out.drewN _⟩
 ·go_wp2_with (go_at_call 101;refine (zJJ _ _).mono ?_;rintro e w6 ⟨rfl,rfl⟩)
  go_ret
  exact ⟨by simp [zHe];rfl,K02.out.drewN _⟩
theorem val_two (k num:Int) (nm:ByteArray) (x0 x1:Ex) (w:World) (F:Nat -> Prop) (ad:Option Addr) (cap:Nat) (rv:Value) (v0 v1:Int) (hx:zQ w F [x0,x1] ad)
 (hv0:∀ W xa xc,Keeps zA w W -> zQ W F x0.args xa -> Calls Tryz.prog 78 #[exV x0 xa xc,rv] W fun e w'=>e=.returned (.int .i64 v0) /\ Keeps zA W w')
 (hv1:∀ W xa xc,Keeps zA w W -> zQ W F x1.args xa -> Calls Tryz.prog 78 #[exV x1 xa xc,rv] W fun e w'=>e=.returned (.int .i64 v1) /\ Keeps zA W w')
 (hk:5 <= k /\ k <= 17) :
 Calls Tryz.prog 78 #[.agg #[.int .i64 k, .int .i64 num, .string nm, .slice ad 2 cap],rv] w fun e w'=>e=.returned (.int .i64 (zFI k v0 v1)) /\ Keeps zA w w':=by
 obtain ⟨res,hres⟩:∃ z,z=zFI k v0 v1:=⟨_,rfl⟩
 rw [<- hres];have HRES:=yA hres;clear hres;obtain ⟨g,o,xa0,xc0,rfl,hg0,c0,c1,c2,c3,hxx⟩:=hx.at (i:=0) (Nat.succ_pos _);have H0:Ret w 78 #[.agg #[.int .i64 x0.kind, .int .i64 x0.num, .string x0.nm, .slice xa0 x0.args.length xc0],rv] (.int .i64 v0):=fun W hk=>hv0 W xa0 xc0 hk (vK hxx hk (fun _ _ h=>h))
 have d0:∀ W,Keeps zA w W -> W.cell? ⟨g,o+0,none⟩=some (.int .i64 x0.kind) /\ W.cell? ⟨g,o+1,none⟩=some (.int .i64 x0.num) /\ W.cell? ⟨g,o+2,none⟩=some (.string x0.nm) /\ W.cell? ⟨g,o+3,none⟩=some (.slice xa0 x0.args.length xc0):=fun W q=>⟨q.cell (fun h=>h) c0,q.cell (fun h=>h) c1,q.cell (fun h=>h) c2,q.cell (fun h=>h) c3⟩
 have HGW0:Hid (g < w.heap.size):=xP w _ c0;generalize x0.kind=p0 at H0 d0;generalize x0.num=m0 at H0 d0;generalize x0.nm=s0 at H0 d0;generalize x0.args.length=z0 at H0 d0;clear c0 c1 c2 c3 hxx hv0 hg0;obtain ⟨g,o,xa1,xc1,q1,hg1,c0,c1,c2,c3,hxx⟩:=hx.at (i:=1) (Nat.lt_succ_self 1);cases q1;have H1:Ret w 78 #[.agg #[.int .i64 x1.kind, .int .i64 x1.num, .string x1.nm, .slice xa1 x1.args.length xc1],rv] (.int .i64 v1):=fun W hk=>hv1 W xa1 xc1 hk (vK hxx hk (fun _ _ h=>h))
 have d1:∀ W,Keeps zA w W -> W.cell? ⟨g,o+4,none⟩=some (.int .i64 x1.kind) /\ W.cell? ⟨g,o+5,none⟩=some (.int .i64 x1.num) /\ W.cell? ⟨g,o+6,none⟩=some (.string x1.nm) /\ W.cell? ⟨g,o+7,none⟩=some (.slice xa1 x1.args.length xc1):=fun W q=>⟨q.cell (fun h=>h) c0,q.cell (fun h=>h) c1,q.cell (fun h=>h) c2,q.cell (fun h=>h) c3⟩
 have HGW1:Hid (g < w.heap.size):=xP w _ c0;generalize x1.kind=p1 at H1 d1;generalize x1.num=m1 at H1 d1;generalize x1.nm=s1 at H1 d1;generalize x1.args.length=z1 at H1 d1;clear c0 c1 c2 c3 hxx hv1 hg1;rw [Nat.add_zero] at d0;clear hx;go_enter Tryz.func78,Tryz.ntmps78
 go_upto_region 1 with fail
 obtain ⟨b1,w1,e1,e2,R1,K1,S1⟩:=newRow w [.int .i64 k, .int .i64 num, .string nm, .slice (some ⟨g,o,none⟩) 2 cap] 65;rw [e1,e2];go_upto_region 2 with fail
 obtain ⟨b2,w2,e3,e4,R2,K2,S2⟩:=newRow w1 [.int .i64 0, .int .i64 0] 177;rw [e3,e4];have N:Hid (w.heap.size <= b2):=by show _ <= _;rw [<- e3];exact K1.size
 have K02:Hid (Keeps zA w w2):=K1.zB K2;have hR1:=yA (R1.keeps K2 (fun h=>h));have hN1:Hid (b1 < b2):=by show _ < _;rw [<- e3];exact R1.lt (by simp)
 clear e1 e2 e3 e4 S1 S2 K1 K2 R1;have y:=hR1.out.zDZ;replace d0:=fun W q=>d0 W (K02.out.zB q)
 replace d1:=fun W q=>d1 W (K02.out.zB q)
 have k2:=zI w2;go_wp2_with fail
 refine wp_loop_rounds 3 ?_
 rw [rounds_succ];go_upto_region 5 with fail
 obtain ⟨b3,w3,e1,e2,R3,K3,S3⟩:=newRow w2 [.int .i64 p0, .int .i64 m0, .string s0, .slice xa0 z0 xc0] 65;rw [e1,e2];have K03:Keeps zA w w3:=K02.out.zB K3;clear e1 e2 S3 k2;have y3:=R3.zDZ;have k3:=zI w3;have hf:=zT ((R2.keeps K3 (fun h=>h)).cell (k:=0) rfl);have hz:∀ W,Keeps zA w3 W -> W.frozen? ⟨b2,0,none⟩=false:=fun W q=>((R2.keeps K3 (fun h=>h)).keeps q (fun h=>h)).free (k:=0) (by simp)
 go_upto_region 6 with (go_at_call 78;refine H0.call K03 ?_;intro w4 K04 K34)
 have R4:=((R2.keeps K3 (fun h=>h)).keeps K34 (fun h=>h)).set 0 (by simp) (.int .i64 v0);have K45:Keeps (fun q=>q=b2) w4 (w4.setCell ⟨b2,0,none⟩ (.int .i64 v0)):=(yB (fun q=>q=b2) w4).setCell (p:=⟨b2,0,none⟩) (fun _=>rfl) _;generalize w4.setCell ⟨b2,0,none⟩ (.int .i64 v0)=w5_0 at R4 K45 ⊢;have K05:Hid (Keeps zA w w5_0):=K04.trans K45 (fun q hq e=>by exact J208 _);have hR5:=yA (((hR1.out.keeps K3 (fun h=>h)).keeps K34 (fun h=>h)).keeps K45 (fun e=>by have e':b1=b2:=e;have:=hN1.out;omega));have R5:zC w5_0 b2 [.int .i64 v0, .int .i64 0]:=R4;have hg5:¬ g=b2:=by have h2:=N.out;have h3:=HGW0.out;omega
 replace d1:∀ W,Keeps zA w5_0 W -> W.cell? ⟨g,o+4,none⟩=some (.int .i64 p1) /\ W.cell? ⟨g,o+5,none⟩=some (.int .i64 m1) /\ W.cell? ⟨g,o+6,none⟩=some (.string s1) /\ W.cell? ⟨g,o+7,none⟩=some (.slice xa1 z1 xc1):=fun W q=>by obtain ⟨h0,h1,h2,h3⟩:=d1 w4 (K3.zB K34);exact ⟨q.cell (fun h=>h) (K45.cell (p:=⟨g,o+4,none⟩) hg5 h0),q.cell (fun h=>h) (K45.cell (p:=⟨g,o+5,none⟩) hg5 h1),q.cell (fun h=>h) (K45.cell (p:=⟨g,o+6,none⟩) hg5 h2),q.cell (fun h=>h) (K45.cell (p:=⟨g,o+7,none⟩) hg5 h3)⟩
 clear hg5;clear y hf hz y3 k3 K03 K04 R3 R4 hR1 R2 K34 K45 K3 d0 K02;have hR1:=hR5;have R2:=R5;have K02:=K05;clear hR5 R5 K05;have y:=hR1.out.zDZ;have k2:=zI w5_0;go_wp2_with fail
 rw [rounds_succ];go_upto_region 5 with fail
 obtain ⟨b3,w3,e1,e2,R3,K3,S3⟩:=newRow w5_0 [.int .i64 p1, .int .i64 m1, .string s1, .slice xa1 z1 xc1] 65;rw [e1,e2];have K03:Keeps zA w w3:=K02.out.zB K3;clear e1 e2 S3 k2;have y3:=R3.zDZ;have k3:=zI w3;have hf:=zT ((R2.keeps K3 (fun h=>h)).cell (k:=1) rfl);have hz:∀ W,Keeps zA w3 W -> W.frozen? ⟨b2,1,none⟩=false:=fun W q=>((R2.keeps K3 (fun h=>h)).keeps q (fun h=>h)).free (k:=1) (by simp)
 go_upto_region 6 with (go_at_call 78;refine H1.call K03 ?_;intro w4 K04 K34)
 have R4:=((R2.keeps K3 (fun h=>h)).keeps K34 (fun h=>h)).set 1 (by simp) (.int .i64 v1);have K45:Keeps (fun q=>q=b2) w4 (w4.setCell ⟨b2,1,none⟩ (.int .i64 v1)):=(yB (fun q=>q=b2) w4).setCell (p:=⟨b2,1,none⟩) (fun _=>rfl) _;generalize w4.setCell ⟨b2,1,none⟩ (.int .i64 v1)=w5_1 at R4 K45 ⊢;have K05:Hid (Keeps zA w w5_1):=K04.trans K45 (fun q hq e=>by exact J208 _);have hR5:=yA (((hR1.out.keeps K3 (fun h=>h)).keeps K34 (fun h=>h)).keeps K45 (fun e=>by have e':b1=b2:=e;have:=hN1.out;omega));have R5:zC w5_1 b2 [.int .i64 v0, .int .i64 v1]:=R4;clear y hf hz y3 k3 K03 K04 R3 R4 hR1 R2 K34 K45 K3 d1 K02;have hR1:=hR5;have R2:=R5;have K02:=K05;clear hR5 R5 K05;have y:=hR1.out.zDZ;have k2:=zI w5_1;go_wp2_with fail
 rw [rounds_succ];have y2:=R2.all2;go_upto_region 7 with fail
 go_quiet (fail)
 have kq:=k2.drewN;by_cases h10:10 <= k
 ·rcases (show k=10 \/ k=11 \/ k=12 \/ k=13 \/ k=14 \/ k=15 \/ k=16 \/ k=17 by omega) with rfl | rfl | rfl | rfl | rfl | rfl | rfl | rfl
  all_goals (
   go_wp2_with (first | (go_at_call 102;refine (zJk _ v0 v1 (by decide) _).mono ?_;rintro e w6 ⟨rfl,rfl⟩) | (go_at_call 101;refine (zJJ _ _).mono ?_;rintro e w6 ⟨rfl,rfl⟩))
   go_ret
   exact ⟨by rw [HRES.out,zJl v0 v1 (by decide)];rfl,K02.out.drewN _⟩)
 ·rcases (show k=5 \/ k=6 \/ k=7 \/ k=8 \/ k=9 by omega) with rfl | rfl | rfl | rfl | rfl
  ·exact J51 _
  ·exact J51 _
  ·exact J51 _
  all_goals (
   by_cases hz:v1=0
   ·subst hz
    exact J51 _
   ·go_wp2_with fail
    go_ret
    exact ⟨by rw [HRES.out];simp [zFI,w64,hz],K02.out.drewN _⟩)
theorem Ex.zNt (regs:List Int) (x:Ex):x.val regs=if x.kind=1 then x.num else if x.kind=2 then regs.getD x.num.toNat 0 else if x.kind=3 then w64 (-((Ex.zDr regs x.args).getD 0 0)) else if x.kind=4 then zEd (decide ((Ex.zDr regs x.args).getD 0 0=0)) else zFI x.kind ((Ex.zDr regs x.args).getD 0 0) ((Ex.zDr regs x.args).getD 1 0):=by
 cases x;rw [Ex.val];rfl
theorem zDo (regs:List Int) (n:Int) (rv:Value) (hl:regs.length=n.toNat):∀ (x:Ex) (w:World) (F:Nat -> Prop) (ad:Option Addr) (cap:Nat),zQ w F x.args ad -> zl w rv regs.length (ints regs) -> x.may n=true →
 Calls Tryz.prog 78 #[exV x ad cap,rv] w fun e w'=>e=.returned (.int .i64 (x.val regs)) /\ Keeps zA w w':=by
 refine Ex.ind (fun k num nm l ih w F ad cap h hr hm=>?_)
 obtain ⟨h1,h2⟩:=Ex.zCx hm;have hlf:zAE k num nm l.length n=true:=h1;have hml:Ex.zAC n l=true:=h2;have hL:zQ w F l ad:=h;rw [Ex.zNt];show Calls _ _ #[.agg #[.int .i64 k, .int .i64 num, .string nm, .slice ad l.length cap],_] _ (fun e w'=>e=.returned (.int .i64 (if k=1 then num else if k=2 then regs.getD num.toNat 0 else if k=3 then w64 (-((Ex.zDr regs l).getD 0 0)) else if k=4 then zEd (decide ((Ex.zDr regs l).getD 0 0=0)) else zFI k ((Ex.zDr regs l).getD 0 0) ((Ex.zDr regs l).getD 1 0))) /\ _)
 have hsub:∀ y,y ∈ l -> ∀ W xa xc,Keeps zA w W -> zQ W F y.args xa -> Calls Tryz.prog 78 #[exV y xa xc,rv] W fun e w'=>e=.returned (.int .i64 (y.val regs)) /\ Keeps zA W w':=fun y hy W xa xc hk hx=>ih y hy W F xa xc hx (hr.keeps hk (fun _ _ h=>h)) (Ex.zHa hml hy)
 rcases zGl hlf with ⟨rfl,h0⟩ | ⟨rfl,h0,h3,h4⟩ | ⟨hk,h0⟩ | ⟨k1,k2,h0⟩
 ·rw [h0]
  have:=zHO 1 num nm regs n w ad cap rv hr hl (.inl rfl)
  simpa using this
 ·rw [h0]
  have:=zHO 2 num nm regs n w ad cap rv hr hl (.inr ⟨rfl,h3,h4⟩)
  simpa using this
 ·match l,h0,hL,hsub with
  | [x0],_,hL,hsub =>
    have:=val_one k num nm x0 w F ad cap rv (x0.val regs) hL (hsub x0 (by simp)) hk
    rcases hk with rfl | rfl
    ·simpa [zHe,Ex.zDr] using this
    ·simpa [zHe,Ex.zDr] using this
 ·match l,h0,hL,hsub with
  | [x0,x1],_,hL,hsub =>
    have:=val_two k num nm x0 x1 w F ad cap rv (x0.val regs) (x1.val regs) hL (hsub x0 (by simp)) (hsub x1 (by simp)) ⟨k1,k2⟩
    rw [if_neg (by omega),if_neg (by omega),if_neg (by omega),if_neg (by omega)];simpa [Ex.zDr] using this
end Go.Proofs.YtfokdllgnblamaaGreatDoor
