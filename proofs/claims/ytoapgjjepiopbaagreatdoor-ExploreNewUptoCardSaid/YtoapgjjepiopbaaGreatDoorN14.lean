/- Layer N: texts joined. -/
import Derived.Test.YtoapgjjepiopbaaGreatDoorN13
set_option linter.all false
set_option maxHeartbeats 4000000
set_option maxRecDepth 8000
namespace Go.Proofs.YtoapgjjepiopbaaGreatDoor
open Go.RowKit
theorem J54 (P:Prop) (h:P:=by
 go_wp2_with fail
 go_ret
 exact ⟨by rw [HRES.out];simp [zEu,w64],K02.out.drewN _⟩):P:=h
theorem J55 (P:Prop) (h:P:=by
 have:=h1.own.cellAt (i*4+j) (by omega)
 rw [zAu _ 4 zBb l i j hj,hx] at this;have hl:j < l[i].cells.length:=by rw [zBb];exact hj
 exact ⟨l[i].cells[j],by rw [this];simp only [Option.bind_some];exact List.getElem?_eq_getElem hl⟩):P:=h
theorem J60 (P:Prop) (h:P:=by
 clear hr hl;go_enter Tryz.func107,Tryz.ntmps107
 go_wp2_with fail
 refine wp_loop_rounds 1 ?_
 rw [rounds_succ];go_upto_region 7 with fail
 go_quiet (fail)
 go_wp2_with fail
 go_ret
 exact ⟨rfl,(((zH w).alloc _).alloc _).drewN _⟩):P:=h
theorem J61 (P:Prop) (h:P:=by
 rcases (show j=0 \/ j=1 \/ j=2 \/ j=3 by omega) with rfl | rfl | rfl | rfl
 ·exact ⟨{ l[i] with op:=u },rfl⟩
 ·exact ⟨{ l[i] with a:=u },rfl⟩
 ·exact ⟨{ l[i] with b:=u },rfl⟩
 ·exact ⟨{ l[i] with c:=u },rfl⟩):P:=h
theorem J91 (P:Prop) (h:P:=by
 have:=(h1.own.stored (i*4+j) (.int .i64 u)).1
 rw [zCe _ 4 zBb l i j hj (.int .i64 u) l[i] y hx hy] at this;rw [List.length_set];exact this):P:=h
theorem J93 (P:Prop) (h:P:=by
 obtain ⟨ad,cap,e,h1⟩:=h;refine ⟨ad,cap,e,fun k hk=>?_⟩
 obtain ⟨g,o,e1,h2⟩:=h1 (by omega);exact ⟨g,o,e1,h2 k _ (zCd xs k hk)⟩):P:=h
theorem J156 (P:Prop) (h:P:=by simp only [zJ,tz,Option.bind,Act.put];exact .inl ⟨rfl,fun _=>rfl⟩):P:=h
theorem J165 (P:Prop) (h:P:=by obtain ⟨g,e,h0⟩:=h;exact ⟨g,e,h0.keeps hk (fun h=>h)⟩):P:=h
theorem zIj (b:Bool) (w:World):Calls Tryz.prog 159 #[.bool b] w fun e w'=>e=.returned (.int .i64 (zD3 b)) /\ w=w':=by
 cases b
 all_goals (
  go_enter Tryz.func159,Tryz.ntmps159
  go_wp2_with fail
  go_ret
  exact ⟨rfl,rfl⟩)
def holdB (k a b:Int):Bool :=
 if k=10 then a==b else if k=11 then a != b else if k=12 then decide (a < b) else if k=13 then decide (a <= b)
 else if k=14 then decide (b < a) else if k=15 then decide (b <= a) else if k=16 then a != 0&&b != 0 else a != 0 || b != 0
theorem zJ0 {k:Int} (a b:Int) (hk:10 <= k):zEu k a b=zD3 (holdB k a b):=by
 unfold zEu holdB;rw [if_neg (by omega),if_neg (by omega),if_neg (by omega),if_neg (by omega),if_neg (by omega)];have e1:(a==b)=decide (a=b):=rfl;have e2:(a != b)=decide (a ≠ b):=by simp [bne,e1]
 have e3:(a != 0)=decide (a ≠ 0):=by simp [bne];rfl
 have e4:(b != 0)=decide (b ≠ 0):=by simp [bne];rfl
 rw [e1,e2,e3,e4];by_cases h1:k=10
 ·simp only [if_pos h1]
 ·by_cases h2:k=11
  ·simp only [if_neg h1,if_pos h2]
  ·by_cases h3:k=12
   ·simp only [if_neg h1,if_neg h2,if_pos h3]
   ·by_cases h4:k=13
    ·simp only [if_neg h1,if_neg h2,if_neg h3,if_pos h4]
    ·by_cases h5:k=14
     ·simp only [if_neg h1,if_neg h2,if_neg h3,if_neg h4,if_pos h5]
     ·by_cases h6:k=15
      ·simp only [if_neg h1,if_neg h2,if_neg h3,if_neg h4,if_neg h5,if_pos h6]
      ·by_cases h7:k=16
       ·simp only [if_neg h1,if_neg h2,if_neg h3,if_neg h4,if_neg h5,if_neg h6,if_pos h7]
       ·simp only [if_neg h1,if_neg h2,if_neg h3,if_neg h4,if_neg h5,if_neg h6,if_neg h7]
theorem zJH (k a b:Int) (hk:10 <= k /\ k <= 17) (w:World):Calls Tryz.prog 160 #[.int .i64 k, .int .i64 a, .int .i64 b] w fun e w'=>e=.returned (.bool (holdB k a b)) /\ w=w':=by
 rcases (show k=10 \/ k=11 \/ k=12 \/ k=13 \/ k=14 \/ k=15 \/ k=16 \/ k=17 by omega) with rfl | rfl | rfl | rfl | rfl | rfl | rfl | rfl
 all_goals (
  go_enter Tryz.func160,Tryz.ntmps160
  go_wp2_with fail
  all_goals go_ret
  all_goals first | exact ⟨rfl,rfl⟩ | (rename_i h;exact ⟨by simp [holdB,h],rfl⟩))
theorem zL4 {w:World} {rv:Value} {regs:List Int} (h:zU w rv regs.length (ints regs)) {k:Nat} (hk:k < regs.length):∃ g o rc,rv=.slice (some ⟨g,o,none⟩) regs.length rc /\ w.cell? ⟨g,o+k,none⟩=some (.int .i64 (regs.getD k 0)):=by
 obtain ⟨ad,cap,e,h1⟩:=h;obtain ⟨g,o,e1,h2⟩:=h1 (by omega);exact ⟨g,o,cap,by rw [e,e1],h2 k _ (zCd regs k hk)⟩
theorem zG0 (k num:Int) (nm:ByteArray) (regs:List Int) (n:Int) (w:World) (ad:Option Addr) (cap:Nat) (rv:Value) (hr:zU w rv regs.length (ints regs)) (hl:regs.length=n.toNat) (hk:k=1 \/ (k=2 /\ 0 <= num /\ num < n)) :
 Calls Tryz.prog 107 #[.agg #[.int .i64 k, .int .i64 num, .string nm, .slice ad 0 cap],rv] w fun e w'=>e=.returned (.int .i64 (if k=1 then num else regs.getD num.toNat 0)) /\ Keeps zA w w':=by
 rcases hk with rfl | ⟨rfl,h1,h2⟩
 ·rw [if_pos rfl]
  exact J60 _
 ·rw [if_neg (by decide)]
  obtain ⟨g,o,rc,rfl,hc⟩:=zL4 hr (k:=num.toNat) (by omega);have i1:num < (regs.length:Int):=by omega
  have e:((num.toNat:Nat):Int)=num:=by omega
  have hg:g < w.heap.size:=World.block_lt_of_cell? w _ hc;have hn1:g ≠ w.heap.size:=by omega
  have hn2:g ≠ w.heap.size+1:=by omega
  generalize regs.getD num.toNat 0=v at hc ⊢;generalize regs.length=z at i1 ⊢;exact J60 _
def zHd (k a:Int):Int:=if k=3 then w64 (-a) else zD3 (decide (a=0))
theorem val_one (k num:Int) (nm:ByteArray) (x0:Ex) (w:World) (F:Nat -> Prop) (ad:Option Addr) (cap:Nat) (rv:Value) (v0:Int) (hx:zR w F [x0] ad)
 (hv0:∀ W xa xc,Keeps zA w W -> zR W F x0.args xa -> Calls Tryz.prog 107 #[exV x0 xa xc,rv] W fun e w'=>e=.returned (.int .i64 v0) /\ Keeps zA W w')
 (hk:k=3 \/ k=4) :
 Calls Tryz.prog 107 #[.agg #[.int .i64 k, .int .i64 num, .string nm, .slice ad 1 cap],rv] w fun e w'=>e=.returned (.int .i64 (zHd k v0)) /\ Keeps zA w w':=by
 obtain ⟨g,o,xa0,xc0,rfl,hg0,c0,c1,c2,c3,hxx⟩:=hx.at (i:=0) (Nat.succ_pos _);have H0:Ret w 107 #[.agg #[.int .i64 x0.kind, .int .i64 x0.num, .string x0.nm, .slice xa0 x0.args.length xc0],rv] (.int .i64 v0):=fun W hk=>hv0 W xa0 xc0 hk (zR.keeps hxx hk (fun _ _ h=>h))
 have d0:∀ W,Keeps zA w W -> W.cell? ⟨g,o+0,none⟩=some (.int .i64 x0.kind) /\ W.cell? ⟨g,o+1,none⟩=some (.int .i64 x0.num) /\ W.cell? ⟨g,o+2,none⟩=some (.string x0.nm) /\ W.cell? ⟨g,o+3,none⟩=some (.slice xa0 x0.args.length xc0):=fun W q=>⟨q.cell (fun h=>h) c0,q.cell (fun h=>h) c1,q.cell (fun h=>h) c2,q.cell (fun h=>h) c3⟩
 have HGW0:Hid (g < w.heap.size):=World.block_lt_of_cell? w _ c0;generalize x0.kind=p0 at H0 d0;generalize x0.num=m0 at H0 d0;generalize x0.nm=s0 at H0 d0;generalize x0.args.length=z0 at H0 d0;clear c0 c1 c2 c3 hxx hv0 hg0;rw [Nat.add_zero] at d0;clear hx;go_enter Tryz.func107,Tryz.ntmps107
 go_upto_region 1 with fail
 obtain ⟨b1,w1,e1,e2,R1,K1,S1⟩:=newRow w [.int .i64 k, .int .i64 num, .string nm, .slice (some ⟨g,o,none⟩) 1 cap] 144;rw [e1,e2];go_upto_region 2 with fail
 obtain ⟨b2,w2,e3,e4,R2,K2,S2⟩:=newRow w1 [.int .i64 0, .int .i64 0] 251;rw [e3,e4];have N:Hid (w.heap.size <= b2):=by show _ <= _;rw [<- e3];exact K1.size
 have K02:Hid (Keeps zA w w2):=K1.zB K2;have hR1:=Lib.hid (R1.keeps K2 (fun h=>h));have hN1:Hid (b1 < b2):=by show _ < _;rw [<- e3];exact R1.lt (by simp)
 clear e1 e2 e3 e4 S1 S2 K1 K2 R1;have y:=hR1.out.zAh;replace d0:=fun W q=>d0 W (K02.out.zB q)
 have k2:=zH w2;go_wp2_with fail
 refine wp_loop_rounds 2 ?_
 rw [rounds_succ];go_upto_region 5 with fail
 obtain ⟨b3,w3,e1,e2,R3,K3,S3⟩:=newRow w2 [.int .i64 p0, .int .i64 m0, .string s0, .slice xa0 z0 xc0] 144;rw [e1,e2];have K03:Keeps zA w w3:=K02.out.zB K3;clear e1 e2 S3 k2;have y3:=R3.zAh;have k3:=zH w3;have hf:=zL ((R2.keeps K3 (fun h=>h)).cell (k:=0) rfl);have hz:∀ W,Keeps zA w3 W -> W.frozen? ⟨b2,0,none⟩=false:=fun W q=>((R2.keeps K3 (fun h=>h)).keeps q (fun h=>h)).free (k:=0) (by simp)
 go_upto_region 6 with (go_at_call 107;refine H0.call K03 ?_;intro w4 K04 K34)
 have R4:=((R2.keeps K3 (fun h=>h)).keeps K34 (fun h=>h)).set 0 (by simp) (.int .i64 v0);have K45:Keeps (fun q=>q=b2) w4 (w4.setCell ⟨b2,0,none⟩ (.int .i64 v0)):=(Keeps.refl (fun q=>q=b2) w4).setCell (p:=⟨b2,0,none⟩) (fun _=>rfl) _;generalize w4.setCell ⟨b2,0,none⟩ (.int .i64 v0)=w5_0 at R4 K45 ⊢;have K05:Hid (Keeps zA w w5_0):=K04.trans K45 (fun q hq e=>by have e':q=b2:=e;have:=N.out;omega);have hR5:=Lib.hid (((hR1.out.keeps K3 (fun h=>h)).keeps K34 (fun h=>h)).keeps K45 (fun e=>by have e':b1=b2:=e;have:=hN1.out;omega));have R5:zC w5_0 b2 [.int .i64 v0, .int .i64 0]:=R4;clear y hf hz y3 k3 K03 K04 R3 R4 hR1 R2 K34 K45 K3 d0 K02;have hR1:=hR5;have R2:=R5;have K02:=K05;clear hR5 R5 K05;have y:=hR1.out.zAh;have k2:=zH w5_0;go_wp2_with fail
 rw [rounds_succ];have y2:=R2.all2;go_upto_region 7 with fail
 go_quiet (fail)
 have kq:=k2.drewN;rcases hk with rfl | rfl
 ·go_wp2_with fail
  go_ret
  exact ⟨by simp [zHd,w64],K02.out.drewN _⟩
 ·go_wp2_with (go_at_call 159;refine (zIj _ _).mono ?_;rintro e w6 ⟨rfl,rfl⟩)
  go_ret
  exact ⟨by simp [zHd];rfl,K02.out.drewN _⟩
theorem val_two (k num:Int) (nm:ByteArray) (x0 x1:Ex) (w:World) (F:Nat -> Prop) (ad:Option Addr) (cap:Nat) (rv:Value) (v0 v1:Int) (hx:zR w F [x0,x1] ad)
 (hv0:∀ W xa xc,Keeps zA w W -> zR W F x0.args xa -> Calls Tryz.prog 107 #[exV x0 xa xc,rv] W fun e w'=>e=.returned (.int .i64 v0) /\ Keeps zA W w')
 (hv1:∀ W xa xc,Keeps zA w W -> zR W F x1.args xa -> Calls Tryz.prog 107 #[exV x1 xa xc,rv] W fun e w'=>e=.returned (.int .i64 v1) /\ Keeps zA W w')
 (hk:5 <= k /\ k <= 17) :
 Calls Tryz.prog 107 #[.agg #[.int .i64 k, .int .i64 num, .string nm, .slice ad 2 cap],rv] w fun e w'=>e=.returned (.int .i64 (zEu k v0 v1)) /\ Keeps zA w w':=by
 obtain ⟨res,hres⟩:=eX (zEu k v0 v1);rw [<- hres];have HRES:=Lib.hid hres;clear hres;obtain ⟨g,o,xa0,xc0,rfl,hg0,c0,c1,c2,c3,hxx⟩:=hx.at (i:=0) (Nat.succ_pos _);have H0:Ret w 107 #[.agg #[.int .i64 x0.kind, .int .i64 x0.num, .string x0.nm, .slice xa0 x0.args.length xc0],rv] (.int .i64 v0):=fun W hk=>hv0 W xa0 xc0 hk (zR.keeps hxx hk (fun _ _ h=>h))
 have d0:∀ W,Keeps zA w W -> W.cell? ⟨g,o+0,none⟩=some (.int .i64 x0.kind) /\ W.cell? ⟨g,o+1,none⟩=some (.int .i64 x0.num) /\ W.cell? ⟨g,o+2,none⟩=some (.string x0.nm) /\ W.cell? ⟨g,o+3,none⟩=some (.slice xa0 x0.args.length xc0):=fun W q=>⟨q.cell (fun h=>h) c0,q.cell (fun h=>h) c1,q.cell (fun h=>h) c2,q.cell (fun h=>h) c3⟩
 have HGW0:Hid (g < w.heap.size):=World.block_lt_of_cell? w _ c0;generalize x0.kind=p0 at H0 d0;generalize x0.num=m0 at H0 d0;generalize x0.nm=s0 at H0 d0;generalize x0.args.length=z0 at H0 d0;clear c0 c1 c2 c3 hxx hv0 hg0;obtain ⟨g,o,xa1,xc1,q1,hg1,c0,c1,c2,c3,hxx⟩:=hx.at (i:=1) (Nat.lt_succ_self 1);cases q1;have H1:Ret w 107 #[.agg #[.int .i64 x1.kind, .int .i64 x1.num, .string x1.nm, .slice xa1 x1.args.length xc1],rv] (.int .i64 v1):=fun W hk=>hv1 W xa1 xc1 hk (zR.keeps hxx hk (fun _ _ h=>h))
 have d1:∀ W,Keeps zA w W -> W.cell? ⟨g,o+4,none⟩=some (.int .i64 x1.kind) /\ W.cell? ⟨g,o+5,none⟩=some (.int .i64 x1.num) /\ W.cell? ⟨g,o+6,none⟩=some (.string x1.nm) /\ W.cell? ⟨g,o+7,none⟩=some (.slice xa1 x1.args.length xc1):=fun W q=>⟨q.cell (fun h=>h) c0,q.cell (fun h=>h) c1,q.cell (fun h=>h) c2,q.cell (fun h=>h) c3⟩
 have HGW1:Hid (g < w.heap.size):=World.block_lt_of_cell? w _ c0;generalize x1.kind=p1 at H1 d1;generalize x1.num=m1 at H1 d1;generalize x1.nm=s1 at H1 d1;generalize x1.args.length=z1 at H1 d1;clear c0 c1 c2 c3 hxx hv1 hg1;rw [Nat.add_zero] at d0;clear hx;go_enter Tryz.func107,Tryz.ntmps107
 go_upto_region 1 with fail
 obtain ⟨b1,w1,e1,e2,R1,K1,S1⟩:=newRow w [.int .i64 k, .int .i64 num, .string nm, .slice (some ⟨g,o,none⟩) 2 cap] 144;rw [e1,e2];go_upto_region 2 with fail
 obtain ⟨b2,w2,e3,e4,R2,K2,S2⟩:=newRow w1 [.int .i64 0, .int .i64 0] 251;rw [e3,e4];have N:Hid (w.heap.size <= b2):=by show _ <= _;rw [<- e3];exact K1.size
 have K02:Hid (Keeps zA w w2):=K1.zB K2;have hR1:=Lib.hid (R1.keeps K2 (fun h=>h));have hN1:Hid (b1 < b2):=by show _ < _;rw [<- e3];exact R1.lt (by simp)
 clear e1 e2 e3 e4 S1 S2 K1 K2 R1;have y:=hR1.out.zAh;replace d0:=fun W q=>d0 W (K02.out.zB q)
 replace d1:=fun W q=>d1 W (K02.out.zB q)
 have k2:=zH w2;go_wp2_with fail
 refine wp_loop_rounds 3 ?_
 rw [rounds_succ];go_upto_region 5 with fail
 obtain ⟨b3,w3,e1,e2,R3,K3,S3⟩:=newRow w2 [.int .i64 p0, .int .i64 m0, .string s0, .slice xa0 z0 xc0] 144;rw [e1,e2];have K03:Keeps zA w w3:=K02.out.zB K3;clear e1 e2 S3 k2;have y3:=R3.zAh;have k3:=zH w3;have hf:=zL ((R2.keeps K3 (fun h=>h)).cell (k:=0) rfl);have hz:∀ W,Keeps zA w3 W -> W.frozen? ⟨b2,0,none⟩=false:=fun W q=>((R2.keeps K3 (fun h=>h)).keeps q (fun h=>h)).free (k:=0) (by simp)
 go_upto_region 6 with (go_at_call 107;refine H0.call K03 ?_;intro w4 K04 K34)
 have R4:=((R2.keeps K3 (fun h=>h)).keeps K34 (fun h=>h)).set 0 (by simp) (.int .i64 v0);have K45:Keeps (fun q=>q=b2) w4 (w4.setCell ⟨b2,0,none⟩ (.int .i64 v0)):=(Keeps.refl (fun q=>q=b2) w4).setCell (p:=⟨b2,0,none⟩) (fun _=>rfl) _;generalize w4.setCell ⟨b2,0,none⟩ (.int .i64 v0)=w5_0 at R4 K45 ⊢;have K05:Hid (Keeps zA w w5_0):=K04.trans K45 (fun q hq e=>by have e':q=b2:=e;have:=N.out;omega);have hR5:=Lib.hid (((hR1.out.keeps K3 (fun h=>h)).keeps K34 (fun h=>h)).keeps K45 (fun e=>by have e':b1=b2:=e;have:=hN1.out;omega));have R5:zC w5_0 b2 [.int .i64 v0, .int .i64 0]:=R4;have hg5:¬ g=b2:=by have h2:=N.out;have h3:=HGW0.out;omega
 replace d1:∀ W,Keeps zA w5_0 W -> W.cell? ⟨g,o+4,none⟩=some (.int .i64 p1) /\ W.cell? ⟨g,o+5,none⟩=some (.int .i64 m1) /\ W.cell? ⟨g,o+6,none⟩=some (.string s1) /\ W.cell? ⟨g,o+7,none⟩=some (.slice xa1 z1 xc1):=fun W q=>by obtain ⟨h0,h1,h2,h3⟩:=d1 w4 (K3.zB K34);exact ⟨q.cell (fun h=>h) (K45.cell (p:=⟨g,o+4,none⟩) hg5 h0),q.cell (fun h=>h) (K45.cell (p:=⟨g,o+5,none⟩) hg5 h1),q.cell (fun h=>h) (K45.cell (p:=⟨g,o+6,none⟩) hg5 h2),q.cell (fun h=>h) (K45.cell (p:=⟨g,o+7,none⟩) hg5 h3)⟩
 clear hg5;clear y hf hz y3 k3 K03 K04 R3 R4 hR1 R2 K34 K45 K3 d0 K02;have hR1:=hR5;have R2:=R5;have K02:=K05;clear hR5 R5 K05;have y:=hR1.out.zAh;have k2:=zH w5_0;go_wp2_with fail
 rw [rounds_succ];go_upto_region 5 with fail
 obtain ⟨b3,w3,e1,e2,R3,K3,S3⟩:=newRow w5_0 [.int .i64 p1, .int .i64 m1, .string s1, .slice xa1 z1 xc1] 144;rw [e1,e2];have K03:Keeps zA w w3:=K02.out.zB K3;clear e1 e2 S3 k2;have y3:=R3.zAh;have k3:=zH w3;have hf:=zL ((R2.keeps K3 (fun h=>h)).cell (k:=1) rfl);have hz:∀ W,Keeps zA w3 W -> W.frozen? ⟨b2,1,none⟩=false:=fun W q=>((R2.keeps K3 (fun h=>h)).keeps q (fun h=>h)).free (k:=1) (by simp)
 go_upto_region 6 with (go_at_call 107;refine H1.call K03 ?_;intro w4 K04 K34)
 have R4:=((R2.keeps K3 (fun h=>h)).keeps K34 (fun h=>h)).set 1 (by simp) (.int .i64 v1);have K45:Keeps (fun q=>q=b2) w4 (w4.setCell ⟨b2,1,none⟩ (.int .i64 v1)):=(Keeps.refl (fun q=>q=b2) w4).setCell (p:=⟨b2,1,none⟩) (fun _=>rfl) _;generalize w4.setCell ⟨b2,1,none⟩ (.int .i64 v1)=w5_1 at R4 K45 ⊢;have K05:Hid (Keeps zA w w5_1):=K04.trans K45 (fun q hq e=>by have e':q=b2:=e;have:=N.out;omega);have hR5:=Lib.hid (((hR1.out.keeps K3 (fun h=>h)).keeps K34 (fun h=>h)).keeps K45 (fun e=>by have e':b1=b2:=e;have:=hN1.out;omega));have R5:zC w5_1 b2 [.int .i64 v0, .int .i64 v1]:=R4;clear y hf hz y3 k3 K03 K04 R3 R4 hR1 R2 K34 K45 K3 d1 K02;have hR1:=hR5;have R2:=R5;have K02:=K05;clear hR5 R5 K05;have y:=hR1.out.zAh;have k2:=zH w5_1;go_wp2_with fail
 rw [rounds_succ];have y2:=R2.all2;go_upto_region 7 with fail
 go_quiet (fail)
 have kq:=k2.drewN;by_cases h10:10 <= k
 ·rcases (show k=10 \/ k=11 \/ k=12 \/ k=13 \/ k=14 \/ k=15 \/ k=16 \/ k=17 by omega) with rfl | rfl | rfl | rfl | rfl | rfl | rfl | rfl
  all_goals (
   go_wp2_with (first | (go_at_call 160;refine (zJH _ v0 v1 (by decide) _).mono ?_;rintro e w6 ⟨rfl,rfl⟩) | (go_at_call 159;refine (zIj _ _).mono ?_;rintro e w6 ⟨rfl,rfl⟩))
   go_ret
   exact ⟨by rw [HRES.out,zJ0 v0 v1 (by decide)];rfl,K02.out.drewN _⟩)
 ·rcases (show k=5 \/ k=6 \/ k=7 \/ k=8 \/ k=9 by omega) with rfl | rfl | rfl | rfl | rfl
  ·exact J54 _
  ·exact J54 _
  ·exact J54 _
  all_goals (
   by_cases hz:v1=0
   ·subst hz
    exact J54 _
   ·go_wp2_with fail
    go_ret
    exact ⟨by rw [HRES.out];simp [zEu,w64,hz],K02.out.drewN _⟩)
theorem Ex.zOM (regs:List Int) (x:Ex):x.val regs=if x.kind=1 then x.num else if x.kind=2 then regs.getD x.num.toNat 0 else if x.kind=3 then w64 (-((Ex.zDQ regs x.args).getD 0 0)) else if x.kind=4 then zD3 (decide ((Ex.zDQ regs x.args).getD 0 0=0)) else zEu x.kind ((Ex.zDQ regs x.args).getD 0 0) ((Ex.zDQ regs x.args).getD 1 0):=by
 cases x;rw [Ex.val];rfl
theorem zMF (regs:List Int) (n:Int) (rv:Value) (hl:regs.length=n.toNat):∀ (x:Ex) (w:World) (F:Nat -> Prop) (ad:Option Addr) (cap:Nat),zR w F x.args ad -> zU w rv regs.length (ints regs) -> x.may n=true →
 Calls Tryz.prog 107 #[exV x ad cap,rv] w fun e w'=>e=.returned (.int .i64 (x.val regs)) /\ Keeps zA w w':=by
 refine Ex.ind (fun k num nm l ih w F ad cap h hr hm=>?_)
 obtain ⟨h1,h2⟩:=Ex.zCu hm;have hlf:zx k num nm l.length n=true:=h1;have hml:Ex.zq n l=true:=h2;have hL:zR w F l ad:=h;rw [Ex.zOM];show Calls _ _ #[.agg #[.int .i64 k, .int .i64 num, .string nm, .slice ad l.length cap],_] _ (fun e w'=>e=.returned (.int .i64 (if k=1 then num else if k=2 then regs.getD num.toNat 0 else if k=3 then w64 (-((Ex.zDQ regs l).getD 0 0)) else if k=4 then zD3 (decide ((Ex.zDQ regs l).getD 0 0=0)) else zEu k ((Ex.zDQ regs l).getD 0 0) ((Ex.zDQ regs l).getD 1 0))) /\ _)
 have hsub:∀ y,y ∈ l -> ∀ W xa xc,Keeps zA w W -> zR W F y.args xa -> Calls Tryz.prog 107 #[exV y xa xc,rv] W fun e w'=>e=.returned (.int .i64 (y.val regs)) /\ Keeps zA W w':=fun y hy W xa xc hk hx=>ih y hy W F xa xc hx (hr.keeps hk (fun _ _ h=>h)) (Ex.zCP hml hy)
 rcases zBt hlf with ⟨rfl,h0⟩ | ⟨rfl,h0,h3,h4⟩ | ⟨hk,h0⟩ | ⟨k1,k2,h0⟩
 ·rw [h0]
  have:=zG0 1 num nm regs n w ad cap rv hr hl (.inl rfl)
  simpa using this
 ·rw [h0]
  have:=zG0 2 num nm regs n w ad cap rv hr hl (.inr ⟨rfl,h3,h4⟩)
  simpa using this
 ·match l,h0,hL,hsub with
  | [x0],_,hL,hsub =>
    have:=val_one k num nm x0 w F ad cap rv (x0.val regs) hL (hsub x0 (by simp)) hk
    rcases hk with rfl | rfl
    ·simpa [zHd,Ex.zDQ] using this
    ·simpa [zHd,Ex.zDQ] using this
 ·match l,h0,hL,hsub with
  | [x0,x1],_,hL,hsub =>
    have:=val_two k num nm x0 x1 w F ad cap rv (x0.val regs) (x1.val regs) hL (hsub x0 (by simp)) (hsub x1 (by simp)) ⟨k1,k2⟩
    rw [if_neg (by omega),if_neg (by omega),if_neg (by omega),if_neg (by omega)];simpa [Ex.zDQ] using this
theorem zU.nums {w:World} {v:Value} {xs:List Int} (h:zU w v xs.length (ints xs)):∃ ad cap,v=.slice ad xs.length cap /\ ∀ k,k < xs.length -> ∃ g o,ad=some ⟨g,o,none⟩ /\ w.cell? ⟨g,o+k,none⟩=some (.int .i64 (xs.getD k 0)):=by
 exact J93 _
structure LIn where
 op:Int
 a:Int
 b:Int
 c:Int
def LIn.cells (x:LIn):List Value:=[.int .i64 x.op, .int .i64 x.a, .int .i64 x.b, .int .i64 x.c]
def zDC (m:Int) (rs:List Int):Int:=rs.foldl (fun m r=>max m (wrap64 (r+1))) m
structure zBG (w:World) (b:Nat) (rg mo:Int) (v:Value) (l:List LIn):Prop where
 row:zC w b [.int .i64 rg, .int .i64 mo,v]
 own:w.ownsRow 0 158 4 v l.length (l.flatMap LIn.cells)
 ne:∀ q,v.ownBlock=some q -> q ≠ b
 form:∃ la lc,v=.slice la l.length lc
theorem zEf:(Tryz.prog.info? 158).map (fun i=>(i.zero,i.size,i.bytes))=some (some (.agg #[.int .i64 0, .int .i64 0, .int .i64 0, .int .i64 0]),4,32):=by kernel_rfl
theorem zIQ {m:Int} {rs:List Int} {i:Nat} (h:i < rs.length):zDC m (rs.take (i+1))=max (zDC m (rs.take i)) (wrap64 (rs.getD i 0+1)):=by
 rw [take_at h,zDC,List.foldl_append];simp [zDC,List.getD,h]
theorem zHL {w:World} {b:Nat} {rg mo:Int} {v:Value} {l:List LIn} (h:zBG w b rg mo v l) (x:LIn) (rs:List Int) (ra:Option Addr) (rc:Nat) (hr:zU w (.slice ra rs.length rc) rs.length (ints rs)) (hl:l.length < 1000000) (hb:b < w.heap.size) (hrb:∀ g o,ra=some ⟨g,o,none⟩ -> g ≠ b) (hrl:rs.length < 1000) :
 Calls Tryz.prog 71 #[.pointer (some ⟨b,0,none⟩), .agg #[.int .i64 x.op, .int .i64 x.a, .int .i64 x.b, .int .i64 x.c], .slice ra rs.length rc] w fun e w'=>∃ v',e=.returned (.int .i64 (l.length:Int)) /\ zBG w' b rg (zDC mo rs) v' (l++[x]) /\ (∀ q,v'.ownBlock=some q -> v.ownBlock=some q \/ w.heap.size <= q) /\ Keeps (fun q=>q=b \/ v.ownBlock=some q) w w':=by
 obtain ⟨la,lc,rfl⟩:=h.form;obtain ⟨n,hn⟩:=eX l.length;obtain ⟨nr,hnr⟩:=eX rs.length;have HC:Hid (zBG w b rg mo (.slice la n lc) l):=by show zBG _ _ _ _ _ _;rw [hn];exact h
 have HR:Hid (∀ j,j < nr -> ∃ g o,ra=some ⟨g,o,none⟩ /\ g ≠ b /\ w.cell? ⟨g,o+j,none⟩=some (.int .i64 (rs.getD j 0))):=fun j hj=>by
  obtain ⟨ad,cap,e,h1⟩:=hr.nums;cases e;obtain ⟨g,o,e,c⟩:=h1 j (by omega);exact ⟨g,o,e,hrb g o e,c⟩
 have HN:Hid (n=l.length /\ nr=rs.length):=⟨hn,hnr⟩;have HB:Hid (b < w.heap.size /\ n < 1000000):=⟨hb,by omega⟩;have hn6:n < 1000000:=by omega
 have hrl':nr < 1000:=by omega
 obtain ⟨j0,hj0,hy0,hy1,hy2⟩:=info_parts zEf;rw [<- hn,<- hnr];clear h hr hl hb hrb hrl hn hnr;go_enter Tryz.func71,Tryz.ntmps71
 go_upto_region 1 with fail
 obtain ⟨b4,w1,e1,e2,R1,K1,_⟩:=newRow w [.int .i64 x.op, .int .i64 x.a, .int .i64 x.b, .int .i64 x.c] 158;try rw [e1]
 try rw [e2]
 have HR1:=Lib.hid R1;have HK1:=Lib.hid K1;have HB4:Hid (b4=w.heap.size /\ b4 < w1.heap.size):=⟨e1.symm,R1.lt (by simp)⟩;clear e1 e2 R1 K1;go_wp2_with fail
 go_loopw [11] (fun kv wr=>∃ i:Nat,i <= nr /\ kv=.int .i64 i /\ Hid (zC wr b [.int .i64 rg, .int .i64 (zDC mo (rs.take i)), .slice la n lc] /\ Keeps (fun q=>q=b) w1 wr)) (fun kv _=>nr - (intOf kv).toNat)
 case atStart=>exact ⟨0,Nat.zero_le _,rfl,HC.out.row.keeps HK1.out (fun h=>h),Keeps.refl _ _⟩
 case round =>
  obtain ⟨i,hi,rfl,HP⟩:=hrel;have y:=HP.out.1.zAo;have kr:=zH wr;by_cases hlt:i < nr
  ·have i1:(0:Int) <= i:=by omega
   have i2:(i:Int) < nr:=by omega
   obtain ⟨g,o,rfl,hgb,c0⟩:=HR.out i hlt;have d:=HP.out.2.cell (p:=⟨g,o+i,none⟩) (fun e=>hgb e) (HK1.out.cell (fun h=>h) c0);have HM:Hid (zDC mo (rs.take (i+1))=max (zDC mo (rs.take i)) (wrap64 (rs.getD i 0+1))):=zIQ (by have:=HN.out.2;omega);have f1:=HP.out.1.free (k:=1) (by simp);generalize rs.getD i 0=r at d HM;generalize zDC mo (rs.take i)=mm at y HM HP;clear c0 hgb;go_wp2_with fail
   have hrow:=HP.out.1.set 1 (by simp) (.int .i64 (max mm (wrap64 (r+1))));exact ⟨⟨i+1,by omega,by go_num,by rw [HM.out];exact hrow,HP.out.2.setCell (p:=⟨b,1,none⟩) (fun _=>rfl) _⟩,by simp [intOf];omega⟩
  ·obtain rfl:i=nr:=by omega
   have HX:=Lib.hid (HR1.out.keeps HP.out.2 (fun e=>by have e':b4=b:=e;have:=HB.out.1;have:=HB4.out.1;omega));have HKX:=Lib.hid (zH wr);have HT:Hid (rs.take i=rs):=by show _=_;rw [HN.out.2,List.take_length]
   have HPP:Hid (zC wr b [.int .i64 rg, .int .i64 (zDC mo rs), .slice la n lc] /\ Keeps (fun q=>q=b) w1 wr):=by have h:=HP.out;rw [HT.out] at h;exact h
   have HOW:Hid (wr.ownsRow 0 158 4 (.slice la n lc) n (l.flatMap LIn.cells)):=by
    have h:=HC.out.own;rw [<- HN.out.1] at h;exact zF (zF h HK1.out (fun _ _ h=>h)) HP.out.2 (fun q e e2=>HC.out.ne q e e2)
   have yx:=HX.out.zAh;rw [HT.out] at y;clear HP HT;go_upto_region 6 with fail
   refine zCG 7 0 (by kernel_rfl) [some (.pointer (some ⟨b,0,none⟩)),some (.pointer (some ⟨b,0,none⟩)),some (.pointer (some ⟨b,0,none⟩)),some (.pointer (some ⟨b,2,none⟩)),some (.slice la n lc),some (.agg #[.int .i64 x.op, .int .i64 x.a, .int .i64 x.b, .int .i64 x.c]),none] rfl (fun j v W=>∃ g,v=.slice (some ⟨g,0,none⟩) 1 1 /\ zC W g [.int .i64 x.op, .int .i64 x.a, .int .i64 x.b, .int .i64 x.c]) (fun j v W W' h hk=>by exact J165 _) _ rfl (fun _ _ _ _ h=>h) _ rfl (fun _ _ _=>by exact J156 _) ?_ ?_
   ·refine ⟨?_,?_,?_,?_,?_,?_,?_,trivial⟩ <;> (intro vs gs W Q' hR hd hK;have HRW:Keeps zA wr W:=((zH wr).drew).zB hR;have kx:=HKX.out.zB HRW;simp only [zA1,zAg,zBQ,zJ,tz,Option.bind,Act.put] at hd hK ⊢;try simp only [hd] at hK ⊢)
    all_goals try (try clear hd;go_wp2_with (fail);first | exact hK _ _ (Keeps.refl _ _) rfl)
    ·clear hd
     go_wp2_with fail
     exact hK _ _ ((Keeps.refl zA W).alloc (.cells #[.int .i64 x.op, .int .i64 x.a, .int .i64 x.b, .int .i64 x.c] 158)) (by show ∃ g,_;exact ⟨_,rfl,zC.zG (heap_alloc_new W _)⟩)
   ·intro vs W hR hFF
    have HRW:Keeps zA wr W:=((zH wr).drew).zB hR;obtain ⟨g,e6,rg'⟩:=(hFF 6 (by decide):∃ g,vs 6=.slice (some ⟨g,0,none⟩) 1 1 /\ zC W g [.int .i64 x.op, .int .i64 x.a, .int .i64 x.b, .int .i64 x.c]);have e0:vs 0=_:=hFF 0 (by decide);have e4:vs 4=_:=hFF 4 (by decide);simp only [zJ,tz,Option.bind,Act.put];rw [e0,e4,e6];have HRG:=Lib.hid rg';have HKW:=Lib.hid HRW;have HBW:=Lib.hid (HPP.out.1.keeps HRW (fun h=>h));have HOWW:=Lib.hid (zF HOW.out HRW (fun _ _ h=>h));clear hFF e0 e4 e6 rg' hR HRW y yx kr;go_upto_region 7 with (at_builtin;refine zI _ (by rfl) _ _ 152 (by rfl) 0 158 j0 _ 4 32 Tryz.underlying152 hj0 hy0 hy1 hy2 rfl (by decide) (.slice la n lc) n (l.flatMap LIn.cells) (by rfl) (HOWW.out) (.slice (some ⟨g,0,none⟩) 1 1) 1 [.int .i64 x.op, .int .i64 x.a, .int .i64 x.b, .int .i64 x.c] (by rfl) (zC.src HRG.out) rfl (by simp [Value.oneCell']) (by unfold maxLen;omega) (by omega) (Nat.zero_le _) ?_;intro ad8 cap8 w8 hout;have HO8:=Lib.hid hout;have zr:=HBW.out.keeps (zi.keeps hout (Keeps.refl (fun q=>(Value.slice la n lc).ownBlock=some q) _) (fun q e _=>e)) (fun e=>HC.out.ne b e rfl);have zc:=zr.cell (k:=2) rfl;have zf:=zr.free (k:=2) (by simp);have HZR:=Lib.hid zr;clear hout zr)
    have hrow:=HZR.out.set 2 (by simp) (.slice ad8 (n+1) cap8);have kS:Keeps (fun q=>q=b) w8 (w8.setCell ⟨b,2,none⟩ (.slice ad8 (n+1) cap8)):=(Keeps.refl (fun q=>q=b) w8).setCell (p:=⟨b,2,none⟩) (fun _=>rfl) _;have hrow:zC (w8.setCell ⟨b,2,none⟩ (.slice ad8 (n+1) cap8)) b [.int .i64 rg, .int .i64 (zDC mo rs), .slice ad8 (n+1) cap8]:=hrow;generalize w8.setCell ⟨b,2,none⟩ (.slice ad8 (n+1) cap8)=w9 at hrow kS ⊢;have HROW:=Lib.hid hrow;have HKS:=Lib.hid kS;have y9:=hrow.zAo;have k9:=zH w9;clear hrow kS zc zf;go_wp2_with fail
    go_ret
    have hwW:Keeps (fun q=>q=b) w W:=((HK1.out.mono (fun _ _ h=>h.elim)).trans HPP.out.2 (fun _ _ h=>h)).trans HKW.out (fun _ _ h=>h.elim);have hnew:∀ q,(Value.slice ad8 (n+1) cap8).ownBlock=some q -> (Value.slice la n lc).ownBlock=some q \/ w.heap.size <= q:=fun q e=>(HO8.out.2.2 q e).imp (fun h=>h) (fun h=>by have:=hwW.size;omega)
    refine ⟨.slice ad8 (n+1) cap8,by go_num,⟨HROW.out,?_,fun q e e2=>?_,ad8,cap8,by rw [List.length_append,<- HN.out.1];rfl⟩,hnew,(hwW.mono (fun _ _ h=>.inl h)).trans ((zi.keeps HO8.out (Keeps.refl (fun q=>(Value.slice la n lc).ownBlock=some q) _) (fun q e _=>e)).mono (fun _ _ h=>.inr h)|>.trans (HKS.out.mono (fun _ _ h=>.inl h)) (fun _ _ h=>h)) (fun _ _ h=>h)⟩
    ·have h:=zF HO8.out.1 HKS.out (fun q e e2=>by
      have e2':q=b:=e2;rcases hnew q e with g1 | g1
      ·exact HC.out.ne q g1 e2'
      ·have:=HB.out.1;omega)
     rw [List.length_append,<- HN.out.1,List.flatMap_append];simpa [LIn.cells] using h
    ·rcases hnew q e with g1 | g1
     ·exact HC.out.ne q g1 e2
     ·have:=HB.out.1;omega
def Mine (b:Nat) (v:Value) (q:Nat):Prop:=q=b \/ v.ownBlock=some q
structure zK (w:World) (b:Nat) (v:Value) (w':World) (v':Value):Prop where
 own:∀ q,v'.ownBlock=some q -> v.ownBlock=some q \/ w.heap.size <= q
 keeps:Keeps (Mine b v) w w'
theorem zK.refl {w:World} {b:Nat} {v:Value}:zK w b v w v:=⟨fun _ h=>.inl h,Keeps.refl _ _⟩
theorem zK.trans {w w1 w2:World} {b:Nat} {v v1 v2:Value} (hb:b < w.heap.size) (h:zK w b v w1 v1) (h':zK w1 b v1 w2 v2):zK w b v w2 v2:=by
 have hs:=h.keeps.size;refine ⟨fun q e=>?_,h.keeps.trans h'.keeps (fun q hq e=>?_)⟩
 ·rcases h'.own q e with e | e
  ·exact h.own q e
  ·exact .inr (by omega)
 ·rcases e with e | e
  ·exact .inl e
  ·rcases h.own q e with e | e
   ·exact .inr e
   ·omega
theorem zK.pre {w w1 w2:World} {b:Nat} {v v2:Value} (hk:Keeps zA w w1) (h':zK w1 b v w2 v2):zK w b v w2 v2 :=
 ⟨fun q e=>(h'.own q e).imp (fun h=>h) (fun h=>Nat.le_trans hk.size h),(hk.mono (fun _ _ h=>h.elim)).trans h'.keeps (fun _ _ h=>h)⟩
theorem zK.post {w w1 w2:World} {b:Nat} {v v1:Value} (h:zK w b v w1 v1) (hk:Keeps zA w1 w2):zK w b v w2 v1 :=
 ⟨h.own,h.keeps.trans hk (fun _ _ h=>h.elim)⟩
theorem zK.not {w w':World} {b:Nat} {v v':Value} (h:zK w b v w' v') {q:Nat} (hq:q < w.heap.size) (hn:¬ Mine b v q):¬ Mine b v' q:=fun e=>by
 rcases e with e | e
 ·exact hn (.inl e)
 ·rcases h.own q e with e | e
  ·exact hn (.inr e)
  ·omega
def zAt (w:World) (b:Nat) (v:Value) (F:Nat -> Prop):Prop:=∀ q,F q -> q < w.heap.size /\ ¬ Mine b v q
theorem zAt.run {w w':World} {b:Nat} {v v':Value} {F:Nat -> Prop} (h:zAt w b v F) (hr:zK w b v w' v'):zAt w' b v' F:=fun q hq =>
 ⟨Nat.lt_of_lt_of_le (h q hq).1 hr.keeps.size,hr.not (h q hq).1 (h q hq).2⟩
theorem zAt.zD {w w':World} {b:Nat} {v:Value} {F:Nat -> Prop} (h:zAt w b v F) (hk:Keeps zA w w'):zAt w' b v F:=fun q hq=>⟨Nat.lt_of_lt_of_le (h q hq).1 hk.size,(h q hq).2⟩
def zN (w:World) (b:Nat) (v:Value) (rg:Int) (n:Nat):Prop:=∃ mo l,zBG w b rg mo v l /\ l.length=n
theorem zBG.keeps {S:Nat -> Prop} {w w':World} {b:Nat} {rg mo:Int} {v:Value} {l:List LIn} (h:zBG w b rg mo v l) (hk:Keeps S w w') (hb:¬ S b) (hv:∀ q,v.ownBlock=some q -> ¬ S q):zBG w' b rg mo v l :=
 ⟨h.row.keeps hk hb,zF h.own hk hv,h.ne,h.form⟩
theorem zN.zD {w w':World} {b n:Nat} {v:Value} {rg:Int} (h:zN w b v rg n) (hk:Keeps zA w w'):zN w' b v rg n:=by
 obtain ⟨mo,l,h1,h2⟩:=h;exact ⟨mo,l,h1.keeps hk (fun h=>h) (fun _ _ h=>h),h2⟩
theorem zN.lt {w:World} {b n:Nat} {v:Value} {rg:Int} (h:zN w b v rg n):b < w.heap.size:=by
 obtain ⟨mo,l,h1,_⟩:=h;exact h1.row.lt (by simp)
theorem zN.zLl {w:World} {b n:Nat} {v:Value} {rg:Int} (h:zN w b v rg n) {q:Nat} (hq:Mine b v q):q < w.heap.size:=by
 obtain ⟨mo,l,h1,_⟩:=h;rcases hq with rfl | hq
 ·exact h1.row.lt (by simp)
 ·exact zS h1.own hq
theorem zN.regs {w:World} {b n:Nat} {v:Value} {rg:Int} (h:zN w b v rg n):w.cell? ⟨b,0,none⟩=some (.int .i64 rg):=by
 obtain ⟨mo,l,h1,_⟩:=h;exact h1.row.cell (k:=0) rfl
theorem zN.new {w:World} {b n:Nat} {v:Value} {rg:Int} (h:zN w b v rg n) {q:Nat} (hq:w.heap.size <= q):¬ Mine b v q:=fun e=>by
 have:=h.zLl e;omega
theorem zBb (x:LIn):x.cells.length=4:=rfl
theorem zN.at {w:World} {b n:Nat} {v:Value} {rg:Int} (h:zN w b v rg n) {i:Nat} (hi:i < n):∃ g cap,v=.slice (some ⟨g,0,none⟩) n cap /\ w.cell? ⟨b,2,none⟩=some (.slice (some ⟨g,0,none⟩) n cap) /\ (∀ j,j < 4 -> ∃ u,w.cell? ⟨g,i*4+j,none⟩=some u) /\ (∀ j,w.frozen? ⟨g,j,none⟩=false) ∧
 ∀ j,j < 4 -> ∀ u:Int,zN (w.setCell ⟨g,i*4+j,none⟩ (.int .i64 u)) b v rg n /\ zK w b v (w.setCell ⟨g,i*4+j,none⟩ (.int .i64 u)) v:=by
 obtain ⟨mo,l,h1,rfl⟩:=h;obtain ⟨la,lc,rfl⟩:=h1.form;have hne:l ≠ []:=fun e=>by subst e;simp at hi
 rcases h1.own.2 with ⟨e,h0⟩ | ⟨g,cap,cur,e,h5,hg,hn,hm,_⟩
 ·simp at e;exact absurd e.2.1 hne
 ·simp only [Value.slice.injEq,true_and] at e
  obtain ⟨rfl,rfl⟩:=e;have hgb:g ≠ b:=h1.ne g rfl;have hx:l[i]?=some l[i]:=List.getElem?_eq_getElem hi;refine ⟨g,lc,rfl,h1.row.cell (k:=2) rfl,fun j hj=>?_,fun j=>frozen_of_row w g j cur _ hg,fun j hj u=>?_⟩
  ·exact J55 _
  ·have hk:Keeps (fun q=>q=g) w (w.setCell ⟨g,i*4+j,none⟩ (.int .i64 u)):=(Keeps.refl (fun q=>q=g) w).setCell (p:=⟨g,i*4+j,none⟩) (fun _=>rfl) _
   refine ⟨?_,⟨fun _ h=>.inl h,hk.mono (fun q _ e=>.inr (by have e':q=g:=e;rw [e'];rfl))⟩⟩
   obtain ⟨y,hy⟩:∃ y:LIn,y.cells=l[i].cells.set j (.int .i64 u):=by
    exact J61 _
   refine ⟨mo,l.set i y,⟨h1.row.keeps hk (fun e=>hgb e.symm),?_,h1.ne,_,_,by rw [List.length_set]⟩,List.length_set⟩
   exact J91 _
def zh (M:World -> Nat -> Value -> Int -> Nat -> Prop) (w:World) (b:Nat) (v:Value) (rg:Int) (n m:Nat) (r:Value) (e:Ending) (w':World):Prop :=
 ∃ v' n',e=.returned r /\ n <= n' /\ n' <= n+m /\ M w' b v' rg n' /\ zK w b v w' v'
theorem zO4 {w:World} {b n:Nat} {v:Value} {rg:Int} (h:zN w b v rg n) (x:LIn) (rs:List Int) (ra:Option Addr) (rc:Nat) (hr:zU w (.slice ra rs.length rc) rs.length (ints rs)) (hn:n < 1000000) (hrb:∀ g o,ra=some ⟨g,o,none⟩ -> g ≠ b) (hrl:rs.length < 1000) :
 Calls Tryz.prog 71 #[.pointer (some ⟨b,0,none⟩), .agg #[.int .i64 x.op, .int .i64 x.a, .int .i64 x.b, .int .i64 x.c], .slice ra rs.length rc] w fun e w'=>∃ v',e=.returned (.int .i64 n) /\ zN w' b v' rg (n+1) /\ zK w b v w' v':=by
 obtain ⟨mo,l,h1,rfl⟩:=h;refine (zHL h1 x rs ra rc hr hn (h1.row.lt (by simp)) hrb hrl).mono ?_
 rintro e w' ⟨v',he,hc,hq,hk⟩
 exact ⟨v',he,⟨_,_,hc,by simp⟩,hq,hk⟩
theorem zBR {w:World} {b n:Nat} {v:Value} {rg:Int} (h:zN w b v rg n) (x:LIn) (rs:List Int) (T:TypeId) (hn:n < 1000000) (hrl:rs.length < 1000) :
 Calls Tryz.prog 71 #[.pointer (some ⟨b,0,none⟩), .agg #[.int .i64 x.op, .int .i64 x.a, .int .i64 x.b, .int .i64 x.c], .slice (some ⟨w.heap.size,0,none⟩) rs.length rs.length] (w.alloc (.cells (ints rs).toArray T)) fun e w'=>∃ v',e=.returned (.int .i64 n) /\ zN w' b v' rg (n+1) /\ zK w b v w' v':=by
 have hk:Keeps zA w (w.alloc (.cells (ints rs).toArray T)):=(Keeps.refl _ _).alloc _;have hR:zC (w.alloc (.cells (ints rs).toArray T)) w.heap.size (ints rs):=zC.zG (heap_alloc_new w _);refine (zO4 (h.zD hk) x rs _ rs.length (zC.src hR) hn (fun g o e=>?_) hrl).mono ?_
 ·have:=h.lt
  simp only [Option.some.injEq,Addr.mk.injEq] at e;omega
 ·rintro e w' ⟨v',he,hc,hq⟩
  exact ⟨v',he,hc,zK.pre hk hq⟩
theorem zFa {w:World} {b n:Nat} {v:Value} {rg:Int} (h:zN w b v rg n) (x:LIn) (hn:n < 1000000) :
 Calls Tryz.prog 71 #[.pointer (some ⟨b,0,none⟩), .agg #[.int .i64 x.op, .int .i64 x.a, .int .i64 x.b, .int .i64 x.c], .slice none 0 0] w fun e w'=>∃ v',e=.returned (.int .i64 n) /\ zN w' b v' rg (n+1) /\ zK w b v w' v' :=
 zO4 h x [] none 0 ⟨none,0,rfl,fun h=>absurd rfl h⟩ hn (fun g o e=>by cases e) (by decide)
structure zHk (w:World) (b:Nat) (rg:Int) (v:Value) (l:List LIn):Prop where
 row:zC w b [.int .i64 rg,v]
 own:w.ownsRow 0 158 4 v l.length (l.flatMap LIn.cells)
 ne:∀ q,v.ownBlock=some q -> q ≠ b
 form:∃ la lc,v=.slice la l.length lc
theorem zHk.keeps {S:Nat -> Prop} {w w':World} {b:Nat} {rg:Int} {v:Value} {l:List LIn} (h:zHk w b rg v l) (hk:Keeps S w w') (hb:¬ S b) (hv:∀ q,v.ownBlock=some q -> ¬ S q):zHk w' b rg v l :=
 ⟨h.row.keeps hk hb,zF h.own hk hv,h.ne,h.form⟩
theorem zK9 {w:World} {b:Nat} {rg:Int} {v:Value} {l:List LIn} (h:zHk w b rg v l) (x:LIn) (hl:l.length < 1000000) :
 Calls Tryz.prog 77 #[.pointer (some ⟨b,0,none⟩), .int .i64 x.op, .int .i64 x.a, .int .i64 x.b, .int .i64 x.c] w fun e w'=>∃ v',e=.returned (.int .i64 (l.length:Int)) /\ zHk w' b rg v' (l++[x]) /\ zK w b v w' v':=by
 obtain ⟨la,lc,rfl⟩:=h.form;obtain ⟨n,hn⟩:=eX l.length;have HC:Hid (zHk w b rg (.slice la n lc) l):=by show zHk _ _ _ _ _;rw [hn];exact h
 have HN:=Lib.hid hn;have hn6:n < 1000000:=by omega
 have hb:=h.row.lt (by simp);have HB:=Lib.hid hb;obtain ⟨j0,hj0,hy0,hy1,hy2⟩:=info_parts zEf;rw [<- hn];have y:=HC.out.row.all2;have k0:=zH w;clear h hl hn hb;go_enter Tryz.func77,Tryz.ntmps77
 go_upto_region 2 with (at_builtin;obtain ⟨g,w1,e1,e2,R1,K1,_⟩:=newRow w [.int .i64 x.op, .int .i64 x.a, .int .i64 x.b, .int .i64 x.c] 158;rw [e1,e2];have HG:Hid (g=w.heap.size):=e1.symm;have HR1:=Lib.hid R1;have HK1:=Lib.hid K1;have HOW1:=Lib.hid (zF HC.out.own K1 (fun _ _ h=>h));rw [<- HN.out] at HOW1;have HBW1:=Lib.hid (HC.out.row.keeps K1 (fun h=>h));clear e1 e2 R1 K1 y k0;refine zI _ (by rfl) _ _ 152 (by rfl) 0 158 j0 _ 4 32 Tryz.underlying152 hj0 hy0 hy1 hy2 rfl (by decide) (.slice la n lc) n (l.flatMap LIn.cells) (by rfl) (HOW1.out) (.slice (some ⟨g,0,none⟩) 1 1) 1 [.int .i64 x.op, .int .i64 x.a, .int .i64 x.b, .int .i64 x.c] (by rfl) (zC.src HR1.out) rfl (by simp [Value.oneCell']) (by unfold maxLen;omega) (by omega) (Nat.zero_le _) ?_;intro ad8 cap8 w8 hout;have HO8:=Lib.hid hout;have zr:=HBW1.out.keeps (zi.keeps hout (Keeps.refl (fun q=>(Value.slice la n lc).ownBlock=some q) _) (fun q e _=>e)) (fun e=>HC.out.ne b e rfl);have zc:=zr.cell (k:=1) rfl;have zf:=zr.free (k:=1) (by simp);have HZR:=Lib.hid zr;clear hout zr)
 have hrow:=HZR.out.set 1 (by simp) (.slice ad8 (n+1) cap8);have kS:Keeps (fun q=>q=b) w8 (w8.setCell ⟨b,1,none⟩ (.slice ad8 (n+1) cap8)):=(Keeps.refl (fun q=>q=b) w8).setCell (p:=⟨b,1,none⟩) (fun _=>rfl) _;have hrow:zC (w8.setCell ⟨b,1,none⟩ (.slice ad8 (n+1) cap8)) b [.int .i64 rg, .slice ad8 (n+1) cap8]:=hrow;generalize w8.setCell ⟨b,1,none⟩ (.slice ad8 (n+1) cap8)=w9 at hrow kS ⊢;have HROW:=Lib.hid hrow;have HKS:=Lib.hid kS;have y9:=hrow.all2;have k9:=zH w9;clear hrow kS zc zf;go_wp2_with fail
 go_ret
 have hnew:∀ q,(Value.slice ad8 (n+1) cap8).ownBlock=some q -> (Value.slice la n lc).ownBlock=some q \/ w.heap.size <= q:=fun q e=>(HO8.out.2.2 q e).imp (fun h=>h) (fun h=>by have:=HK1.out.size;omega)
 refine ⟨.slice ad8 (n+1) cap8,by go_num,⟨HROW.out,?_,fun q e e2=>?_,ad8,cap8,by rw [List.length_append,<- HN.out];rfl⟩,hnew,?_⟩
 ·have h:=zF HO8.out.1 HKS.out (fun q e e2=>by
   have e2':q=b:=e2;rcases hnew q e with g1 | g1
   ·exact HC.out.ne q g1 e2'
   ·have:=HB.out;omega)
  rw [List.length_append,<- HN.out,List.flatMap_append];simpa [LIn.cells] using h
 ·rcases hnew q e with g1 | g1
  ·exact HC.out.ne q g1 e2
  ·have:=HB.out;omega
 ·exact (HK1.out.mono (fun _ _ h=>h.elim)).trans (((zi.keeps HO8.out (Keeps.refl (fun q=>(Value.slice la n lc).ownBlock=some q) _) (fun q e _=>e)).mono (fun _ _ h=>.inr h):Keeps (Mine b (.slice la n lc)) w1 w8).trans (HKS.out.mono (fun _ _ h=>.inl h):Keeps (Mine b (.slice la n lc)) w8 w9) (fun _ _ h=>h)) (fun _ _ h=>h)
def zAB (w:World) (b:Nat) (v:Value) (rg:Int) (n:Nat):Prop:=∃ l,zHk w b rg v l /\ l.length=n
theorem zAB.zD {w w':World} {b n:Nat} {v:Value} {rg:Int} (h:zAB w b v rg n) (hk:Keeps zA w w'):zAB w' b v rg n:=by
 obtain ⟨l,h1,h2⟩:=h;exact ⟨l,h1.keeps hk (fun h=>h) (fun _ _ h=>h),h2⟩
theorem zAB.lt {w:World} {b n:Nat} {v:Value} {rg:Int} (h:zAB w b v rg n):b < w.heap.size:=by
 obtain ⟨l,h1,_⟩:=h;exact h1.row.lt (by simp)
theorem zAB.zLl {w:World} {b n:Nat} {v:Value} {rg:Int} (h:zAB w b v rg n) {q:Nat} (hq:Mine b v q):q < w.heap.size:=by
 obtain ⟨l,h1,_⟩:=h;rcases hq with rfl | hq
 ·exact h1.row.lt (by simp)
 ·exact zS h1.own hq
theorem zAB.regs {w:World} {b n:Nat} {v:Value} {rg:Int} (h:zAB w b v rg n):w.cell? ⟨b,0,none⟩=some (.int .i64 rg):=by
 obtain ⟨l,h1,_⟩:=h;exact h1.row.cell (k:=0) rfl
theorem zAB.new {w:World} {b n:Nat} {v:Value} {rg:Int} (h:zAB w b v rg n) {q:Nat} (hq:w.heap.size <= q):¬ Mine b v q:=fun e=>by
 have:=h.zLl e;omega
theorem zAB.at {w:World} {b n:Nat} {v:Value} {rg:Int} (h:zAB w b v rg n) {i:Nat} (hi:i < n):∃ g cap,v=.slice (some ⟨g,0,none⟩) n cap /\ w.cell? ⟨b,1,none⟩=some (.slice (some ⟨g,0,none⟩) n cap) /\ (∀ j,j < 4 -> ∃ u,w.cell? ⟨g,i*4+j,none⟩=some u) /\ (∀ j,w.frozen? ⟨g,j,none⟩=false) ∧
 ∀ j,j < 4 -> ∀ u:Int,zAB (w.setCell ⟨g,i*4+j,none⟩ (.int .i64 u)) b v rg n /\ zK w b v (w.setCell ⟨g,i*4+j,none⟩ (.int .i64 u)) v:=by
 obtain ⟨l,h1,rfl⟩:=h;obtain ⟨la,lc,rfl⟩:=h1.form;have hne:l ≠ []:=fun e=>by subst e;simp at hi
 rcases h1.own.2 with ⟨e,h0⟩ | ⟨g,cap,cur,e,h5,hg,hn,hm,_⟩
 ·simp at e;exact absurd e.2.1 hne
 ·simp only [Value.slice.injEq,true_and] at e
  obtain ⟨rfl,rfl⟩:=e;have hgb:g ≠ b:=h1.ne g rfl;have hx:l[i]?=some l[i]:=List.getElem?_eq_getElem hi;refine ⟨g,lc,rfl,h1.row.cell (k:=1) rfl,fun j hj=>?_,fun j=>frozen_of_row w g j cur _ hg,fun j hj u=>?_⟩
  ·exact J55 _
  ·have hk:Keeps (fun q=>q=g) w (w.setCell ⟨g,i*4+j,none⟩ (.int .i64 u)):=(Keeps.refl (fun q=>q=g) w).setCell (p:=⟨g,i*4+j,none⟩) (fun _=>rfl) _
   refine ⟨?_,⟨fun _ h=>.inl h,hk.mono (fun q _ e=>.inr (by have e':q=g:=e;rw [e'];rfl))⟩⟩
   obtain ⟨y,hy⟩:∃ y:LIn,y.cells=l[i].cells.set j (.int .i64 u):=by
    exact J61 _
   refine ⟨l.set i y,⟨h1.row.keeps hk (fun e=>hgb e.symm),?_,h1.ne,_,_,by rw [List.length_set]⟩,List.length_set⟩
   exact J91 _
theorem zBn {w:World} {b n:Nat} {v:Value} {rg:Int} (h:zAB w b v rg n) (x:LIn) (hn:n < 1000000) :
 Calls Tryz.prog 77 #[.pointer (some ⟨b,0,none⟩), .int .i64 x.op, .int .i64 x.a, .int .i64 x.b, .int .i64 x.c] w fun e w'=>∃ v',e=.returned (.int .i64 n) /\ zAB w' b v' rg (n+1) /\ zK w b v w' v':=by
 obtain ⟨l,h1,rfl⟩:=h;refine (zK9 h1 x hn).mono ?_
 rintro e w' ⟨v',he,hc,hr⟩
 exact ⟨v',he,⟨_,hc,by simp⟩,hr⟩
end Go.Proofs.YtoapgjjepiopbaaGreatDoor
