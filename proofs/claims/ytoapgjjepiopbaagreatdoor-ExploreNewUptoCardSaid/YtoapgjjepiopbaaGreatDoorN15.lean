/- Layer N: texts joined. -/
import Derived.Test.YtoapgjjepiopbaaGreatDoorN14
import Derived.Handy
set_option linter.all false
set_option maxHeartbeats 4000000
set_option maxRecDepth 8000
namespace Go.Proofs.YtoapgjjepiopbaaGreatDoor
open Go.RowKit
theorem J26 (P:Prop) (h:P:=by
 go_upto_region 7 with (go_at_call 161;refine (H0.out _ _ _ _ HS0.out.1 (HX0'.out.keeps HS0.out.2.keeps (fun q hq=>(HFF.out q hq).2)) (HFF.out.run HS0.out.2) (by omega)).mono ?_;rintro e w2 ⟨v1,t1,rfl,l1,u1,h2,r2⟩;have HS1:=Lib.hid (And.intro h2 (zK.trans hlt1 HS0.out.2 r2));clear y d0 k1 h2 r2;have y:=(HR1.out.keeps HS1.out.2.keeps hb1).zAh;have k1:=zH w2)
 go_wp2_with (go_at_call 71;refine (zBR HS1.out.1 ⟨_,_,_,_⟩ [k] _ (by omega) (by simp)).mono ?_;rintro e w9 ⟨v9,rfl,h2,r2⟩;have H2:=Lib.hid (And.intro h2 (zK.pre HK1.out (zK.trans hlt1 HS1.out.2 r2)));clear h2 r2 y k1)
 go_returns
 exact ⟨v9,t1+1,rfl,by omega,by omega,H2.out⟩):P:=h
theorem J50 (P:Prop) (h:P:=by
 go_wp2_with (go_at_call 77;refine (zBn HS1.out.1 ⟨_,_,_,_⟩ (by omega)).mono ?_;rintro e w9 ⟨v9,rfl,h2,r2⟩;have H2:=Lib.hid (And.intro h2 (zK.pre HK1.out (zK.trans hlt1 HS1.out.2 r2)));clear h2 r2 y k1)
 go_returns
 exact ⟨v9,t1+1,rfl,by omega,by omega,H2.out⟩):P:=h
theorem J77 (P:Prop) (h:P:=by
 go_returns
 exact ⟨v9,n+1,rfl,by omega,by omega,H2.out⟩):P:=h
theorem J190 (P:Prop) (h:P:=by rw [HB1.out];exact H.out.new (Nat.le_refl _)):P:=h
theorem zFK {w:World} {b n:Nat} {v:Value} {rg:Int} (h:zAB w b v rg n) (k kd num:Int) (nm:ByteArray) (ad:Option Addr) (m cap:Nat) (hn:n < 1000000) (hk:kd=1 \/ kd=2) :
 Calls Tryz.prog 125 #[.pointer (some ⟨b,0,none⟩), .agg #[.int .i64 kd, .int .i64 num, .string nm, .slice ad m cap], .int .i64 k] w (zh zAB w b v rg n 1 (.tuple #[])):=by
 have H:=Lib.hid h;clear h;go_enter Tryz.func125,Tryz.ntmps125
 go_upto_region 1 with fail
 obtain ⟨b1,w1,e1,e2,R1,K1,_⟩:=newRow w [.int .i64 kd, .int .i64 num, .string nm, .slice ad m cap] 144;rw [e1,e2];have HB1:Hid (b1=w.heap.size):=e1.symm;have HR1:=Lib.hid R1;have HK1:=Lib.hid K1;have y:=R1.zAh;have k1:=zH w1;clear e1 e2 R1 K1;rcases hk with rfl | rfl
 ·go_wp2_with (go_at_call 77;refine (zBn (H.out.zD HK1.out) ⟨1,k,num,0⟩ hn).mono ?_;rintro e w9 ⟨v9,rfl,h2,r2⟩;have H2:=Lib.hid (And.intro h2 (zK.pre HK1.out r2));clear h2 r2 y k1)
  exact J77 _
 ·go_wp2_with (go_at_call 77;refine (zBn (H.out.zD HK1.out) ⟨2,k,num,0⟩ hn).mono ?_;rintro e w9 ⟨v9,rfl,h2,r2⟩;have H2:=Lib.hid (And.intro h2 (zK.pre HK1.out r2));clear h2 r2 y k1)
  exact J77 _
theorem zJh {w:World} {b n:Nat} {v:Value} {rg:Int} (h:zAB w b v rg n) (k kd num:Int) (nm:ByteArray) (x0:Ex) (F:Nat -> Prop) (ad:Option Addr) (cap m0:Nat) (hx:zR w F [x0] ad) (hF:zAt w b v F)
 (hv0:∀ W v n k xa xc,zAB W b v rg n -> zR W F x0.args xa -> zAt W b v F -> n+m0 < 1000000 -> Calls Tryz.prog 125 #[.pointer (some ⟨b,0,none⟩),exV x0 xa xc, .int .i64 k] W (zh zAB W b v rg n m0 (.tuple #[])))
 (hn:n+(m0+1) < 1000000) (hk:kd=3 \/ kd=4) :
 Calls Tryz.prog 125 #[.pointer (some ⟨b,0,none⟩), .agg #[.int .i64 kd, .int .i64 num, .string nm, .slice ad 1 cap], .int .i64 k] w (zh zAB w b v rg n (m0+1) (.tuple #[])):=by
 obtain ⟨g,o,xa0,xc0,rfl,hg0,c0,c1,c2,c3,hx0⟩:=hx.at (i:=0) (Nat.succ_pos _);have H0:Hid (∀ W v n k,zAB W b v rg n -> zR W F x0.args xa0 -> zAt W b v F -> n+m0 < 1000000 -> Calls Tryz.prog 125 #[.pointer (some ⟨b,0,none⟩), .agg #[.int .i64 x0.kind, .int .i64 x0.num, .string x0.nm, .slice xa0 x0.args.length xc0], .int .i64 k] W (zh zAB W b v rg n m0 (.tuple #[]))):=fun W v n k a1 a2 a3 a4=>hv0 W v n k xa0 xc0 a1 a2 a3 a4
 have HX0:=Lib.hid hx0;have d0:∀ S W,Keeps S w W -> ¬ S g -> W.cell? ⟨g,o+0,none⟩=some (.int .i64 x0.kind) /\ W.cell? ⟨g,o+1,none⟩=some (.int .i64 x0.num) /\ W.cell? ⟨g,o+2,none⟩=some (.string x0.nm) /\ W.cell? ⟨g,o+3,none⟩=some (.slice xa0 x0.args.length xc0):=fun S W q hS=>⟨q.cell hS c0,q.cell hS c1,q.cell hS c2,q.cell hS c3⟩
 generalize x0.kind=p0 at H0 d0;generalize x0.num=n0 at H0 d0;generalize x0.nm=s0 at H0 d0;generalize x0.args.length=z0 at H0 d0;clear c0 c1 c2 c3 hv0 hx0;rw [Nat.add_zero] at d0;have hnm:=(hF g hg0).2;have H:=Lib.hid h;have HF:=Lib.hid hF;have HD0:=Lib.hid d0;clear h hF hx d0;go_enter Tryz.func125,Tryz.ntmps125
 go_upto_region 1 with fail
 obtain ⟨b1,w1,e1,e2,R1,K1,_⟩:=newRow w [.int .i64 kd, .int .i64 num, .string nm, .slice (some ⟨g,o,none⟩) 1 cap] 144;rw [e1,e2];have HB1:Hid (b1=w.heap.size):=e1.symm;have HR1:=Lib.hid R1;have HK1:=Lib.hid K1;have y:=R1.zAh;have k1:=zH w1;clear e1 e2 R1 K1;have hb1:¬ Mine b v b1:=J190 _;have HFF:Hid (zAt w1 b v F):=HF.out.zD HK1.out;have HX0':=Lib.hid (HX0.out.keeps HK1.out (fun _ _ h=>h));have HS0:Hid (zAB w1 b v rg n /\ zK w1 b v w1 v):=⟨H.out.zD HK1.out,zK.refl⟩;have hlt1:b < w1.heap.size:=HS0.out.1.lt;have d0:=fun (W:World) (q:Keeps zA w1 W)=>HD0.out zA W (HK1.out.zB q) (fun h=>h)
 rcases hk with rfl | rfl
 ·go_upto_region 11 with (go_at_call 125;refine (H0.out _ _ _ _ HS0.out.1 (HX0'.out.keeps HS0.out.2.keeps (fun q hq=>(HFF.out q hq).2)) (HFF.out.run HS0.out.2) (by omega)).mono ?_;rintro e w2 ⟨v1,t1,rfl,l1,u1,h2,r2⟩;have HS1:=Lib.hid (And.intro h2 (zK.trans hlt1 HS0.out.2 r2));clear y d0 k1 h2 r2;have y:=(HR1.out.keeps HS1.out.2.keeps hb1).zAh;have k1:=zH w2)
  exact J50 _
 ·go_upto_region 14 with (go_at_call 125;refine (H0.out _ _ _ _ HS0.out.1 (HX0'.out.keeps HS0.out.2.keeps (fun q hq=>(HFF.out q hq).2)) (HFF.out.run HS0.out.2) (by omega)).mono ?_;rintro e w2 ⟨v1,t1,rfl,l1,u1,h2,r2⟩;have HS1:=Lib.hid (And.intro h2 (zK.trans hlt1 HS0.out.2 r2));clear y d0 k1 h2 r2;have y:=(HR1.out.keeps HS1.out.2.keeps hb1).zAh;have k1:=zH w2)
  exact J50 _
theorem zJz {w:World} {b n:Nat} {v:Value} {rg:Int} (h:zAB w b v rg n) (k kd num:Int) (nm:ByteArray) (x0 x1:Ex) (F:Nat -> Prop) (ad:Option Addr) (cap m0 m1:Nat) (hx:zR w F [x0,x1] ad) (hF:zAt w b v F)
 (hv0:∀ W v n k xa xc,zAB W b v rg n -> zR W F x0.args xa -> zAt W b v F -> n+m0 < 1000000 -> Calls Tryz.prog 125 #[.pointer (some ⟨b,0,none⟩),exV x0 xa xc, .int .i64 k] W (zh zAB W b v rg n m0 (.tuple #[])))
 (hv1:∀ W v n k xa xc,zAB W b v rg n -> zR W F x1.args xa -> zAt W b v F -> n+m1 < 1000000 -> Calls Tryz.prog 125 #[.pointer (some ⟨b,0,none⟩),exV x1 xa xc, .int .i64 k] W (zh zAB W b v rg n m1 (.tuple #[])))
 (hn:n+(m0+m1+1) < 1000000) (hk:5 <= kd /\ kd <= 17) :
 Calls Tryz.prog 125 #[.pointer (some ⟨b,0,none⟩), .agg #[.int .i64 kd, .int .i64 num, .string nm, .slice ad 2 cap], .int .i64 k] w (zh zAB w b v rg n (m0+m1+1) (.tuple #[])):=by
 obtain ⟨g,o,xa0,xc0,rfl,hg0,c0,c1,c2,c3,hx0⟩:=hx.at (i:=0) (Nat.succ_pos _);have H0:Hid (∀ W v n k,zAB W b v rg n -> zR W F x0.args xa0 -> zAt W b v F -> n+m0 < 1000000 -> Calls Tryz.prog 125 #[.pointer (some ⟨b,0,none⟩), .agg #[.int .i64 x0.kind, .int .i64 x0.num, .string x0.nm, .slice xa0 x0.args.length xc0], .int .i64 k] W (zh zAB W b v rg n m0 (.tuple #[]))):=fun W v n k a1 a2 a3 a4=>hv0 W v n k xa0 xc0 a1 a2 a3 a4
 have HX0:=Lib.hid hx0;have d0:∀ S W,Keeps S w W -> ¬ S g -> W.cell? ⟨g,o+0,none⟩=some (.int .i64 x0.kind) /\ W.cell? ⟨g,o+1,none⟩=some (.int .i64 x0.num) /\ W.cell? ⟨g,o+2,none⟩=some (.string x0.nm) /\ W.cell? ⟨g,o+3,none⟩=some (.slice xa0 x0.args.length xc0):=fun S W q hS=>⟨q.cell hS c0,q.cell hS c1,q.cell hS c2,q.cell hS c3⟩
 generalize x0.kind=p0 at H0 d0;generalize x0.num=n0 at H0 d0;generalize x0.nm=s0 at H0 d0;generalize x0.args.length=z0 at H0 d0;clear c0 c1 c2 c3 hv0 hx0;obtain ⟨g,o,xa1,xc1,q1,hg1,c0,c1,c2,c3,hx1⟩:=hx.at (i:=1) (Nat.lt_succ_self 1);cases q1;have H1:Hid (∀ W v n k,zAB W b v rg n -> zR W F x1.args xa1 -> zAt W b v F -> n+m1 < 1000000 -> Calls Tryz.prog 125 #[.pointer (some ⟨b,0,none⟩), .agg #[.int .i64 x1.kind, .int .i64 x1.num, .string x1.nm, .slice xa1 x1.args.length xc1], .int .i64 k] W (zh zAB W b v rg n m1 (.tuple #[]))):=fun W v n k a1 a2 a3 a4=>hv1 W v n k xa1 xc1 a1 a2 a3 a4
 have HX1:=Lib.hid hx1;have d1:∀ S W,Keeps S w W -> ¬ S g -> W.cell? ⟨g,o+4,none⟩=some (.int .i64 x1.kind) /\ W.cell? ⟨g,o+5,none⟩=some (.int .i64 x1.num) /\ W.cell? ⟨g,o+6,none⟩=some (.string x1.nm) /\ W.cell? ⟨g,o+7,none⟩=some (.slice xa1 x1.args.length xc1):=fun S W q hS=>⟨q.cell hS c0,q.cell hS c1,q.cell hS c2,q.cell hS c3⟩
 generalize x1.kind=p1 at H1 d1;generalize x1.num=n1 at H1 d1;generalize x1.nm=s1 at H1 d1;generalize x1.args.length=z1 at H1 d1;clear c0 c1 c2 c3 hv1 hx1;rw [Nat.add_zero] at d0;have hnm:=(hF g hg0).2;have H:=Lib.hid h;have HF:=Lib.hid hF;have HD0:=Lib.hid d0;have HD1:=Lib.hid d1;clear h hF hx d0 d1;go_enter Tryz.func125,Tryz.ntmps125
 go_upto_region 1 with fail
 obtain ⟨b1,w1,e1,e2,R1,K1,_⟩:=newRow w [.int .i64 kd, .int .i64 num, .string nm, .slice (some ⟨g,o,none⟩) 2 cap] 144;rw [e1,e2];have HB1:Hid (b1=w.heap.size):=e1.symm;have HR1:=Lib.hid R1;have HK1:=Lib.hid K1;have y:=R1.zAh;have k1:=zH w1;clear e1 e2 R1 K1;have hb1:¬ Mine b v b1:=J190 _;have HFF:Hid (zAt w1 b v F):=HF.out.zD HK1.out;have HX0':=Lib.hid (HX0.out.keeps HK1.out (fun _ _ h=>h));have HX1':=Lib.hid (HX1.out.keeps HK1.out (fun _ _ h=>h));have HS0:Hid (zAB w1 b v rg n /\ zK w1 b v w1 v):=⟨H.out.zD HK1.out,zK.refl⟩;have hlt1:b < w1.heap.size:=HS0.out.1.lt;have d0:=fun (W:World) (q:Keeps zA w1 W)=>HD0.out zA W (HK1.out.zB q) (fun h=>h)
 obtain ⟨hk5,hk17⟩:=hk;have kb1:(kd==1)=false:=J154 _;have kb2:(kd==2)=false:=J154 _;have kb3:(kd==3)=false:=J154 _;have kb4:(kd==4)=false:=J154 _;go_upto_region 3 with (go_at_call 125;refine (H0.out _ _ _ _ HS0.out.1 (HX0'.out.keeps HS0.out.2.keeps (fun q hq=>(HFF.out q hq).2)) (HFF.out.run HS0.out.2) (by omega)).mono ?_;rintro e w2 ⟨v1,t1,rfl,l1,u1,h2,r2⟩;have HS1:=Lib.hid (And.intro h2 (zK.trans hlt1 HS0.out.2 r2));clear y d0 k1 h2 r2;have y:=(HR1.out.keeps HS1.out.2.keeps hb1).zAh;have k1:=zH w2;have d1:=fun (W:World) (q:Keeps zA w2 W)=>HD1.out (Mine b v) W ((HK1.out.mono (fun _ _ h=>h.elim)).trans (HS1.out.2.keeps.trans q (fun _ _ h=>h.elim)) (fun _ _ h=>h)) hnm)
 go_upto_region 4 with (go_at_call 125;refine (H1.out _ _ _ _ HS1.out.1 (HX1'.out.keeps HS1.out.2.keeps (fun q hq=>(HFF.out q hq).2)) (HFF.out.run HS1.out.2) (by omega)).mono ?_;rintro e w3 ⟨v2,t2,rfl,l2,u2,h2,r2⟩;have HS2:=Lib.hid (And.intro h2 (zK.trans hlt1 HS1.out.2 r2));clear y d1 k1 h2 r2;have y:=(HR1.out.keeps HS2.out.2.keeps hb1).zAh;have k1:=zH w3)
 go_wp2_with (go_at_call 77;refine (zBn HS2.out.1 ⟨_,_,_,_⟩ (by omega)).mono ?_;rintro e w9 ⟨v9,rfl,h2,r2⟩;have H2:=Lib.hid (And.intro h2 (zK.pre HK1.out (zK.trans hlt1 HS2.out.2 r2)));clear h2 r2 y k1)
 go_returns
 exact ⟨v9,t2+1,rfl,by omega,by omega,H2.out⟩
theorem zJg (b:Nat) (rg regs:Int) (F:Nat -> Prop):∀ (x:Ex) (w:World) (v:Value) (n:Nat) (k:Int) (ad:Option Addr) (cap:Nat),zAB w b v rg n -> zR w F x.args ad -> zAt w b v F -> x.may regs=true -> n+x.cnt < 1000000 →
 Calls Tryz.prog 125 #[.pointer (some ⟨b,0,none⟩),exV x ad cap, .int .i64 k] w (zh zAB w b v rg n x.cnt (.tuple #[])):=by
 refine Ex.ind (fun kd num nm l ih w v n k ad cap h hx hF hm hn=>?_)
 obtain ⟨h1,h2⟩:=Ex.zCu hm;have hlf:zx kd num nm l.length regs=true:=h1;have hml:Ex.zq regs l=true:=h2;have hL:zR w F l ad:=hx;have hc:(Ex.mk kd num nm l).cnt=Ex.zM l+1:=by rw [Ex.cnt];omega
 rw [hc] at hn ⊢;show Calls _ _ #[.pointer (some ⟨b,0,none⟩), .agg #[.int .i64 kd, .int .i64 num, .string nm, .slice ad l.length cap], .int .i64 k] _ _
 have hsub:∀ y,y ∈ l -> ∀ W v n k xa xc,zAB W b v rg n -> zR W F y.args xa -> zAt W b v F -> n+y.cnt < 1000000 -> Calls Tryz.prog 125 #[.pointer (some ⟨b,0,none⟩),exV y xa xc, .int .i64 k] W (zh zAB W b v rg n y.cnt (.tuple #[])):=fun y hy W v n k xa xc g1 g2 g3 g4=>ih y hy W v n k xa xc g1 g2 g3 (Ex.zCP hml hy) g4
 rcases zBt hlf with ⟨rfl,h0⟩ | ⟨rfl,h0,_,_⟩ | ⟨hk,h0⟩ | ⟨k1,k2,h0⟩
 ·rw [List.eq_nil_of_length_eq_zero h0]
  exact zFK h k 1 num nm ad _ cap (by omega) (.inl rfl)
 ·rw [List.eq_nil_of_length_eq_zero h0]
  exact zFK h k 2 num nm ad _ cap (by omega) (.inr rfl)
 ·match l,h0,hL,hsub,hn with
  | [x0],_,hL,hsub,hn =>
    simp only [Ex.zM,Nat.add_zero] at hn ⊢;exact zJh h k kd num nm x0 F ad cap x0.cnt hL hF (hsub x0 (by simp)) hn hk
 ·match l,h0,hL,hsub,hn with
  | [x0,x1],_,hL,hsub,hn =>
    simp only [Ex.zM,Nat.add_zero] at hn ⊢;exact zJz h k kd num nm x0 x1 F ad cap x0.cnt x1.cnt hL hF (hsub x0 (by simp)) (hsub x1 (by simp)) hn ⟨k1,k2⟩
theorem zGH {w:World} {b n:Nat} {v:Value} {rg:Int} (h:zN w b v rg n) (k kd num:Int) (nm:ByteArray) (ad:Option Addr) (m cap:Nat) (hn:n < 1000000) (hk:kd=1 \/ kd=2) :
 Calls Tryz.prog 161 #[.pointer (some ⟨b,0,none⟩), .int .i64 k, .agg #[.int .i64 kd, .int .i64 num, .string nm, .slice ad m cap]] w (zh zN w b v rg n 1 (.tuple #[])):=by
 have H:=Lib.hid h;clear h;go_enter Tryz.func161,Tryz.ntmps161
 go_upto_region 1 with fail
 obtain ⟨b1,w1,e1,e2,R1,K1,_⟩:=newRow w [.int .i64 kd, .int .i64 num, .string nm, .slice ad m cap] 144;rw [e1,e2];have HB1:Hid (b1=w.heap.size):=e1.symm;have HR1:=Lib.hid R1;have HK1:=Lib.hid K1;have y:=R1.zAh;have k1:=zH w1;clear e1 e2 R1 K1;rcases hk with rfl | rfl
 ·go_wp2_with (go_at_call 71;refine (zBR (H.out.zD HK1.out) ⟨1,k,num,0⟩ [k] _ hn (by simp)).mono ?_;rintro e w9 ⟨v9,rfl,h2,r2⟩;have H2:=Lib.hid (And.intro h2 (zK.pre HK1.out r2));clear h2 r2 y k1)
  exact J77 _
 ·go_wp2_with (go_at_call 71;refine (zBR (H.out.zD HK1.out) ⟨2,k,num,0⟩ [k,num] _ hn (by simp)).mono ?_;rintro e w9 ⟨v9,rfl,h2,r2⟩;have H2:=Lib.hid (And.intro h2 (zK.pre HK1.out r2));clear h2 r2 y k1)
  exact J77 _
theorem zLb {w:World} {b n:Nat} {v:Value} {rg:Int} (h:zN w b v rg n) (k kd num:Int) (nm:ByteArray) (x0:Ex) (F:Nat -> Prop) (ad:Option Addr) (cap m0:Nat) (hx:zR w F [x0] ad) (hF:zAt w b v F)
 (hv0:∀ W v n k xa xc,zN W b v rg n -> zR W F x0.args xa -> zAt W b v F -> n+m0 < 1000000 -> Calls Tryz.prog 161 #[.pointer (some ⟨b,0,none⟩), .int .i64 k,exV x0 xa xc] W (zh zN W b v rg n m0 (.tuple #[])))
 (hn:n+(m0+1) < 1000000) (hk:kd=3 \/ kd=4) :
 Calls Tryz.prog 161 #[.pointer (some ⟨b,0,none⟩), .int .i64 k, .agg #[.int .i64 kd, .int .i64 num, .string nm, .slice ad 1 cap]] w (zh zN w b v rg n (m0+1) (.tuple #[])):=by
 obtain ⟨g,o,xa0,xc0,rfl,hg0,c0,c1,c2,c3,hx0⟩:=hx.at (i:=0) (Nat.succ_pos _);have H0:Hid (∀ W v n k,zN W b v rg n -> zR W F x0.args xa0 -> zAt W b v F -> n+m0 < 1000000 -> Calls Tryz.prog 161 #[.pointer (some ⟨b,0,none⟩), .int .i64 k, .agg #[.int .i64 x0.kind, .int .i64 x0.num, .string x0.nm, .slice xa0 x0.args.length xc0]] W (zh zN W b v rg n m0 (.tuple #[]))):=fun W v n k a1 a2 a3 a4=>hv0 W v n k xa0 xc0 a1 a2 a3 a4
 have HX0:=Lib.hid hx0;have d0:∀ S W,Keeps S w W -> ¬ S g -> W.cell? ⟨g,o+0,none⟩=some (.int .i64 x0.kind) /\ W.cell? ⟨g,o+1,none⟩=some (.int .i64 x0.num) /\ W.cell? ⟨g,o+2,none⟩=some (.string x0.nm) /\ W.cell? ⟨g,o+3,none⟩=some (.slice xa0 x0.args.length xc0):=fun S W q hS=>⟨q.cell hS c0,q.cell hS c1,q.cell hS c2,q.cell hS c3⟩
 generalize x0.kind=p0 at H0 d0;generalize x0.num=n0 at H0 d0;generalize x0.nm=s0 at H0 d0;generalize x0.args.length=z0 at H0 d0;clear c0 c1 c2 c3 hv0 hx0;rw [Nat.add_zero] at d0;have hnm:=(hF g hg0).2;have H:=Lib.hid h;have HF:=Lib.hid hF;have HD0:=Lib.hid d0;clear h hF hx d0;go_enter Tryz.func161,Tryz.ntmps161
 go_upto_region 1 with fail
 obtain ⟨b1,w1,e1,e2,R1,K1,_⟩:=newRow w [.int .i64 kd, .int .i64 num, .string nm, .slice (some ⟨g,o,none⟩) 1 cap] 144;rw [e1,e2];have HB1:Hid (b1=w.heap.size):=e1.symm;have HR1:=Lib.hid R1;have HK1:=Lib.hid K1;have y:=R1.zAh;have k1:=zH w1;clear e1 e2 R1 K1;have hb1:¬ Mine b v b1:=J190 _;have HFF:Hid (zAt w1 b v F):=HF.out.zD HK1.out;have HX0':=Lib.hid (HX0.out.keeps HK1.out (fun _ _ h=>h));have HS0:Hid (zN w1 b v rg n /\ zK w1 b v w1 v):=⟨H.out.zD HK1.out,zK.refl⟩;have hlt1:b < w1.heap.size:=HS0.out.1.lt;have d0:=fun (W:World) (q:Keeps zA w1 W)=>HD0.out zA W (HK1.out.zB q) (fun h=>h)
 rcases hk with rfl | rfl
 ·exact J26 _
 ·exact J26 _
theorem zKX {w:World} {b n:Nat} {v:Value} {rg:Int} (h:zN w b v rg n) (k kd num:Int) (nm:ByteArray) (x0 x1:Ex) (F:Nat -> Prop) (ad:Option Addr) (cap m0 m1:Nat) (hx:zR w F [x0,x1] ad) (hF:zAt w b v F)
 (hv0:∀ W v n k xa xc,zN W b v rg n -> zR W F x0.args xa -> zAt W b v F -> n+m0 < 1000000 -> Calls Tryz.prog 161 #[.pointer (some ⟨b,0,none⟩), .int .i64 k,exV x0 xa xc] W (zh zN W b v rg n m0 (.tuple #[])))
 (hv1:∀ W v n k xa xc,zN W b v rg n -> zR W F x1.args xa -> zAt W b v F -> n+m1 < 1000000 -> Calls Tryz.prog 161 #[.pointer (some ⟨b,0,none⟩), .int .i64 k,exV x1 xa xc] W (zh zN W b v rg n m1 (.tuple #[])))
 (hn:n+(m0+m1+1) < 1000000) (hk:5 <= kd /\ kd <= 17) :
 Calls Tryz.prog 161 #[.pointer (some ⟨b,0,none⟩), .int .i64 k, .agg #[.int .i64 kd, .int .i64 num, .string nm, .slice ad 2 cap]] w (zh zN w b v rg n (m0+m1+1) (.tuple #[])):=by
 obtain ⟨g,o,xa0,xc0,rfl,hg0,c0,c1,c2,c3,hx0⟩:=hx.at (i:=0) (Nat.succ_pos _);have H0:Hid (∀ W v n k,zN W b v rg n -> zR W F x0.args xa0 -> zAt W b v F -> n+m0 < 1000000 -> Calls Tryz.prog 161 #[.pointer (some ⟨b,0,none⟩), .int .i64 k, .agg #[.int .i64 x0.kind, .int .i64 x0.num, .string x0.nm, .slice xa0 x0.args.length xc0]] W (zh zN W b v rg n m0 (.tuple #[]))):=fun W v n k a1 a2 a3 a4=>hv0 W v n k xa0 xc0 a1 a2 a3 a4
 have HX0:=Lib.hid hx0;have d0:∀ S W,Keeps S w W -> ¬ S g -> W.cell? ⟨g,o+0,none⟩=some (.int .i64 x0.kind) /\ W.cell? ⟨g,o+1,none⟩=some (.int .i64 x0.num) /\ W.cell? ⟨g,o+2,none⟩=some (.string x0.nm) /\ W.cell? ⟨g,o+3,none⟩=some (.slice xa0 x0.args.length xc0):=fun S W q hS=>⟨q.cell hS c0,q.cell hS c1,q.cell hS c2,q.cell hS c3⟩
 generalize x0.kind=p0 at H0 d0;generalize x0.num=n0 at H0 d0;generalize x0.nm=s0 at H0 d0;generalize x0.args.length=z0 at H0 d0;clear c0 c1 c2 c3 hv0 hx0;obtain ⟨g,o,xa1,xc1,q1,hg1,c0,c1,c2,c3,hx1⟩:=hx.at (i:=1) (Nat.lt_succ_self 1);cases q1;have H1:Hid (∀ W v n k,zN W b v rg n -> zR W F x1.args xa1 -> zAt W b v F -> n+m1 < 1000000 -> Calls Tryz.prog 161 #[.pointer (some ⟨b,0,none⟩), .int .i64 k, .agg #[.int .i64 x1.kind, .int .i64 x1.num, .string x1.nm, .slice xa1 x1.args.length xc1]] W (zh zN W b v rg n m1 (.tuple #[]))):=fun W v n k a1 a2 a3 a4=>hv1 W v n k xa1 xc1 a1 a2 a3 a4
 have HX1:=Lib.hid hx1;have d1:∀ S W,Keeps S w W -> ¬ S g -> W.cell? ⟨g,o+4,none⟩=some (.int .i64 x1.kind) /\ W.cell? ⟨g,o+5,none⟩=some (.int .i64 x1.num) /\ W.cell? ⟨g,o+6,none⟩=some (.string x1.nm) /\ W.cell? ⟨g,o+7,none⟩=some (.slice xa1 x1.args.length xc1):=fun S W q hS=>⟨q.cell hS c0,q.cell hS c1,q.cell hS c2,q.cell hS c3⟩
 generalize x1.kind=p1 at H1 d1;generalize x1.num=n1 at H1 d1;generalize x1.nm=s1 at H1 d1;generalize x1.args.length=z1 at H1 d1;clear c0 c1 c2 c3 hv1 hx1;rw [Nat.add_zero] at d0;have hnm:=(hF g hg0).2;have H:=Lib.hid h;have HF:=Lib.hid hF;have HD0:=Lib.hid d0;have HD1:=Lib.hid d1;clear h hF hx d0 d1;go_enter Tryz.func161,Tryz.ntmps161
 go_upto_region 1 with fail
 obtain ⟨b1,w1,e1,e2,R1,K1,_⟩:=newRow w [.int .i64 kd, .int .i64 num, .string nm, .slice (some ⟨g,o,none⟩) 2 cap] 144;rw [e1,e2];have HB1:Hid (b1=w.heap.size):=e1.symm;have HR1:=Lib.hid R1;have HK1:=Lib.hid K1;have y:=R1.zAh;have k1:=zH w1;clear e1 e2 R1 K1;have hb1:¬ Mine b v b1:=J190 _;have HFF:Hid (zAt w1 b v F):=HF.out.zD HK1.out;have HX0':=Lib.hid (HX0.out.keeps HK1.out (fun _ _ h=>h));have HX1':=Lib.hid (HX1.out.keeps HK1.out (fun _ _ h=>h));have HS0:Hid (zN w1 b v rg n /\ zK w1 b v w1 v):=⟨H.out.zD HK1.out,zK.refl⟩;have hlt1:b < w1.heap.size:=HS0.out.1.lt;have d0:=fun (W:World) (q:Keeps zA w1 W)=>HD0.out zA W (HK1.out.zB q) (fun h=>h)
 obtain ⟨hk5,hk17⟩:=hk;have kb1:(kd==1)=false:=J154 _;have kb2:(kd==2)=false:=J154 _;go_upto_region 7 with (go_at_call 161;refine (H0.out _ _ _ _ HS0.out.1 (HX0'.out.keeps HS0.out.2.keeps (fun q hq=>(HFF.out q hq).2)) (HFF.out.run HS0.out.2) (by omega)).mono ?_;rintro e w2 ⟨v1,t1,rfl,l1,u1,h2,r2⟩;have HS1:=Lib.hid (And.intro h2 (zK.trans hlt1 HS0.out.2 r2));clear y d0 k1 h2 r2;have y:=(HR1.out.keeps HS1.out.2.keeps hb1).zAh;have k1:=zH w2;have d1:=fun (W:World) (q:Keeps zA w2 W)=>HD1.out (Mine b v) W ((HK1.out.mono (fun _ _ h=>h.elim)).trans (HS1.out.2.keeps.trans q (fun _ _ h=>h.elim)) (fun _ _ h=>h)) hnm)
 go_upto_region 11 with (go_at_call 161;refine (H1.out _ _ _ _ HS1.out.1 (HX1'.out.keeps HS1.out.2.keeps (fun q hq=>(HFF.out q hq).2)) (HFF.out.run HS1.out.2) (by omega)).mono ?_;rintro e w3 ⟨v2,t2,rfl,l2,u2,h2,r2⟩;have HS2:=Lib.hid (And.intro h2 (zK.trans hlt1 HS1.out.2 r2));clear y d1 k1 h2 r2;have y:=(HR1.out.keeps HS2.out.2.keeps hb1).zAh;have k1:=zH w3)
 go_wp2_with (go_at_call 71;refine (zBR HS2.out.1 ⟨_,_,_,_⟩ [k,_] _ (by omega) (by simp)).mono ?_;rintro e w9 ⟨v9,rfl,h2,r2⟩;have H2:=Lib.hid (And.intro h2 (zK.pre HK1.out (zK.trans hlt1 HS2.out.2 r2)));clear h2 r2 y k1)
 go_returns
 exact ⟨v9,t2+1,rfl,by omega,by omega,H2.out⟩
theorem zLc (b:Nat) (rg regs:Int) (F:Nat -> Prop):∀ (x:Ex) (w:World) (v:Value) (n:Nat) (k:Int) (ad:Option Addr) (cap:Nat),zN w b v rg n -> zR w F x.args ad -> zAt w b v F -> x.may regs=true -> n+x.cnt < 1000000 →
 Calls Tryz.prog 161 #[.pointer (some ⟨b,0,none⟩), .int .i64 k,exV x ad cap] w (zh zN w b v rg n x.cnt (.tuple #[])):=by
 refine Ex.ind (fun kd num nm l ih w v n k ad cap h hx hF hm hn=>?_)
 obtain ⟨h1,h2⟩:=Ex.zCu hm;have hlf:zx kd num nm l.length regs=true:=h1;have hml:Ex.zq regs l=true:=h2;have hL:zR w F l ad:=hx;have hc:(Ex.mk kd num nm l).cnt=Ex.zM l+1:=by rw [Ex.cnt];omega
 rw [hc] at hn ⊢;show Calls _ _ #[.pointer (some ⟨b,0,none⟩), .int .i64 k, .agg #[.int .i64 kd, .int .i64 num, .string nm, .slice ad l.length cap]] _ _
 have hsub:∀ y,y ∈ l -> ∀ W v n k xa xc,zN W b v rg n -> zR W F y.args xa -> zAt W b v F -> n+y.cnt < 1000000 -> Calls Tryz.prog 161 #[.pointer (some ⟨b,0,none⟩), .int .i64 k,exV y xa xc] W (zh zN W b v rg n y.cnt (.tuple #[])):=fun y hy W v n k xa xc g1 g2 g3 g4=>ih y hy W v n k xa xc g1 g2 g3 (Ex.zCP hml hy) g4
 rcases zBt hlf with ⟨rfl,h0⟩ | ⟨rfl,h0,_,_⟩ | ⟨hk,h0⟩ | ⟨k1,k2,h0⟩
 ·rw [List.eq_nil_of_length_eq_zero h0]
  exact zGH h k 1 num nm ad _ cap (by omega) (.inl rfl)
 ·rw [List.eq_nil_of_length_eq_zero h0]
  exact zGH h k 2 num nm ad _ cap (by omega) (.inr rfl)
 ·match l,h0,hL,hsub,hn with
  | [x0],_,hL,hsub,hn =>
    simp only [Ex.zM,Nat.add_zero] at hn ⊢;exact zLb h k kd num nm x0 F ad cap x0.cnt hL hF (hsub x0 (by simp)) hn hk
 ·match l,h0,hL,hsub,hn with
  | [x0,x1],_,hL,hsub,hn =>
    simp only [Ex.zM,Nat.add_zero] at hn ⊢;exact zKX h k kd num nm x0 x1 F ad cap x0.cnt x1.cnt hL hF (hsub x0 (by simp)) (hsub x1 (by simp)) hn ⟨k1,k2⟩
end Go.Proofs.YtoapgjjepiopbaaGreatDoor
