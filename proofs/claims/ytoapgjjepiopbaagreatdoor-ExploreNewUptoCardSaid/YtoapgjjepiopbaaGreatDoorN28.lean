/- Layer N: texts joined. -/
import Derived.Test.YtoapgjjepiopbaaGreatDoorN27
set_option linter.all false
set_option maxHeartbeats 8000000
set_option maxRecDepth 8000
namespace Go.Proofs.YtoapgjjepiopbaaGreatDoor
open Go.RowKit
theorem J7 (P:Prop) (h:P:=by
 subst hk;have hmx:=b1x (by decide);obtain ⟨hxk,hcm⟩:=hEx hmx;have hxb:(x3 != 0)=true:=by simpa using hxk
 have HXX:=HX hmx;go_upto_region 7 with (go_at_call 125;refine (HXX.out _ _ _ _ HS0.out.1 (zK.pre HK1.out HS0.out.2) (by omega)).mono ?_;rintro e x1 ⟨u1,t1,rfl,l1,p1,h2,r2⟩;have HS1:=Lib.hid (And.intro h2 (zK.trans hlt1 HS0.out.2 r2));clear y k1 h2 r2;try clear yr;have y:=(HR1.out.keeps HS1.out.2.keeps hb1).zl;have yr:=zL HS1.out.1.regs;have k1:=zH x1)
 go_wp2_with (go_at_call 77;refine (zBn HS1.out.1 ⟨_,_,_,_⟩ (by omega)).mono ?_;rintro e x2 ⟨u2,rfl,h2,r2⟩;have HS2:=Lib.hid (And.intro h2 (zK.trans hlt1 HS1.out.2 r2));clear y k1 h2 r2;try clear yr;have y:=(HR1.out.keeps HS2.out.2.keeps hb1).zl;have yr:=zL HS2.out.1.regs;have k1:=zH x2)
 exact ⟨⟨i+1,u2,t1+1,by omega,by go_num,HS2.out.1,(zK.trans H.out.lt HP.out.2.1 (zK.pre HK1.out HS2.out.2)),by have:=HP.out.2.2.1;omega,by have:=HP.out.2.2.2;have:=HCT.out;omega⟩,by simp [intOf];omega⟩):P:=h
theorem J64 (P:Prop) (h:P:=by exact ⟨⟨i+1,u1,n1+1,by omega,by go_num,HS1.out.1,(zK.trans H.out.lt HP.out.2.1 (zK.pre HK1.out HS1.out.2)),by have:=HP.out.2.2.1;omega,by have:=HP.out.2.2.2;have:=HCT.out;omega⟩,by simp [intOf];omega⟩):P:=h
theorem zMT (k:Int) (hk:5 <= k /\ k <= 8) (w:World):Calls Tryz.prog 127 #[.int .i64 k] w fun e w'=>e=.returned (.int .i64 (k+19)) /\ w=w':=by
 rcases (show k=5 \/ k=6 \/ k=7 \/ k=8 by omega) with rfl | rfl | rfl | rfl
 all_goals (
  go_enter Tryz.func127,Tryz.ntmps127
  go_wp2_with fail
  go_ret
  exact ⟨rfl,rfl⟩)
theorem zNA {w:World} {b n:Nat} {v:Value} {rg:Int} (h:zAB w b v rg n) (d:Int) (reg obj xk xn count:Int) (nm:ByteArray) (xa ta ea:Option Addr) (nx xc nt tc ne ec:Nat) (mt me:Nat) (HT:Hid (∀ W v' n' d,zAB W b v' rg n' -> zK w b v W v' -> n'+mt < 1000000 -> Calls Tryz.prog 76 #[.pointer (some ⟨b,0,none⟩), .slice ta nt tc, .int .i64 d] W (zh zAB W b v' rg n' mt (.tuple #[])))) (HE:Hid (∀ W v' n' d,zAB W b v' rg n' -> zK w b v W v' -> n'+me < 1000000 -> Calls Tryz.prog 76 #[.pointer (some ⟨b,0,none⟩), .slice ea ne ec, .int .i64 d] W (zh zAB W b v' rg n' me (.tuple #[])))) (hne:ne < 1000000) (hn:n+(mt+me+2) < 1000000) :
 Calls Tryz.prog 126 #[.pointer (some ⟨b,0,none⟩), .agg #[.int .i64 10, .int .i64 reg, .int .i64 obj, .int .i64 xk, .int .i64 xn, .string nm, .slice xa nx xc, .int .i64 count, .slice ta nt tc, .slice ea ne ec], .int .i64 d] w (zh zAB w b v rg n (mt+me+2) (.tuple #[])):=by
 have H:=Lib.hid h;clear h;go_enter Tryz.func126,Tryz.ntmps126
 go_upto_region 1 with fail
 obtain ⟨b1,x0,e1,e2,R1,K1,_⟩:=newRow w [.int .i64 10, .int .i64 reg, .int .i64 obj, .int .i64 xk, .int .i64 xn, .string nm, .slice xa nx xc, .int .i64 count, .slice ta nt tc, .slice ea ne ec] 146;rw [e1,e2];have hb1:¬ Mine b v b1:=H.out.new (J166 _);have HR1:=Lib.hid R1;have HK1:=Lib.hid K1;have HS0:Hid (zAB x0 b v rg n /\ zK x0 b v x0 v):=⟨H.out.zD HK1.out,zK.refl⟩;have hlt1:b < x0.heap.size:=HS0.out.1.lt;have y:=R1.zl;have yr:=zL HS0.out.1.regs;have k1:=zH x0;clear e1 e2 R1 K1;go_upto_region 2 with (go_at_call 77;refine (zBn HS0.out.1 ⟨_,_,_,_⟩ (by omega)).mono ?_;rintro e x1 ⟨u1,rfl,h2,r2⟩;have HS1:=Lib.hid (And.intro h2 (zK.trans hlt1 HS0.out.2 r2));clear y k1 h2 r2;try clear yr;have y:=(HR1.out.keeps HS1.out.2.keeps hb1).zl;have yr:=zL HS1.out.1.regs;have k1:=zH x1)
 go_upto_region 3 with (go_at_call 76;refine (HT.out _ _ _ _ HS1.out.1 (zK.pre HK1.out HS1.out.2) (by omega)).mono ?_;rintro e x2 ⟨u2,t2,rfl,l2,p2,h2,r2⟩;have HS2:=Lib.hid (And.intro h2 (zK.trans hlt1 HS1.out.2 r2));clear y k1 h2 r2;try clear yr;have y:=(HR1.out.keeps HS2.out.2.keeps hb1).zl;have yr:=zL HS2.out.1.regs;have k1:=zH x2)
 by_cases he:ne=0
 ·subst he
  go_upto_region 4 with fail
  obtain ⟨g,cap,hv,z0,z1,z2,z3⟩:=HS2.out.1.at (i:=n) (by omega);have i1:(0:Int) <= (n:Nat):=by omega
  have i2:((n:Nat):Int) < (t2:Nat):=by omega
  obtain ⟨u0,zc⟩:=z1 2 (by decide);have zf:=z2 (n*4+2);have HZ:=Lib.hid (z3 2 (by decide) ((t2:Nat)));clear z1 z2 z3 y yr;go_region
  go_wp2_with fail
  go_returns
  exact ⟨u2,t2,rfl,by omega,by omega,HZ.out.1.zD ((Keeps.refl zA _).drew),(zK.pre HK1.out (zK.trans hlt1 HS2.out.2 HZ.out.2)).post ((Keeps.refl zA _).drew)⟩
 ·have hn1:((ne:Int)==0)=false:=J154 _
  go_upto_region 6 with (go_at_call 77;refine (zBn HS2.out.1 ⟨_,_,_,_⟩ (by omega)).mono ?_;rintro e x3 ⟨u3,rfl,h2,r2⟩;have HS3:=Lib.hid (And.intro h2 (zK.trans hlt1 HS2.out.2 r2));clear y k1 h2 r2;try clear yr;have y:=(HR1.out.keeps HS3.out.2.keeps hb1).zl;have yr:=zL HS3.out.1.regs;have k1:=zH x3)
  obtain ⟨g,cap,hv,z0,z1,z2,z3⟩:=HS3.out.1.at (i:=n) (by omega);have i1:(0:Int) <= (n:Nat):=by omega
  have i2:((n:Nat):Int) < (t2+1:Nat):=by omega
  obtain ⟨u0,zc⟩:=z1 2 (by decide);have zf:=z2 (n*4+2);have HZ:=Lib.hid (z3 2 (by decide) ((t2:Int)+1));clear z1 z2 z3 y yr;go_region
  have HS4:Hid (zAB _ b u3 rg (t2+1) /\ zK x0 b v _ u3):=⟨HZ.out.1.zD ((Keeps.refl zA _).drew),(zK.trans hlt1 HS3.out.2 HZ.out.2).post ((Keeps.refl zA _).drew)⟩;clear zc zf z0;generalize hw:(World.drew _)=x4 at HS4 ⊢;clear hw HZ;have y:=(HR1.out.keeps HS4.out.2.keeps hb1).zl;have yr:=zL HS4.out.1.regs;have k1:=zH x4;go_upto_region 8 with (go_at_call 76;refine (HE.out _ _ _ _ HS4.out.1 (zK.pre HK1.out HS4.out.2) (by omega)).mono ?_;rintro e x5 ⟨u5,t5,rfl,l5,p5,h2,r2⟩;have HS5:=Lib.hid (And.intro h2 (zK.trans hlt1 HS4.out.2 r2));clear y k1 h2 r2;try clear yr;have y:=(HR1.out.keeps HS5.out.2.keeps hb1).zl;have yr:=zL HS5.out.1.regs;have k1:=zH x5)
  obtain ⟨g,cap,hv,z0,z1,z2,z3⟩:=HS5.out.1.at (i:=t2) (by omega);have i1:(0:Int) <= (t2:Nat):=by omega
  have i2:((t2:Nat):Int) < (t5:Nat):=by omega
  obtain ⟨u0,zc⟩:=z1 1 (by decide);have zf:=z2 (t2*4+1);have HZ:=Lib.hid (z3 1 (by decide) ((t5:Nat)));clear z1 z2 z3 y yr;go_region
  go_wp2_with fail
  go_returns
  exact ⟨u5,t5,rfl,by omega,by omega,HZ.out.1.zD ((Keeps.refl zA _).drew),(zK.pre HK1.out (zK.trans hlt1 HS5.out.2 HZ.out.2)).post ((Keeps.refl zA _).drew)⟩
def zDJ (l:List Ac):Prop:=∀ (u:Un) (regs:Int) (b:Nat) (rg:Int) (F:Nat -> Prop) (w:World) (v:Value) (n:Nat) (d:Int) (ad:Option Addr) (cap:Nat),
 zAB w b v rg n -> zAG w F l ad -> zAt w b v F -> Ac.zq u regs l=true -> n+2*Ac.zM l < 1000000 →
 Calls Tryz.prog 76 #[.pointer (some ⟨b,0,none⟩), .slice ad l.length cap, .int .i64 d] w (zh zAB w b v rg n (2*Ac.zM l) (.tuple #[]))
theorem zDj (l:List Ac) (ih:∀ y,y ∈ l -> zDJ y.thn /\ zDJ y.els):zDJ l:=by
 intro u regs b rg F w v n d ad cap h hL hF hm hn
 have hlen:=Ac.zD0 l;obtain ⟨nl,hnl⟩:=eX l.length;rw [<- hnl];have HN:=Lib.hid hnl;have hnb:nl < 1000000:=by omega
 have HL:=Lib.hid hL;have IH:=Lib.hid ih;have HF:=Lib.hid hF;have H:=Lib.hid h;have HM:=Lib.hid hm;have HB:=Lib.hid hn;have yr:=zL h.regs;have k0:=zH w;clear h hL ih hF hm hnl hlen hn;go_enter Tryz.func76,Tryz.ntmps76
 go_wp2_with fail
 clear yr k0;go_loopw [7] (fun iv wr=>∃ (i:Nat) (v':Value) (n':Nat),i <= nl /\ iv=.int .i64 i /\ Hid (zAB wr b v' rg n' /\ zK w b v wr v' /\ n <= n' /\ n' <= n+2*Ac.zM (l.take i))) (fun iv _=>nl - (intOf iv).toNat)
 case atStart=>exact ⟨0,v,n,Nat.zero_le _,rfl,H.out,zK.refl,Nat.le_refl _,by omega⟩
 case round =>
  obtain ⟨i,v1,n1,hi,rfl,HP⟩:=hrel;by_cases hlt:i < nl
  ·have i1:(0:Int) <= i:=by omega
   have i2:(i:Int) < nl:=by omega
   have hlt':i < l.length:=by have:=HN.out;omega
   have HL1:=HL.out.keeps HP.out.2.1.keeps (fun q hq=>(HF.out q hq).2);have HF1:=HF.out.run HP.out.2.1;obtain ⟨g,o,xa,xc,ta,tc,ea,ec,e1,hg,d0,d1,d2,d3,d4,d5,d6,d7,d8,d9,hx,hxt,hxe⟩:=HL1.at hlt';subst e1;have HCT:=Lib.hid (Ac.zF6 hlt');have hT:Ac.zM (l.take (i+1)) <= Ac.zM l:=Ac.zEK _ _;have hc:=Ac.zC8 l[i];have hm1:=Ac.zCP HM.out (List.getElem_mem hlt');have hIH:=IH.out _ (List.getElem_mem hlt');have hn1:n1+2*l[i].cnt < 1000000:=by have h1:=HP.out.2.2.2;have h2:=HB.out;have h3:=HCT.out;omega
   generalize l[i]=x at d0 d1 d2 d3 d4 d5 d6 d7 d8 d9 hx hxt hxe HCT hc hm1 hIH hn1
   obtain ⟨hl,hmt,hme⟩:zAr u regs x.kind x.reg x.obj x.ex x.count x.thn.length x.els.length=true /\ Ac.zq u regs x.thn=true /\ Ac.zq u regs x.els=true:=by
    cases x;simp only [Ac.may,Bool.and_eq_true,and_assoc] at hm1;exact hm1
   rw [zDi] at hl;simp only [Bool.and_eq_true,decide_eq_true_eq] at hl;obtain ⟨⟨q1,q2⟩,hb⟩:=hl;obtain ⟨b1x,b2x⟩:=zNJ hb
   have HX:x.ex.may regs=true -> Hid (∀ W v' n' k,zAB W b v' rg n' -> zK wr b v1 W v' -> n'+x.ex.cnt < 1000000 -> Calls Tryz.prog 125 #[.pointer (some ⟨b,0,none⟩), .agg #[.int .i64 x.ex.kind, .int .i64 x.ex.num, .string x.ex.nm, .slice xa x.ex.args.length xc], .int .i64 k] W (zh zAB W b v' rg n' x.ex.cnt (.tuple #[]))) :=
    fun hmx W v' n' k a1 a2 a3=>zJg b rg regs F x.ex W v' n' k xa xc a1 (hx.keeps a2.keeps (fun q hq=>(HF1 q hq).2)) (HF1.run a2) hmx a3
   have HT:Hid (∀ W v' n' d,zAB W b v' rg n' -> zK wr b v1 W v' -> n'+2*Ac.zM x.thn < 1000000 -> Calls Tryz.prog 76 #[.pointer (some ⟨b,0,none⟩), .slice ta x.thn.length tc, .int .i64 d] W (zh zAB W b v' rg n' (2*Ac.zM x.thn) (.tuple #[]))) :=
    fun W v' n' d a1 a2 a3=>hIH.1 u regs b rg F W v' n' d ta tc a1 (hxt.keeps a2.keeps (fun q hq=>(HF1 q hq).2)) (HF1.run a2) hmt a3
   have HE:Hid (∀ W v' n' d,zAB W b v' rg n' -> zK wr b v1 W v' -> n'+2*Ac.zM x.els < 1000000 -> Calls Tryz.prog 76 #[.pointer (some ⟨b,0,none⟩), .slice ea x.els.length ec, .int .i64 d] W (zh zAB W b v' rg n' (2*Ac.zM x.els) (.tuple #[]))) :=
    fun W v' n' d a1 a2 a3=>hIH.2 u regs b rg F W v' n' d ea ec a1 (hxe.keeps a2.keeps (fun q hq=>(HF1 q hq).2)) (HF1.run a2) hme a3
   have hle:x.els.length < 1000000:=by have:=Ac.zD0 x.els;omega
   have hEx:x.ex.may regs=true -> x.ex.kind ≠ 0 /\ x.cnt=1+x.ex.cnt+Ac.zM x.thn+Ac.zM x.els:=fun hmx=>⟨Ex.zAk hmx,by rw [hc,if_pos (Ex.zE7 (Ex.zAk hmx))]⟩
   have hmn:1+Ac.zM x.thn+Ac.zM x.els <= x.cnt:=by omega
   have hNx:x.ex.none=true -> x.ex.kind=0:=Ex.zBV
   have HBr:x.kind=10 -> Hid (∀ W v' n',zAB W b v' rg n' -> zK wr b v1 W v' -> n'+(2*Ac.zM x.thn+2*Ac.zM x.els+2) < 1000000 -> Calls Tryz.prog 126 #[.pointer (some ⟨b,0,none⟩), .agg #[.int .i64 10, .int .i64 x.reg, .int .i64 x.obj, .int .i64 x.ex.kind, .int .i64 x.ex.num, .string x.ex.nm, .slice xa x.ex.args.length xc, .int .i64 x.count, .slice ta x.thn.length tc, .slice ea x.els.length ec], .int .i64 d] W (zh zAB W b v' rg n' (2*Ac.zM x.thn+2*Ac.zM x.els+2) (.tuple #[]))) :=
    fun _ W v' n' a1 a2 a3=>zNA a1 d x.reg x.obj x.ex.kind x.ex.num x.count x.ex.nm xa ta ea x.ex.args.length xc x.thn.length tc x.els.length ec _ _ (fun W2 v2 n2 d2 c1 c2 c3=>HT.out W2 v2 n2 d2 c1 (zK.trans HP.out.1.lt a2 c2) c3) (fun W2 v2 n2 d2 c1 c2 c3=>HE.out W2 v2 n2 d2 c1 (zK.trans HP.out.1.lt a2 c2) c3) hle a3
   clear hx hxt hxe HL1 HF1 hT hc hm1 hIH hmt hme hb HE;generalize x.cnt=m at HCT hn1 hEx hmn;generalize x.reg=x1 at d1 HBr;generalize x.obj=x2 at d2 HBr;generalize x.ex.num=x4 at d4 HX HBr;generalize x.ex.nm=x5 at d5 HX HBr;generalize x.ex.args.length=x6 at d6 HX HBr;generalize x.count=x7 at d7 HBr;generalize x.thn.length=x8 at d8 HT HBr;generalize x.els.length=x9 at d9 HBr hle;generalize x.ex.cnt=mx at HX hEx;generalize Ac.zM x.thn=mt at HT hEx HBr hmn;generalize Ac.zM x.els=me at hEx HBr hmn;generalize x.ex.may regs=mz at HX b1x hEx;generalize x.ex.none=nz at hNx b2x;generalize x.ex.kind=x3 at d3 HX hEx hNx HBr;generalize x.kind=k at d0 q1 q2 b1x b2x HBr;go_upto_region 5 with fail
   obtain ⟨b1,x0,e1,e2,R7,K7,_⟩:=newRow wr [.int .i64 k, .int .i64 x1, .int .i64 x2, .int .i64 x3, .int .i64 x4, .string x5, .slice xa x6 xc, .int .i64 x7, .slice ta x8 tc, .slice ea x9 ec] 146;try rw [e1]
   try rw [e2]
   have hb1:¬ Mine b v1 b1:=HP.out.1.new (J166 _);have HR1:=Lib.hid R7;have HK1:=Lib.hid K7;have HS0:Hid (zAB x0 b v1 rg n1 /\ zK x0 b v1 x0 v1):=⟨HP.out.1.zD HK1.out,zK.refl⟩;have hlt1:b < x0.heap.size:=HS0.out.1.lt;have y:=R7.zl;have yr:=zL HS0.out.1.regs;have k1:=zH x0;clear e1 e2 R7 K7 d0 d1 d2 d3 d4 d5 d6 d7 d8 d9;rcases (show k=1 \/ k=2 \/ k=3 \/ k=4 \/ (5 <= k /\ k <= 8) \/ k=9 \/ k=10 \/ k=11 by omega) with hk | hk | hk | hk | hk | hk | hk | hk
   ·exact J7 _
   ·subst hk
    have hxz:x3=0:=hNx (b2x (by decide));subst hxz;go_wp2_with (go_at_call 77;refine (zBn HS0.out.1 ⟨_,_,_,_⟩ (by omega)).mono ?_;rintro e x1 ⟨u1,rfl,h2,r2⟩;have HS1:=Lib.hid (And.intro h2 (zK.trans hlt1 HS0.out.2 r2));clear y k1 h2 r2;try clear yr;have y:=(HR1.out.keeps HS1.out.2.keeps hb1).zl;have yr:=zL HS1.out.1.regs;have k1:=zH x1)
    exact J64 _
   ·exact J7 _
   ·exact J7 _
   ·have hxz:x3=0:=hNx (b2x (by rcases (show k=5 \/ k=6 \/ k=7 \/ k=8 by omega) with rfl | rfl | rfl | rfl <;> decide))
    subst hxz;have kb1:(k==1)=false:=J154 _;have kb2:(k==2)=false:=J154 _;have kb3:(k==3)=false:=J154 _;have kb4:(k==4)=false:=J154 _;have kb9:(k==9)=false:=J154 _;have kb10:(k==10)=false:=J154 _;have kb11:(k==11)=false:=J154 _;go_upto_region 8 with fail
    refine zAs 6 (by kernel_rfl) [some (.pointer (some ⟨b,0,none⟩)),some (.pointer (some ⟨b1,0,none⟩)),some (.int .i64 k),some (.int .i64 (k+19)),some (.pointer (some ⟨b1,2,none⟩)),some (.int .i64 x2)] rfl (fun _ _ _=>False) (fun _ _ _ _ h _=>h) ?_ ?_
    ·refine ⟨?_,?_,?_,?_,?_,?_,trivial⟩ <;> (intro vs gs W Q' hR hd hK;have HRW:Keeps zA x0 W:=((zH x0).drew).zB hR;simp only [zA1,zAg,zBQ,zJ,tz,Option.bind,Act.put] at hd hK ⊢;try simp only [hd] at hK ⊢)
     all_goals try (try clear hd;go_wp2_with (go_at_call 127;refine (zMT k hk _).mono ?_;rintro e W1 ⟨rfl,rfl⟩);first | exact hK _ _ (Keeps.refl _ _) rfl)
    ·intro vs W hR hFF
     have HRW:Keeps zA x0 W:=((zH x0).drew).zB hR;have e0:vs 0=_:=hFF 0 (by decide);have e3:vs 3=_:=hFF 3 (by decide);have e5:vs 5=_:=hFF 5 (by decide);simp only [zJ,tz,Option.bind,Act.put];rw [e0,e3,e5];have HSW:Hid (zAB W b v1 rg n1 /\ zK x0 b v1 W v1):=⟨HS0.out.1.zD HRW,HS0.out.2.post HRW⟩;clear hFF e0 e3 e5 hR HRW y yr k1;go_wp2_with (go_at_call 77;refine (zBn HSW.out.1 ⟨_,_,_,_⟩ (by omega)).mono ?_;rintro e x1 ⟨u1,rfl,h2,r2⟩;have HS1:=Lib.hid (And.intro h2 (zK.trans hlt1 HSW.out.2 r2));clear h2 r2)
     exact J64 _
   ·exact J7 _
   ·subst hk
    have hmx:=b1x (by decide);obtain ⟨hxk,hcm⟩:=hEx hmx;have hxb:(x3 != 0)=true:=by simpa using hxk
    have HXX:=HX hmx;go_upto_region 7 with (go_at_call 125;refine (HXX.out _ _ _ _ HS0.out.1 (zK.pre HK1.out HS0.out.2) (by omega)).mono ?_;rintro e x1 ⟨u1,t1,rfl,l1,p1,h2,r2⟩;have HS1:=Lib.hid (And.intro h2 (zK.trans hlt1 HS0.out.2 r2));clear y k1 h2 r2;try clear yr;have y:=(HR1.out.keeps HS1.out.2.keeps hb1).zl;have yr:=zL HS1.out.1.regs;have k1:=zH x1)
    have HBB:=HBr (by first | rfl | trivial);go_wp2_with (go_at_call 126;refine (HBB.out _ _ _ HS1.out.1 (zK.pre HK1.out HS1.out.2) (by omega)).mono ?_;rintro e x2 ⟨u2,t2,rfl,l2,p2,h2,r2⟩;have HS2:=Lib.hid (And.intro h2 (zK.trans hlt1 HS1.out.2 r2));clear y k1 h2 r2;try clear yr;have y:=(HR1.out.keeps HS2.out.2.keeps hb1).zl;have yr:=zL HS2.out.1.regs;have k1:=zH x2)
    exact ⟨⟨i+1,u2,t2,by omega,by go_num,HS2.out.1,(zK.trans H.out.lt HP.out.2.1 (zK.pre HK1.out HS2.out.2)),by have:=HP.out.2.2.1;omega,by have:=HP.out.2.2.2;have:=HCT.out;omega⟩,by simp [intOf];omega⟩
   ·subst hk
    have hxz:x3=0:=hNx (b2x (by decide));subst hxz;by_cases hc:0 < x7
    ·go_upto_region 24 with (go_at_call 77;refine (zBn HS0.out.1 ⟨_,_,_,_⟩ (by omega)).mono ?_;rintro e x1 ⟨u1,rfl,h2,r2⟩;have HS1:=Lib.hid (And.intro h2 (zK.trans hlt1 HS0.out.2 r2));clear y k1 h2 r2;try clear yr;have y:=(HR1.out.keeps HS1.out.2.keeps hb1).zl;have yr:=zL HS1.out.1.regs;have k1:=zH x1)
     go_upto_region 25 with (go_at_call 76;refine (HT.out _ _ _ _ HS1.out.1 (zK.pre HK1.out HS1.out.2) (by omega)).mono ?_;rintro e x2 ⟨u2,t2,rfl,l2,p2,h2,r2⟩;have HS2:=Lib.hid (And.intro h2 (zK.trans hlt1 HS1.out.2 r2));clear y k1 h2 r2;try clear yr;have y:=(HR1.out.keeps HS2.out.2.keeps hb1).zl;have yr:=zL HS2.out.1.regs;have k1:=zH x2)
     go_wp2_with (go_at_call 77;refine (zBn HS2.out.1 ⟨_,_,_,_⟩ (by omega)).mono ?_;rintro e x3 ⟨u3,rfl,h2,r2⟩;have HS3:=Lib.hid (And.intro h2 (zK.trans hlt1 HS2.out.2 r2));clear y k1 h2 r2;try clear yr;have y:=(HR1.out.keeps HS3.out.2.keeps hb1).zl;have yr:=zL HS3.out.1.regs;have k1:=zH x3)
     exact ⟨⟨i+1,u3,t2+1,by omega,by go_num,HS3.out.1,(zK.trans H.out.lt HP.out.2.1 (zK.pre HK1.out HS3.out.2)),by have:=HP.out.2.2.1;omega,by have:=HP.out.2.2.2;have:=HCT.out;omega⟩,by simp [intOf];omega⟩
    ·go_wp2_with fail
     exact ⟨⟨i+1,v1,n1,by omega,by go_num,HS0.out.1,(zK.trans H.out.lt HP.out.2.1 (zK.pre HK1.out HS0.out.2)),by have:=HP.out.2.2.1;omega,by have:=HP.out.2.2.2;have:=HCT.out;omega⟩,by simp [intOf];omega⟩
  ·exact J78 _
theorem zMl (l:List Ac):zDJ l:=zDj l (fun y _=>Ac.ind (P:=fun y=>zDJ y.thn /\ zDJ y.els) (fun k r o x c t e h1 h2=>⟨zDj t h1,zDj e h2⟩) y)
end Go.Proofs.YtoapgjjepiopbaaGreatDoor
