/- Layer D: texts joined. -/
import Derived.Test.YtoapgjjepiopbaaGreatDoorD15
import Derived.Test.YtoapgjjepiopbaaGreatDoorD14
import Derived.Test.YtoapgjjepiopbaaGreatDoorD16
set_option linter.all false
set_option maxHeartbeats 4000000
set_option maxRecDepth 8000
namespace Go.Proofs.YtoapgjjepiopbaaGreatDoor
open Go.RowKit
abbrev kE:=@List.length_map
abbrev vA:=@Ac.zBY
theorem J36(P:Prop) (h:P:=by
 go_wp2_with fail
 go_ret
 exact⟨rfl,K1.out⟩):P:=h
theorem J45(P:Prop)(h:P:=by exact hK _ _ g1 (n1.mono (λ_ _=>trivial))):P:=h
theorem J51(P:Prop) (h:P:=by
 have h1:=zKe bs h
 have h2:m<b ^ (11*zAj bs+1):=by
  have h3:=zFd (n:=11*zAj bs) hb;have h4:0<b ^ (11*zAj bs):=uX (by omega);have h5:2*b ^ (11*zAj bs)<=b*b ^ (11*zAj bs):=kH _ hb;rw[xY,Nat.mul_comm];omega
 have:=zDU hb h2
 omega):P:=h
theorem J110(P:Prop) (h:P:=by
 go_wp2_with fail
 go_ret
 exact⟨rfl,HKR.out.zC K7.out⟩):P:=h
theorem J128(P:Prop) (h:P:=by
 rcases (show j<i\/j=i by omega) with h1|h1
 ·exact HU.out j hj h1
 ·subst h1;exact h):P:=h
theorem J163(P:Prop) (h:P:=by
 have q3':(8:Int)<cs.length:=by omega
 obtain rfl:=HNO.out (λh=>by have h1:cs.length<=8:=h.2.2.1;omega);exact J36 _):P:=h
theorem J164(P:Prop) (h:P:=by
 have q2':(8:Int)<bs.length:=by omega
 obtain rfl:=HNO.out (λh=>by have h1:bs.length<=8:=h.2.1;omega);exact J36 _):P:=h
theorem J165(P:Prop) (h:P:=by
 have q1':(bs.length:Int)<1:=by omega
 obtain rfl:=HNO.out (λh=>by have h1:1<=bs.length:=h.1;omega);exact J36 _):P:=h
theorem J182(P:Prop)(h:P:=by intro q hq;simp only[xU,kR,or_false] at hq;rcases hq with rfl|rfl <;> rfl):P:=h
theorem J222(P:Prop)(h:P:=by have:=zDk (yI hlt);have:=HSZ.out;omega):P:=h
mutual
theorem Ac.zMG:(x:Ac)->x.plain.cnt=x.cnt
 | .mk k reg obj ex count t e=>by
   have h1:=Ac.zDN t;have h2:=Ac.zDN e;simp only[Ac.plain,St.cnt,Ac.cnt,h1,h2]
theorem Ac.zDN:(l:List Ac)->St.zT (Ac.zAM l)=Ac.zT l
 | []=>rfl
 | x :: r=>by
   have h1:=Ac.zMG x;have h2:=Ac.zDN r;simp only[Ac.zAM,St.zT,Ac.zT,h1,h2]
end
mutual
theorem Ac.zKi(d:Nat):(x:Ac)->x.plain.deep d=x.deep d
 | .mk k reg obj ex count t e=>by
   have h1:=Ac.zC1 (d+1) t;have h2:=Ac.zC1 (d+1) e;simp only[Ac.plain,St.deep,Ac.deep,h1,h2]
theorem Ac.zC1(d:Nat):(l:List Ac)->St.zu d (Ac.zAM l)=Ac.zu d l
 | []=>rfl
 | x :: r=>by
   have h1:=Ac.zKi d x;have h2:=Ac.zC1 d r;simp only[Ac.zAM,St.zu,Ac.zu,h1,h2]
end
mutual
theorem Ac.zMy:(x:Ac)->x.plain.sz=x.sz
 | .mk k reg obj ex count t e=>by
   have h1:=Ac.zDu t;have h2:=Ac.zDu e;simp only[Ac.plain,St.sz,Ac.sz,h1,h2]
theorem Ac.zDu:(l:List Ac)->St.szL (Ac.zAM l)=Ac.szL l
 | []=>rfl
 | x :: r=>by
   have h1:=Ac.zMy x;have h2:=Ac.zDu r;simp only[Ac.zAM,St.szL,Ac.szL,h1,h2]
end
def zBE(bs:List Bd):List (List St):=bs.map λb=>Ac.zAM b.acts
theorem zGv(bs:List Bd):zAF (zBE bs)=(bs.map λb=>Ac.zu 1 b.acts).foldr max 0:=by
 induction bs with
 | nil=>rfl
 | cons b r ih =>
   have ih':zAF (r.map λb=>Ac.zAM b.acts)=(r.map λb=>Ac.zu 1 b.acts).foldr max 0:=ih;simp only[zBE,uO,zAF,List.foldr_cons,Ac.zC1,ih']
theorem zIG(bs:List Bd):zAO (zBE bs)=(bs.map λb=>Ac.zT b.acts).foldr (·+·) 0:=by
 induction bs with
 | nil=>rfl
 | cons b r ih =>
   have ih':zAO (r.map λb=>Ac.zAM b.acts)=(r.map λb=>Ac.zT b.acts).foldr (·+·) 0:=ih;simp only[zBE,uO,zAO,List.foldr_cons,Ac.zDN,ih']
theorem zJX(bs:List Bd):zBt (zBE bs)=zAj bs:=by
 induction bs with
 | nil=>rfl
 | cons b r ih =>
   have ih':zBt (r.map λb=>Ac.zAM b.acts)=zAj r:=ih;simp only[zBE,uO,zBt,zAj,Ac.zDu,ih']
theorem zLw{u:Un}{c:Int}(hc:c∈u.cells)(h:zCb c=false):zX u=false:=by
 have h1:u.cells.all zCb=false:=by
  rw[Bool.eq_false_iff];intro e
  have:=xB.1 e c hc
  rw[h] at this;cases this
 unfold zX;rw[h1];simp
theorem zHC{u:Un}{b:Bd}(hb:b∈u.threads)(h:Ac.zAC u b.regs b.acts=false):zX u=false:=by
 have h1:(u.threads.all λb=>decide (0<=b.regs)&&decide (b.regs<=8)&&Ac.zAC u b.regs b.acts)=false:=by
  rw[Bool.eq_false_iff];intro e
  have:=xB.1 e b hb
  simp only[yS,yV] at this;rw[h] at this;cases this.2
 unfold zX;rw[h1];simp
theorem zL0{u:Un}(h:zEa u)(hc:u.cells.all zCb=true)(hr:∀b,b∈u.threads->0<=b.regs/\b.regs<=8/\Ac.zAC u b.regs b.acts=true):zX u=(decide (zAF (zBE u.threads)<=16)&&decide (zAO (zBE u.threads)<=500)):=by
 have h1:(u.threads.all λb=>decide (0<=b.regs)&&decide (b.regs<=8)&&Ac.zAC u b.regs b.acts)=true:=by
  rw[xB];intro b hb
  have:=hr b hb
  simp only[yS,yV];exact⟨⟨this.1,this.2.1⟩,this.2.2⟩
 unfold zX;rw[h1,hc,zGv,zIG];simp[h.1,h.2.1,h.2.2.1,h.2.2.2.1,h.2.2.2.2]
def zEQ:zA5 (List St):=λw F t cs=>∃ba bc,cs=[.string zw,.slice ba t.length bc]/\zx w F t ba
theorem zLa:zAU zEQ 2:=⟨λh hk hS=>by exact J215 _,λh hF=>by exact J221 _,λh=>by obtain⟨ba,bc,e,h1⟩:=h;rw[e];rfl⟩
theorem Acc.tbs{w:World}{G:Nat->Prop}{B n cap:Nat}{ty:TypeId}{ad:Option Addr}{ts:List (List St)}{css:List (List Value)}(h:Acc zEQ G B 2 ty w (.slice ad n cap) ts css)(hl:ts.length<=1000):zAh w (λk=>G k\/(B<=k/\k<w.heap.size)) zw ts ad:=by
 obtain⟨h1,h2⟩:=h.elems zLa (ad:=ad) (n:=n) (cap:=cap) rfl;refine⟨hl,λi hi=>?_⟩
 obtain⟨g,o,e,hg,hl,hc⟩:=h1 i hi;obtain⟨ba,bc,hR',hs⟩:=h2 i ts[i] (yL hi);have hc0:=hc 0 (.string zw) (by show(css.getD i [])[_]?=_;rw[hR'];rfl);have hc1:=hc 1 (.slice ba ts[i].length bc) (by show(css.getD i [])[_]?=_;rw[hR'];rfl);refine⟨g,o,ba,bc,e,hg,hc0,?_,hs⟩
 rw[uI];exact hc1
theorem zIA(cs:List Int)(mu:Int)(bs:List Bd)(w:World)(F:Nat->Prop)(uca uta:Option Addr)(ucc utc:Nat)
 (hcs:zAw w F cs uca) (hbd:zBy w F bs uta) (hF:∀k,F k->k<w.heap.size) (hsz:zAj bs<900000000) (hl1:cs.length<1000000000) (hl2:bs.length<1000000000):
 Calls Tryz.prog 20 #[.agg #[.slice uca cs.length ucc,mu,.slice uta bs.length utc]] w λe w'=>e=.returned (.bool (zX ⟨cs,mu,bs⟩))/\Keeps zA w w':=by
 have HCS:=yA hcs;have HBD:=yA hbd;have HFs:=yA hF;have HSZ:=yA hsz;obtain⟨j3,hj3,hy0,hy1,hy2⟩:=info_parts zGC;obtain⟨r,hr⟩:=eX (zX ⟨cs,mu,bs⟩);have HR:=yA hr;rw[<-hr];clear hcs hbd hF hsz hr;go_enter Tryz.func20,Tryz.ntmps20
 go_upto_region 1 with fail
 obtain⟨b1,hb1⟩:=eX w.heap.size;have hr1:zB (w.alloc (.cells #[.slice uca cs.length ucc,mu,.slice uta bs.length utc] 25)) b1 [.slice uca cs.length ucc,.int .i64 mu,.slice uta bs.length utc]:=J169 _;have hk1:Keeps zA w (w.alloc (.cells #[.slice uca cs.length ucc,mu,.slice uta bs.length utc] 25)):=(yB _ _).alloc _;have hs1:b1<(w.alloc (.cells #[.slice uca cs.length ucc,mu,.slice uta bs.length utc] 25)).heap.size:=by rw[hb1];simp
 rw[<-hb1];generalize w.alloc (.cells #[.slice uca cs.length ucc,mu,.slice uta bs.length utc] 25)=w1 at hr1 hk1 hs1 ⊢;obtain⟨d0,d1,d2⟩:=hr1.three;have R1:=yA hr1;have K1:=yA hk1;have S1:Hid (b1<w1.heap.size/\w.heap.size<=b1):=⟨hs1,by omega⟩;clear hr1 hk1 hb1 hs1;have HNO:Hid (¬zEa ⟨cs,mu,bs⟩->false=r):=λh=>by rw[HR.out,zFD h]
 rcases xR bs.length 1 with q1|q1
 ·exact J165 _
 have q1':¬(bs.length:Int)<1:=by omega
 rcases xR 8 bs.length with q2|q2
 ·exact J164 _
 have q2':¬(8:Int)<bs.length:=by omega
 rcases xR 8 cs.length with q3|q3
 ·exact J163 _
 have q3':¬(8:Int)<cs.length:=by omega
 rcases vE mu 0 with q4|q4
 ·obtain rfl:=HNO.out (λh=>by have h1:0<=mu:=h.2.2.2.1;omega)
  exact J36 _
 have q4':¬mu<0:=by omega
 rcases vE 8 mu with q5|q5
 ·obtain rfl:=HNO.out (λh=>by have h1:mu<=8:=h.2.2.2.2;omega)
  exact J36 _
 have q5':¬8<mu:=by omega
 have HHD:Hid (zEa ⟨cs,mu,bs⟩):=⟨q1,q2,q3,q4,q5⟩;go_upto_region 4 with fail
 clear d0 d1 d2 q4' q5' q3' q2' q1' q1 q4 q5;have CS1:Hid (zAw w1 F cs uca):=HCS.out.keeps K1.out (λ_ _ h=>h);have BD1:Hid (zBy w1 F bs uta):=HBD.out.keeps K1.out (λ_ _ h=>h);clear HCS HBD;go_loopw [3] (λiv wr=>∃(i:Nat),i<=cs.length/\iv=.int .i64 i/\Hid (Keeps zA w1 wr)/\Hid ((cs.take i).all zCb=true)) (λiv _=>cs.length-(intOf iv).toNat)
 case atStart=>exact⟨0,yF _,rfl,yB _ _,by show _=_;rfl⟩
 case round =>
  obtain⟨i,hi,rfl,HK,HU⟩:=hrel;obtain⟨y0,y1,y2⟩:=(R1.out.keeps HK.out (λh=>h)).three;by_cases hlt:i<cs.length
  ·have i1:(0:Int)<=i:=by omega
   have i2:(i:Int)<cs.length:=by omega
   obtain⟨g,o,e1,hg,d0⟩:=(CS1.out.keeps HK.out (λ_ _ h=>h)) i hlt;subst e1;have HNO3:Hid (zCb cs[i]=false->false=r):=λh=>by rw[HR.out,zLw (u:=⟨cs,mu,bs⟩) (yI hlt) h]
   have HU2:Hid (zCb cs[i]=true->(cs.take (i+1)).all zCb=true):=λh=>by rw[take_at hlt,List.all_append,HU.out];simp[h]
   generalize cs[i]=x at d0 HNO3 HU2;rcases vE x (-2147483647) with h1|h1
   ·obtain rfl:=HNO3.out (by unfold zCb;rw[uK (by omega:¬ -2147483647<=x)];rfl)
    go_wp2_with fail
    go_ret
    exact⟨rfl,K1.out.zC HK.out⟩
   have h1':¬x < -2147483647:=by omega
   rcases vE 2147483647 x with h2|h2
   ·obtain rfl:=HNO3.out (by unfold zCb;rw[uK (by omega:¬x<=2147483647)];simp)
    go_wp2_with fail
    go_ret
    exact⟨rfl,K1.out.zC HK.out⟩
   have h2':¬2147483647<x:=by omega
   have HU3:=yA (HU2.out (by unfold zCb;simp[h1,h2]));clear HNO3 HU2;go_wp2_with fail
   go_roundw
   case rel=>exact⟨i+1,by omega,by go_num,HK,HU3⟩
   case measure=>simp[intOf];omega
  ·obtain rfl:i=cs.length:=by omega
   have HCA:Hid (cs.all zCb=true):=by have h:=HU.out;rw[xS] at h;exact h
   clear HU hi;go_upto_region 9 with fail
   obtain⟨b4,hb4⟩:=eX wr.heap.size;have hr4:zB (wr.alloc (.cells #[.slice none 0 0,.slice none 0 0,.slice none 0 0] 102)) b4 [.slice none 0 0,.slice none 0 0,.slice none 0 0]:=by rw[hb4];exact yK (yG wr _)
   have hk4:Keeps zA wr (wr.alloc (.cells #[.slice none 0 0,.slice none 0 0,.slice none 0 0] 102)):=(yB _ _).alloc _;have hs4:b4<(wr.alloc (.cells #[.slice none 0 0,.slice none 0 0,.slice none 0 0] 102)).heap.size:=by rw[hb4];simp
   rw[<-hb4];generalize wr.alloc (.cells #[.slice none 0 0,.slice none 0 0,.slice none 0 0] 102)=w4 at hr4 hk4 hs4 ⊢;have R4:=yA hr4;have K4:Hid (Keeps zA w1 w4):=HK.out.zC hk4;have KW4:Hid (Keeps zA w w4):=K1.out.zC K4.out;have S4:Hid (w1.heap.size<=b4/\b4<w4.heap.size/\b1≠b4):=⟨by have:=HK.out.size;omega,hs4,by have:=S1.out;have:=HK.out.size;omega⟩;clear hr4 hk4 hb4 hs4 y0 y1 y2;obtain⟨B,hB⟩:=eX w4.heap.size;have HBE:Hid (B=w4.heap.size/\b4<B/\w.heap.size<=B/\w.heap.size<=b4):=⟨hB,by have:=S4.out;omega,by have:=KW4.out.size;omega,by have:=S4.out;have:=K1.out.size;omega⟩;clear hB;have hFb:Hid (∀q,F q->¬(λq=>q=b4) q):=λq hq e=>by have e':q=b4:=e;have:=HFs.out q hq;have:=HBE.out;omega
   have BD4:Hid (zBy w4 F bs uta):=BD1.out.keeps K4.out (λ_ _ h=>h);have R14:Hid (zB w4 b1 [.slice uca cs.length ucc,mu,.slice uta bs.length utc]):=R1.out.keeps K4.out (λh=>h);clear HK R1 BD1 CS1;obtain⟨ps,hps⟩:=eX (zBE bs);have HPS:Hid (ps=zBE bs):=hps;have HPL:Hid (ps.length=bs.length):=by show _=_;rw[hps];unfold zBE;rw[kE]
   clear hps;go_upto_region 10 with fail
   go_loopw [5] (λiv wr=>∃(i:Nat)(ea:Option Addr)(ec:Nat)(css:List (List Value)),i<=bs.length/\iv=.int .i64 i/\Hid (zB wr b4 [.slice none 0 0,.slice none 0 0,.slice ea i ec])/\Hid (Acc zEQ F B 2 111 wr (.slice ea i ec) (ps.take i) css)/\Hid (Keeps (λq=>q=b4) w4 wr)/\Hid (∀j (hj:j<bs.length),j<i->0<=bs[j].regs/\bs[j].regs<=8/\Ac.zAC ⟨cs,mu,bs⟩ bs[j].regs bs[j].acts=true)) (λiv _=>bs.length-(intOf iv).toNat)
   case atStart=>exact⟨0,none,0,[],yF _,rfl,R4,Acc.nil w4,yB _ _,λj hj h=>by omega⟩
   case round =>
    obtain⟨i,ea,ec,css,hi,rfl,RB,HA,HK,HU⟩:=hrel;obtain⟨y0,y1,y2⟩:=(R14.out.keeps HK.out (λe=>S4.out.2.2 e)).three;have HKR:Hid (Keeps zA w wr):=KW4.out.trans HK.out (λq hq e=>by have e':q=b4:=e;have:=HBE.out;omega);by_cases hlt:i<bs.length
    ·have i1:(0:Int)<=i:=by omega
     have i2:(i:Int)<bs.length:=by omega
     obtain⟨g,o,ba,bc,e1,hg,d0,d1,hx⟩:=(BD4.out.keeps HK.out hFb.out) i hlt;subst e1;have HNO2:Hid (¬(0<=bs[i].regs/\bs[i].regs<=8)->false=r):=λh=>by rw[HR.out,zHH (u:=⟨cs,mu,bs⟩) (yI hlt) h]
     have HNO4:Hid (Ac.zAC ⟨cs,mu,bs⟩ bs[i].regs bs[i].acts=false->false=r):=λh=>by rw[HR.out,zHC (u:=⟨cs,mu,bs⟩) (yI hlt) h]
     have HU2:Hid (0<=bs[i].regs/\bs[i].regs<=8/\Ac.zAC ⟨cs,mu,bs⟩ bs[i].regs bs[i].acts=true->∀j (hj:j<bs.length),j<i+1->0<=bs[j].regs/\bs[j].regs<=8/\Ac.zAC ⟨cs,mu,bs⟩ bs[j].regs bs[j].acts=true):=λh j hj hj2=>by
      exact J128 _
     have hszi:Ac.szL bs[i].acts<1000000000:=J222 _
     have HM:Hid (∀W,Keeps zA wr W->Calls Tryz.prog 48 #[.slice ba bs[i].acts.length bc,.int .i64 bs[i].regs,.agg #[.slice uca cs.length ucc,mu,.slice (some ⟨g,o,none⟩) bs.length utc]] W λe w'=>e=.returned (.bool (Ac.zAC ⟨cs,mu,bs⟩ bs[i].regs bs[i].acts))/\Keeps zA W w'):=λW hk =>
      zQ4 bs[i].acts ⟨cs,mu,bs⟩ bs[i].regs W F uca ucc (some ⟨g,o,none⟩) utc ba bc (hx.keeps hk (λ_ _ h=>h)) hszi
     obtain⟨p,hp⟩:=eX (Ac.zAM bs[i].acts)
     have HPP:Hid (∀W,Keeps zA wr W->Calls Tryz.prog 49 #[.slice ba bs[i].acts.length bc] W λe w'=>∃ad' cap',e=.returned (.slice ad' bs[i].acts.length cap')/\zx w' (λk=>F k\/(W.heap.size<=k/\k<w'.heap.size)) p ad'/\Keeps zA W w'):=λW hk=>by
      rw[hp];exact zO8 bs[i].acts W F ba bc (hx.keeps hk (λ_ _ h=>h)) (λk hk'=>yH (HFs.out k hk') (yX HKR.out.size hk.size)) hszi
     have HPN:Hid (p.length=bs[i].acts.length):=by show _=_;rw[hp,Ac.zDQ]
     have HTK:Hid (ps.take (i+1)=ps.take i++[p]):=by
      show _=_
      have hl:i<ps.length:=by have:=HPL.out;omega
      have e3:ps[i]=Ac.zAM bs[i].acts:=by
       have h1:=HPS.out;subst h1;simp[zBE]
      rw[take_at hl,hp,e3]
     obtain⟨mm,hmm⟩:=eX (Ac.zAC ⟨cs,mu,bs⟩ bs[i].regs bs[i].acts);rw[<-hmm] at HNO4 HM HU2;clear hx hp hmm hszi;generalize bs[i].regs=x0 at d0 HNO2 HU2 HM;generalize bs[i].acts.length=x1 at d1 HM HPP HPN;go_upto_region 13 with fail
     obtain⟨b6,hb6⟩:=eX wr.heap.size;have hr6:zB (wr.alloc (.cells #[x0,.slice ba x1 bc] 48)) b6 [.int .i64 x0,.slice ba x1 bc]:=by rw[hb6];exact yK (yG wr _)
     have hk6:Keeps zA wr (wr.alloc (.cells #[x0,.slice ba x1 bc] 48)):=(yB _ _).alloc _;rw[<-hb6];generalize wr.alloc (.cells #[x0,.slice ba x1 bc] 48)=w6 at hr6 hk6 ⊢;obtain⟨t0,t1⟩:=hr6.two;have R6:=yA hr6;have K6:=yA hk6;have R16:=R14.out.keeps (HK.out.trans hk6 (λ_ _ h=>False.elim h)) (λe=>S4.out.2.2 e);clear hr6 hk6 hb6 d0 d1 y0 y1 y2;obtain⟨y0,y1,y2⟩:=R16.three;clear R16;go_upto_region 14 with(go_at_call 48;refine(HM.out _ K6.out).mono ?_;rintro e w7 ⟨rfl,g7⟩;have r7:=R6.out.keeps g7 (λh=>h);have K7:=yA (K6.out.zC g7);have R7:=yA r7;clear g7 r7 t0 t1)
     clear y0 y1 y2;obtain⟨t0,t1⟩:=R7.out.two;rcases vE x0 0 with q4|q4
     ·obtain rfl:=HNO2.out (λh=>by omega)
      exact J110 _
     have q4':¬x0<0:=by omega
     rcases vE 8 x0 with q5|q5
     ·obtain rfl:=HNO2.out (λh=>by omega)
      exact J110 _
     have q5':¬8<x0:=by omega
     cases mm
     ·obtain rfl:=HNO4.out rfl
      exact J110 _
     have HU3:=yA (HU2.out ⟨q4,q5,rfl⟩);go_upto_region 17 with(go_at_call 49;refine(HPP.out _ K7.out).mono ?_;rintro e w8 ⟨pa,pc,rfl,p8,g8⟩;have P8:=yA p8;have K8:=yA (K7.out.zC g8);have G8:=yA g8;clear g8 p8 t0 t1)
     clear q4 q5 q4' q5' HNO2 HNO4 HM HPP HU2;have RB8:Hid (zB w8 b4 [.slice none 0 0,.slice none 0 0,.slice ea i ec]):=RB.out.keeps K8.out (λh=>h);obtain⟨z0,z1,z2⟩:=RB8.out.three;have HA8:Hid (Acc zEQ F B 2 111 w8 (.slice ea i ec) (ps.take i) css):=HA.out.zG zLa K8.out;have HLEN:Hid ((ps.take i).length=i):=by show _=_;rw[List.length_take];have:=HPL.out;omega
     have hOB:Hid (∀q,(Value.slice ea i ec).ownBlock=some q->B<=q):=HA.out.2.2.1;have i3:i+1<=8:=by omega
     go_upto_region 11 with(at_builtin;refine zI _ (by rfl) _ _ 100 (by rfl) 0 111 j3 _ 2 40 Tryz.underlying100 hj3 hy0 hy1 hy2 rfl (by decide) (.slice ea i ec) i css.flatten (by rfl) (by have h1:=(HA8.out.zG zLa ((yB zA w8).alloc (.cells #[zw,.slice pa x1 pc] 111))).2.1;rw[HLEN.out] at h1;exact h1) (.slice (some ⟨w8.heap.size,0,none⟩) 1 1) 1 [.string zw,.slice pa x1 pc] (by rfl) (xE (yK (yG w8 _))) rfl (J182 _) (by unfold maxLen;omega) (by omega) (yF _) ?_;intro da2 dc2 w9 ha;have HAO:=yA ha;have k9:=xD ha ((yB (λq=>(Value.slice ea i ec).ownBlock=some q) w8).alloc _) (λq e _=>e);have r9:=RB8.out.keeps k9 (λe=>by have:=hOB.out b4 e;have:=HBE.out;omega);have z22:=r9.cell (k:=2) (v:=.slice ea i ec) rfl;have f22:=r9.free (k:=2) (by simp);have R9W:=yA r9;have K9W:=yA k9;clear ha k9 r9 z0 z1 z2)
     obtain⟨wA,hwA⟩:=eX (w8.alloc (.cells #[zw,.slice pa x1 pc] 111));have KA:Keeps zA w8 wA:=J191 _;have HAA:Acc zEQ F B 2 111 wA (.slice ea i ec) (ps.take i) css:=HA8.out.zG zLa KA;have HAO':zn wA 0 111 2 (.slice ea i ec) (i+1) (css.flatten++[.string zw,.slice pa x1 pc]) da2 dc2 w9:=by rw[hwA];exact HAO.out
     have hown:∀kb,(Value.slice ea i ec).ownBlock=some kb->kb<wr.heap.size:=λkb e=>zM HA.out.2.1 e
     have hel:zEQ wA (zB1 F B wA (.slice ea i ec)) p [.string zw,.slice pa x1 pc]:=by
      have e:x1=p.length:=HPN.out.symm;refine⟨pa,pc,by rw[e],(P8.out.keeps KA (λ_ _ h=>h)).mono (λk hk=>?_)⟩
      rcases hk with hk|⟨hk1,hk2⟩
      ·exact .inl hk
      ·refine .inr ⟨?_,yH hk2 KA.size,λe=>?_⟩
       ·have:=HBE.out;have:=HK.out.size;have:=K7.out.size;omega
       ·have:=hown k e;have:=K7.out.size;omega
     have hset:Keeps (λq=>q=b4) w9 (w9.setCell ⟨b4,2,none⟩ (.slice da2 (i+1) dc2)):=(yB (λq=>q=b4) w9).setCell (p:=⟨b4,2,none⟩) (λ_=>rfl) _
     have hpush:Acc zEQ F B 2 111 (w9.setCell ⟨b4,2,none⟩ (.slice da2 (i+1) dc2)) (.slice da2 (i+1) dc2) (ps.take (i+1)) (css++[[.string zw,.slice pa x1 pc]]):=by
      have h1:=HAA.push zLa (λk hk=>by have:=HFs.out k hk;have:=HBE.out;omega) (by have:=HBE.out;have:=HK.out.size;have:=K8.out.size;have:=KA.size;omega) hel (by decide) (ad:=da2) (cap:=dc2) (w':=w9) (by rw[HLEN.out];exact HAO');rw[HLEN.out] at h1;rw[HTK.out];exact h1.keeps zLa hset (λk hk=>⟨by have e':k=b4:=hk;have:=HBE.out;omega,λh=>hFb.out k h hk⟩)
     have hrow:zB (w9.setCell ⟨b4,2,none⟩ (.slice da2 (i+1) dc2)) b4 [.slice none 0 0,.slice none 0 0,.slice da2 (i+1) dc2]:=R9W.out.set 2 (by simp) _
     have hkeep:Keeps (λq=>q=b4) w4 (w9.setCell ⟨b4,2,none⟩ (.slice da2 (i+1) dc2)):=
      (((HK.out.trans K8.out (λ_ _ h=>h.elim)).trans K9W.out (λq hq e=>by exact J219 _)).trans hset (λ_ _ h=>h))
     have HPU:=yA hpush;have HRO:=yA hrow;have HKE:=yA hkeep;clear hpush hrow hkeep hset hel HAO' HAA KA hwA hown;go_wp2_with fail
     go_roundw
     case rel=>exact⟨i+1,da2,dc2,css++[[.string zw,.slice pa x1 pc]],by omega,by go_num,HRO,HPU,HKE,HU3⟩
     case measure=>simp[intOf];omega
    ·obtain rfl:i=bs.length:=by omega
     have hA:=HA.out;have e:ps.take bs.length=ps:=by rw[<-HPL.out,xS]
     rw[e] at hA;have THR:Hid (zAh wr (λk=>F k\/(B<=k/\k<wr.heap.size)) zw ps ea):=hA.tbs (by have:=HPL.out;omega);clear hA HA e
     have hreg:∀b,b∈bs->0<=b.regs/\b.regs<=8/\Ac.zAC ⟨cs,mu,bs⟩ b.regs b.acts=true:=λb hb=>by
      obtain⟨j,hj,e⟩:=List.mem_iff_getElem.1 hb;rw[<-e];exact HU.out j hj hj
     have hrf:r=(decide (zAF ps<=16)&&decide (zAO ps<=500)):=by rw[HR.out,HPS.out];exact zL0 HHD.out HCA.out hreg
     have hsz:zBt ps<900000000:=by rw[HPS.out,zJX];exact HSZ.out
     have HDP:Hid (∀W,Keeps zA wr W->Calls Tryz.prog 50 #[.agg #[.slice none 0 0,.slice none 0 0,.slice ea bs.length ec]] W λe w'=>e=.returned (.int .i64 (zAF ps:Nat))/\Keeps zA W w'):=λW hk=>by
      have h1:=zI7 zw ps W _ none none ea 0 0 0 0 ec (THR.out.keeps hk (λ_ _ h=>h)) hsz;rw[HPL.out] at h1;exact h1
     have HCP:Hid (∀W,Keeps zA wr W->Calls Tryz.prog 51 #[.agg #[.slice none 0 0,.slice none 0 0,.slice ea bs.length ec]] W λe w'=>e=.returned (.int .i64 (zAO ps:Nat))/\Keeps zA W w'):=λW hk=>by
      have h1:=zHq zw ps W _ none none ea 0 0 0 0 ec (THR.out.keeps hk (λ_ _ h=>h)) hsz;rw[HPL.out] at h1;exact h1
     generalize zAF ps=D at hrf HDP;generalize zAO ps=C at hrf HCP;clear hreg hsz HR HU HNO;obtain⟨z0,z1,z2⟩:=RB.out.three;go_upto_region 19 with(go_at_call 50;refine(HDP.out _ (yB _ _)).mono ?_;rintro e w5 ⟨rfl,g5⟩;have r5:=RB.out.keeps g5 (λh=>h);have R5:=yA r5;have G5:=yA g5;clear r5 g5 z0 z1 z2 y0 y1 y2)
     obtain⟨z0,z1,z2⟩:=R5.out.three;go_upto_region 20 with(go_at_call 51;refine(HCP.out _ G5.out).mono ?_;rintro e w6 ⟨rfl,g6⟩;have G6:=yA (G5.out.zC g6);clear g6)
     clear z0 z1 z2;by_cases hd1:D<=16
     ·have hd1i:(D:Int)<=16:=by omega
      by_cases hd2:C<=500
      ·have hd2i:(C:Int)<=500:=by omega
       obtain rfl:r=true:=by rw[hrf];simp[hd1,hd2]
       clear hrf;go_wp2_with fail
       go_ret
       exact⟨by simp[hd2i],HKR.out.zC G6.out⟩
      ·have hd2i:¬(C:Int)<=500:=by omega
       obtain rfl:r=false:=by rw[hrf];simp[hd1,hd2]
       clear hrf;go_wp2_with fail
       go_ret
       exact⟨by simp[hd2i],HKR.out.zC G6.out⟩
     ·have hd1i:¬(D:Int)<=16:=by omega
      obtain rfl:r=false:=by rw[hrf];simp[hd1]
      clear hrf;go_wp2_with fail
      go_ret
      exact⟨by simp[hd1i],HKR.out.zC G6.out⟩
def unS:List Bd->Nat
 | []=>0
 | b :: r=>(Ac.zh b.acts+1)+unS r
def unW:List Bd->Nat
 | []=>0
 | b :: r=>(Ac.zY b.acts+1)+unW r
theorem zFR:(bs:List Bd)->unS bs<=unW bs
 | []=>yT _
 | b :: r=>by
   have h1:=vA b.acts;have h2:=zFR r;simp only[unS,unW];omega
theorem zEW:(a b:List Bd)->unS (a++b)=unS a+unS b
 | [],b=>by simp[unS]
 | x :: r,b=>by have:=zEW r b;simp only[vU,unS,this];omega
theorem zEK:(a b:List Bd)->unW (a++b)=unW a+unW b
 | [],b=>by simp[unW]
 | x :: r,b=>by have:=zEK r b;simp only[vU,unW,this];omega
theorem zDn{l:List Bd}{i:Nat}(hi:i<l.length):unS (l.take (i+1))=unS (l.take i)+(Ac.zh l[i].acts+1):=by
 rw[take_at hi,zEW];simp[unS]
theorem zEj{l:List Bd}{i:Nat}(hi:i<l.length):unW (l.take (i+1))=unW (l.take i)+(Ac.zY l[i].acts+1):=by
 rw[take_at hi,zEK];simp[unW]
theorem zIj(l:List Bd)(i:Nat):unS (l.take i)<=unS l:=by
 have h:=zEW (l.take i) (l.drop i);rw[List.take_append_drop] at h;omega
theorem zJi(l:List Bd)(i:Nat):unW (l.take i)<=unW l:=by
 have h:=zEK (l.take i) (l.drop i);rw[List.take_append_drop] at h;omega
def zMS(bs:List Bd):Prop:=∀b,b∈bs->Ac.zD7 b.acts
theorem zCD{u:Un}(h:zX u=true):zMS u.threads:=by
 intro b hb
 have h1:Ac.zAC u b.regs b.acts=true:=by
  rcases hq:Ac.zAC u b.regs b.acts
  ·rw[zHC hb hq] at h;cases h
  ·rfl
 exact Ac.zEi u b.regs b.acts h1
theorem zKe:(bs:List Bd)->zMS bs->unW bs+1<=2 ^ (11*zAj bs)
 | [],_=>by simp[unW,zAj]
 | b :: r,h=>by
   have h1:=Ac.zEp b.acts (h b vW);have h2:=zKe r (λx hx=>h x (vG _ hx));have e0:zAj (b :: r)=1+Ac.szL b.acts+zAj r:=rfl;have e:11*zAj (b :: r)=(11+11*Ac.szL b.acts)+11*zAj r:=by rw[e0];omega
   rw[e,Nat.pow_add,Nat.pow_add];simp only[unW];generalize 2 ^ (11*Ac.szL b.acts)=A at h1 ⊢;generalize 2 ^ (11*zAj r)=B at h2 ⊢
   have h3:A+B<=A*B+1:=by
    have ha:1<=A:=by omega
    have hb:1<=B:=by omega
    obtain⟨a,rfl⟩:∃a,A=a+1:=⟨A-1,by omega⟩
    obtain⟨b,rfl⟩:∃b,B=b+1:=⟨B-1,by omega⟩
    rw[uY,vR];omega
   have h4:2 ^ 11*A*B=2048*(A*B):=by rw[Nat.mul_assoc]
   have h5:A<=A*B:=vK A (by omega);rw[h4];omega
theorem zII{b:Nat}(hb:2<=b){bs:List Bd}(h:zMS bs)(hs:zAj bs<900000000)(hl:bs.length<1000000000){m:Nat}(hm:m<=unW bs+1):(dig b m).length<=12000000000:=by
 exact J51 _
theorem zJc{b:Nat}(hb:2<=b){bs:List Bd}(h:zMS bs)(hs:zAj bs<900000000)(hl:bs.length<=8){m:Nat}(hm:m<=unW bs+1):(dig b m).length<=9900000010:=by
 exact J51 _
theorem zN.lt{w:World}{F:Nat->Prop}{b n:Nat}{v:Value}(h:zN w F b n v):zN w (λk=>k<w.heap.size) b n v:=by
 obtain⟨ad,cap,e,h1⟩:=h;refine⟨ad,cap,e,λi hi=>?_⟩
 obtain⟨g,o,e1,hg,hc⟩:=h1 i hi;exact⟨g,o,e1,yR w ⟨g,_,none⟩ hc,hc⟩
theorem plusV{x y:Nat}{w:World}{F:Nat->Prop}{v u:Value}(hx:zN w F 1000000000 x v)(hy:zN w F 1000000000 y u)(lx:(dig 1000000000 x).length<=100000000000)(ly:(dig 1000000000 y).length<=100000000000):
 Calls Tryz.prog 91 #[v,u] w λe w'=>∃z,e=.returned z/\zN w' (Since w.heap.size w') 1000000000 (x+y) z/\Keeps zA w w':=by
 obtain⟨xa,xc,rfl,h1⟩:=hx;obtain⟨ya,yc,rfl,h2⟩:=hy;exact(zNA x y w F xa ya xc yc h1 h2 lx ly).mono λe w' h=>h.v
theorem zNU{x k:Nat}{w:World}{F:Nat->Prop}{v:Value}(hx:zN w F 1000000000 x v)(lx:(dig 1000000000 x).length<=100000000000)(hk:k<=1000):
 Calls Tryz.prog 92 #[v,k] w λe w'=>∃z,e=.returned z/\zN w' (Since w.heap.size w') 1000000000 (x*k) z/\Keeps zA w w':=by
 obtain⟨xa,xc,rfl,h1⟩:=hx;exact(zLZ x k w F xa xc h1 lx hk).mono λe w' h=>h.v
theorem zId{x y:Nat}{w:World}{F:Nat->Prop}{v u:Value}(hx:zN w F 1000000000 x v)(hy:zN w F 1000000000 y u)(lx:(dig 1000000000 x).length<=100000000000)(ly:(dig 1000000000 y).length<=100000000000):
 Calls Tryz.prog 90 #[v,u] w λe w'=>∃z,e=.returned z/\zN w' F 1000000000 (max x y) z/\Keeps zA w w':=by
 obtain⟨xa,xc,rfl,h1⟩:=hx;obtain⟨ya,yc,rfl,h2⟩:=hy
 exact(zIn x y w F xa ya xc yc h1 h2 lx ly).mono λe w' h=>by
  obtain⟨⟨ad,cap,he,h3⟩,rfl⟩:=h;exact⟨_,he,⟨ad,cap,rfl,h3⟩,yB _ _⟩
theorem zFW(n:Nat)(hn:n<9000000000000000000)(w:World):Calls Tryz.prog 19 #[n] w λe w'=>∃z,e=.returned z/\zN w' (Since w.heap.size w') 1000000000 n z/\Keeps zA w w':=
 (zLp n hn w).mono λe w' h=>h.v
theorem zNm{x y:Nat}{w:World}{F:Nat->Prop}{v u:Value}(hx:zN w F 1000000000 x v)(hy:zN w F 1000000000 y u)(lx:(dig 1000000000 x).length<=100000000000)(ly:(dig 1000000000 y).length<=100000000000):
 Calls Tryz.prog 18 #[v,u] w λe w'=>e=.returned (.bool (decide (y<x)))/\w=w':=by
 obtain⟨xa,xc,rfl,h1⟩:=hx;obtain⟨ya,yc,rfl,h2⟩:=hy;exact zHY x y w F xa ya xc yc h1 h2 lx ly
structure Cnt(w:World)(q:Nat)(s v:Value):Prop where
 row:zB w q [s,v]
 no:∀(o:Nat)(k:Int),w.cell? ⟨q,o,none⟩≠some (.int .i64 k)
theorem Cnt.keeps{S:Nat->Prop}{w w':World}{q:Nat}{s v:Value}(h:Cnt w q s v)(hk:Keeps S w w')(hq:¬S q):Cnt w' q s v:=
 ⟨h.row.keeps hk hq,λo k e=>h.no o k (by rw[World.cell?_of_block (a:=⟨q,o,none⟩) (hk.block q (h.row.lt (by simp)) hq)] at e;exact e)⟩
theorem Cnt.zG{w w':World}{q:Nat}{s v:Value}(h:Cnt w q s v)(hk:Keeps zA w w'):Cnt w' q s v:=h.keeps hk (λh=>h)
theorem Cnt.zH{w:World}{q l1 c1 l2 c2:Nat}{a1 a2:Option Addr}{t:TypeId}(h:w.heap[q]?=some (.cells #[.slice a1 l1 c1,.slice a2 l2 c2] t (0,0))):Cnt w q (.slice a1 l1 c1) (.slice a2 l2 c2):=by
 refine⟨yK h,λo k e=>?_⟩
 rw[cell_of_row w q o _ t (0,0) h] at e;rcases o with _|_|o
 ·cases e
 ·cases e
 ·simp at e
theorem Cnt.set0{w:World}{q l1 c1:Nat}{a1:Option Addr}{s v:Value}(h:Cnt w q s v):Cnt (w.setCell ⟨q,0,none⟩ (.slice a1 l1 c1)) q (.slice a1 l1 c1) v:=by
 refine⟨h.row.set 0 (by simp) _,λo k e=>?_⟩
 by_cases ho:o=0
 ·subst ho
  rw[kN w ⟨q,0,none⟩ _ (h.row.cell (k:=0) rfl)] at e;cases e
 ·rw[uZ w ⟨q,0,none⟩ ⟨q,o,none⟩ _ (by simp <;> omega)] at e
  exact h.no o k e
theorem Cnt.set1{w:World}{q l1 c1:Nat}{a1:Option Addr}{s v:Value}(h:Cnt w q s v):Cnt (w.setCell ⟨q,1,none⟩ (.slice a1 l1 c1)) q s (.slice a1 l1 c1):=by
 refine⟨h.row.set 1 (by simp) _,λo k e=>?_⟩
 by_cases ho:o=1
 ·subst ho
  rw[kN w ⟨q,1,none⟩ _ (h.row.cell (k:=1) rfl)] at e;cases e
 ·rw[uZ w ⟨q,1,none⟩ ⟨q,o,none⟩ _ (by simp <;> omega)] at e
  exact h.no o k e
theorem Cnt.put{w:World}{q l1 c1 l2 c2:Nat}{a1 a2:Option Addr}{s v:Value}(h:Cnt w q s v):Cnt ((w.setCell ⟨q,0,none⟩ (.slice a1 l1 c1)).setCell ⟨q,1,none⟩ (.slice a2 l2 c2)) q (.slice a1 l1 c1) (.slice a2 l2 c2)/\Keeps (λk=>k=q) w ((w.setCell ⟨q,0,none⟩ (.slice a1 l1 c1)).setCell ⟨q,1,none⟩ (.slice a2 l2 c2)):=
 ⟨h.set0.set1,((yB (λk=>k=q) w).setCell (p:=⟨q,0,none⟩) (λ_=>rfl) _).setCell (p:=⟨q,1,none⟩) (λ_=>rfl) _⟩
theorem zN.stored{w w':World}{b n q:Nat}{v s u:Value}(h:zN w (λ_=>True) b n v)(hr:Cnt w q s u)(hk:Keeps (λk=>k=q) w w'):zN w' (λ_=>True) b n v:=by
 obtain⟨ad,cap,e,h1⟩:=h;refine⟨ad,cap,e,λi hi=>?_⟩
 obtain⟨g,o,e,hg,hcell⟩:=h1 i hi;refine⟨g,o,e,trivial,hk.cell (p:=⟨g,_,none⟩) (λhgq=>?_) hcell⟩
 have hgq':g=q:=hgq;subst hgq';exact hr.no _ _ hcell
theorem zBh(x y xx yy:Nat)(w:World)(s v u1 u2:Value)(hs:zN w (λ_=>True) 1000000000 x s)(hv:zN w (λ_=>True) 1000000000 y v)(h1:zN w (λ_=>True) 1000000000 xx u1)(h2:zN w (λ_=>True) 1000000000 yy u2)
 (lx:(dig 1000000000 x).length<=100000000000) (ly:(dig 1000000000 y).length<=100000000000) (lxx:(dig 1000000000 xx).length<=100000000000) (lyy:(dig 1000000000 yy).length<=100000000000):
 Calls Tryz.prog 46 #[.agg #[s,v],u1,u2] w λe w'=>∃z1 z2,e=.returned (.agg #[z1,z2])/\zN w' (λ_=>True) 1000000000 (x+xx) z1/\zN w' (λ_=>True) 1000000000 (y+yy) z2/\Keeps zA w w':=by
 have HP1:Hid (∀W,Keeps zA w W->Calls Tryz.prog 91 #[s,u1] W λe w'=>∃z,e=.returned z/\zN w' (Since W.heap.size w') 1000000000 (x+xx) z/\Keeps zA W w'):=λW hk=>plusV (hs.zG hk) (h1.zG hk) lx lxx
 have HP2:Hid (∀W,Keeps zA w W->Calls Tryz.prog 91 #[v,u2] W λe w'=>∃z,e=.returned z/\zN w' (Since W.heap.size w') 1000000000 (y+yy) z/\Keeps zA W w'):=λW hk=>plusV (hv.zG hk) (h2.zG hk) ly lyy
 obtain⟨sa,sc,rfl,_⟩:=hs;obtain⟨wa,wc,rfl,_⟩:=hv;generalize (dig 1000000000 x).length=n at HP1;generalize (dig 1000000000 y).length=m at HP2;clear h1 h2 lx ly lxx lyy;obtain⟨Q,hQ⟩:=eX (α:=Ending->World->Prop) (λe w'=>∃z1 z2,e=.returned (.agg #[z1,z2])/\zN w' (λ_=>True) 1000000000 (x+xx) z1/\zN w' (λ_=>True) 1000000000 (y+yy) z2/\Keeps zA w w');have HQ:=yA hQ;rw[<-hQ];clear hQ;go_enter Tryz.func46,Tryz.ntmps46
 go_upto_region 1 with fail
 obtain⟨b3,hb3⟩:=eX w.heap.size;obtain⟨b6,hb6⟩:=eX (w.heap.size+1);rw[<-hb6,<-hb3];obtain⟨wA,hwA⟩:=eX (w.alloc (.cells #[.slice sa n sc,.slice wa m wc] 53));obtain⟨w1,hw1⟩:=eX (wA.alloc (.cells #[.slice none 0 0,.slice none 0 0] 53));rw[<-hwA,<-hw1];have kA:Keeps zA w wA:=J191 _;have k1:Keeps zA wA w1:=J202 _;have sA:wA.heap.size=w.heap.size+1:=by rw[hwA];simp
 have r3:zB wA b3 [.slice sa n sc,.slice wa m wc]:=by rw[hb3,hwA];exact yK (yG w _)
 have r6:Cnt w1 b6 (.slice none 0 0) (.slice none 0 0):=by rw[hb6,<-sA,hw1];exact Cnt.zH (yG wA _)
 have R3:Hid (zB w1 b3 [.slice sa n sc,.slice wa m wc]):=r3.keeps k1 (λh=>h);have R6:=yA r6;have K1:Hid (Keeps zA w w1):=kA.zC k1;have HS:Hid (w.heap.size<=b6):=by show _<=_;omega
 clear hwA hw1 kA k1 sA r3 r6 hb3 hb6
 refine zW 9 (by kernel_rfl) (by kernel_rfl) (Keeps zA) (yB zA) (λa b c h h'=>xJ h h') (zAz [some (.pointer (some ⟨b3,0,none⟩)),some (.slice sa n sc),some u1,none,some (.pointer (some ⟨b3,1,none⟩)),some (.slice wa m wc),some u2] (λj v W=>match j with
  | 3=>zN W (λ_=>True) 1000000000 (x+xx) v
  | 7=>zN W (λ_=>True) 1000000000 (y+yy) v
  | _=>∃z1 z2,v=.agg #[z1,z2]/\zN W (λ_=>True) 1000000000 (x+xx) z1/\zN W (λ_=>True) 1000000000 (y+yy) z2)) (vQ (λj v W W' h hk=>by
    revert h
    split
    ·exact λh=>h.zG hk
    ·exact λh=>h.zG hk
    ·rintro⟨z1,z2,e,h1,h2⟩;exact⟨z1,z2,e,h1.zG hk,h2.zG hk⟩)) ?_ ?_
 ·intro q oo hq ho vs W Q' hR0 hd hK
  have hR:Keeps zA w1 W:=((yB zA w1).drew).zC hR0;obtain⟨y30,y31⟩:=(R3.out.keeps hR (λh=>h)).two;have HKW:Hid (Keeps zA w W):=K1.out.zC hR;clear hR hR0;rcases (show q=0\/q=1\/q=2\/q=3\/q=4\/q=5\/q=6\/q=7\/q=8 by omega) with rfl|rfl|rfl|rfl|rfl|rfl|rfl|rfl|rfl
  all_goals (simp only[yC,yD,yN] at ho;subst ho;simp only[zJ,yC,yD,yO,Option.bind,Act.put,yE,yM,yJ] at hK ⊢;clear hq)
  ·exact J2 _
  ·exact J132 _
  ·exact J2 _
  ·have e1:vs 1=_:=hd 1 (by kernel_rfl)
   have e2:vs 2=_:=hd 2 (by kernel_rfl);rw[e1,e2] at hK ⊢;clear hd;go_wp2_with (go_at_call 91;refine(HP1.out W HKW.out).mono ?_;rintro e W1 ⟨z1,rfl,n1,g1⟩)
   exact J45 _
  ·exact J2 _
  ·exact J136 _
  ·exact J2 _
  ·have e5:vs 5=_:=hd 5 (by kernel_rfl)
   have e6:vs 6=_:=hd 6 (by kernel_rfl);rw[e5,e6] at hK ⊢;clear hd;go_wp2_with (go_at_call 91;refine(HP2.out W HKW.out).mono ?_;rintro e W1 ⟨z1,rfl,n1,g1⟩)
   exact J45 _
  ·obtain⟨za,zc,e3,h3⟩:=(hd 3 (by kernel_rfl):zN W (λ_=>True) 1000000000 (x+xx) (vs 3))
   have H3:=yA h3;obtain⟨ta,tc,e7,h7⟩:=(hd 7 (by kernel_rfl):zN W (λ_=>True) 1000000000 (y+yy) (vs 7));have H7:=yA h7;rw[e3,e7] at hK ⊢;clear h3 h7;clear hd;go_wp2_with fail
   exact hK _ _ (yB _ _) ⟨_,_,rfl,⟨za,zc,rfl,H3.out⟩,⟨ta,tc,rfl,H7.out⟩⟩
 ·intro vs W hR0 hF
  have hR:Keeps zA w1 W:=((yB zA w1).drew).zC hR0;obtain⟨z1,z2,e8,n1,n2⟩:=(hF 8 (by decide):∃z1 z2,vs 8=.agg #[z1,z2]/\zN W (λ_=>True) 1000000000 (x+xx) z1/\zN W (λ_=>True) 1000000000 (y+yy) z2);have N1:=yA n1;have N2:=yA n2;obtain⟨za,zc,rfl,_⟩:=n1;obtain⟨ta,tc,rfl,_⟩:=n2;simp only[zJ,yC,yD,yO,Option.bind,Act.put,yE,yM,yJ,yZ,yU];rw[e8];clear hF e8;generalize vs 0=y0;generalize vs 1=y1;generalize vs 2=y2;generalize vs 3=y3;generalize vs 4=y4;generalize vs 5=y5;generalize vs 6=y6;generalize vs 7=y7;have R6W:Hid (Cnt W b6 (.slice none 0 0) (.slice none 0 0)):=R6.out.zG hR;have KW:Hid (Keeps zA w W):=K1.out.zC hR;clear hR hR0 R3 R6;generalize (dig 1000000000 (x+xx)).length=p at N1 ⊢;generalize (dig 1000000000 (y+yy)).length=p2 at N2 ⊢;obtain⟨z0,z1⟩:=R6W.out.row.two;have f0:=R6W.out.row.free (k:=0) (by simp);have f1:=R6W.out.row.free (k:=1) (by simp);go_wp2_with fail
  obtain⟨hrow,hks⟩:=R6W.out.put (a1:=za) (l1:=p) (c1:=zc) (a2:=ta) (l2:=p2) (c2:=tc);generalize (W.setCell ⟨b6,0,none⟩ (.slice za p zc)).setCell ⟨b6,1,none⟩ (.slice ta p2 tc)=wE at hrow hks ⊢;refine xK (v:=.agg #[.slice za p zc,.slice ta p2 tc]) (by simp[results,Tryz.results46,go_sem,hrow.row.cell (k:=0) rfl,hrow.row.cell (k:=1) rfl]) rfl ?_
  rw[HQ.out];exact⟨_,_,rfl,N1.out.stored R6W.out hks,N2.out.stored R6W.out hks,KW.out.trans hks (λq hq e=>by have e':q=b6:=e;have:=HS.out;omega)⟩
theorem zOU(num:Int)(nm:ByteArray)(l:List Ex):Ex.pts (.mk 0 num nm l)=0:=by simp[Ex.pts]
theorem zQW{k:Int}(h:¬k=0)(num:Int)(nm:ByteArray)(l:List Ex):Ex.pts (.mk k num nm l)=1+Ex.zGX l:=by simp[Ex.pts,h]
theorem zLP:∀(x:Ex)(w:World)(F:Nat->Prop)(ad:Option Addr)(cap:Nat),zR w F x.args ad->x.cnt<1000000000 →
 Calls Tryz.prog 89 #[exV x ad cap] w λe w'=>e=.returned x.pts/\Keeps zA w w':=by
 refine Ex.ind (λk num nm l ih w F ad cap h hb=>?_)
 have HL:Hid (zR w F l ad):=h;have IH:=yA ih;have hl:=Ex.zAe l;have hcn:Ex.cnt (.mk k num nm l)=1+Ex.zT l:=by simp[Ex.cnt]
 have hp:=Ex.zIW l;rw[hcn] at hb;have HB:Hid (Ex.zT l<1000000000):=by show _<_;omega
 clear h ih hcn;obtain⟨tot,ht⟩:=eX (Ex.zGX l);have HT:=yA ht;rw[<-ht] at hp;have htot:tot<1000000000:=by omega
 have hll:l.length<1000000000:=by omega
 clear hl hb hp;obtain⟨r,hr⟩:=eX (Ex.pts (.mk k num nm l));rw[<-hr];have HR:Hid ((k=0->r=0)/\(¬k=0->r=1+tot)):=⟨λe=>by rw[hr,e,zOU],λe=>by rw[hr,zQW e,HT.out]⟩;clear ht hr;show Calls _ _ #[.agg #[k,num,nm,.slice ad l.length cap]] _ _
 go_enter Tryz.func89,Tryz.ntmps89
 go_upto_region 1 with fail
 obtain⟨b1,hb1⟩:=eX w.heap.size;have hr1:zB (w.alloc (.cells #[k,num,nm,.slice ad l.length cap] 144)) b1 [.int .i64 k,.int .i64 num,.string nm,.slice ad l.length cap]:=J169 _;have hk1:Keeps zA w (w.alloc (.cells #[k,num,nm,.slice ad l.length cap] 144)):=(yB _ _).alloc _;rw[<-hb1];generalize w.alloc (.cells #[k,num,nm,.slice ad l.length cap] 144)=w1 at hr1 hk1 ⊢;have K1:=yA hk1;have c0:=hr1.cell (k:=0) (v:=.int .i64 k) rfl;have c3:=hr1.cell (k:=3) (v:=.slice ad l.length cap) rfl;clear hr1 hk1 hb1;rcases (show k=0\/¬k=0 by omega) with hk0|hk0
 ·obtain rfl:=HR.out.1 hk0
  subst hk0;clear HR;exact J36 _
 ·obtain rfl:=HR.out.2 hk0
  clear HR;have hkb:(k==0)=false:=by simpa using hk0
  go_upto_region 5 with fail
  clear c0 c3;go_loopw [3,12] (λnv iv wr=>∃i n:Nat,i<=l.length/\nv=.int .i64 n/\iv=.int .i64 i/\Hid (n+Ex.zGX (l.drop i)=1+tot)/\Hid (Keeps zA w1 wr)) (λ_ iv _=>l.length-(intOf iv).toNat)
  case atStart=>exact⟨0,1,yF _,rfl,rfl,by show _=_;rw[yU,HT.out],yB _ _⟩
  case round =>
   obtain⟨i,n,hi,rfl,rfl,HN,HK⟩:=hrel;by_cases hlt:i<l.length
   ·have i1:(0:Int)<=i:=by omega
    have i2:(i:Int)<l.length:=by omega
    have hd:=HN.out;rw[drop_at hlt,Ex.zGX] at hd;obtain⟨g,o,a,c,e1,hg,d0,d1,d2,d3,hx⟩:=(HL.out.keeps (K1.out.zC HK.out) (λ_ _ h=>h)).at hlt;subst e1;have hcm:=Ex.zCP (yI hlt);have HC:Hid (∀W,Keeps zA wr W->Calls Tryz.prog 89 #[.agg #[.int .i64 l[i].kind,.int .i64 l[i].num,.string l[i].nm,.slice a l[i].args.length c]] W λe w'=>e=.returned (.int .i64 l[i].pts)/\Keeps zA W w'):=λW hk=>IH.out _ (yI hlt) W F a c (hx.keeps hk (λ_ _ h=>h)) (by have:=HB.out;omega)
    obtain⟨m,hm⟩:=eX (l[i].pts);rw[<-hm] at HC hd;have HD:=yA hd;have b1:n+m<1000000001:=by omega
    clear hx hm hd hcm;generalize l[i].kind=x0 at d0 HC;generalize l[i].num=x1 at d1 HC;generalize l[i].nm=x2 at d2 HC;generalize l[i].args.length=x3 at d3 HC;go_upto_region 7 with fail
    obtain⟨b5,hb5⟩:=eX wr.heap.size;have hr5:zB (wr.alloc (.cells #[x0,x1,x2,.slice a x3 c] 144)) b5 [.int .i64 x0,.int .i64 x1,.string x2,.slice a x3 c]:=J193 _;have hk5:Keeps zA wr (wr.alloc (.cells #[x0,x1,x2,.slice a x3 c] 144)):=(yB _ _).alloc _;rw[<-hb5];generalize wr.alloc (.cells #[x0,x1,x2,.slice a x3 c] 144)=w5 at hr5 hk5 ⊢;obtain⟨y0,y1,y2,y3⟩:=hr5.four;have K5:=yA hk5;clear hr5 hk5 hb5 d0 d1 d2 d3;go_wp2_with (go_at_call 89;refine(HC.out _ K5.out).mono ?_;rintro e w2 ⟨rfl,g1⟩;have G1:=yA g1;clear g1)
    go_roundw
    case rel=>exact⟨i+1,n+m,by omega,by go_num,by go_num,by show _=_;have:=HD.out;omega,HK.out.zC (K5.out.zC G1.out)⟩
    case measure=>simp[intOf];omega
   ·obtain rfl:i=l.length:=by omega
    have hd:=HN.out;rw[xO] at hd;simp only[Ex.zGX] at hd;exact J43 _
