/- Layer D: texts joined. -/
import Derived.Test.YtoapgjjepiopbaaGreatDoorD18
set_option linter.all false
set_option maxHeartbeats 4000000
set_option maxRecDepth 8000
namespace Go.Proofs.YtoapgjjepiopbaaGreatDoor
open Go.RowKit
theorem J241(P:Prop)(h:P:=by have h1:=zIj bs (i+1);have h2:=zFR bs;rw[zDn hlt] at h1;show _<=_;omega):P:=h
theorem zHG(cs:List Int)(mu:Int)(bs:List Bd)(w:World)(F:Nat->Prop)(uca uta:Option Addr)(ucc utc:Nat)(hbd:zBy w F bs uta)(hF:∀k,F k->k<w.heap.size)(hok:zMS bs)(hsz:zAj bs<900000000)(hl2:bs.length<1000000000):
 Calls Tryz.prog 17 #[.agg #[.slice uca cs.length ucc,mu,.slice uta bs.length utc]] w λe w'=>∃z1 z2,e=.returned (.agg #[z1,z2])/\zN w' (λ_=>True) 1000000000 (unS bs) z1/\zN w' (λ_=>True) 1000000000 (unW bs) z2/\Keeps zA w w':=by
 have HBD:=yA hbd;have HOK:=yA hok;have HSZ:=yA hsz;have HFs:=yA hF;have HLL:Hid (∀m,m<=unW bs+1->(dig 1000000000 m).length<=12000000000):=λm hm=>zII (by decide) hok hsz hl2 hm
 obtain⟨Q,hQ⟩:=eX (α:=Ending->World->Prop) (λe w'=>∃z1 z2,e=.returned (.agg #[z1,z2])/\zN w' (λ_=>True) 1000000000 (unS bs) z1/\zN w' (λ_=>True) 1000000000 (unW bs) z2/\Keeps zA w w');have HQ:=yA hQ;rw[<-hQ];clear hbd hok hsz hF hQ;go_enter Tryz.func17,Tryz.ntmps17
 go_upto_region 2 with fail
 obtain⟨b1,hb1⟩:=eX w.heap.size;obtain⟨b2,hb2⟩:=eX (w.heap.size+1);obtain⟨b3,hb3⟩:=eX (w.heap.size+1+1);rw[<-hb3,<-hb2,<-hb1];obtain⟨wA,hwA⟩:=eX (w.alloc (.cells #[.slice uca cs.length ucc,mu,.slice uta bs.length utc] 25));obtain⟨wB,hwB⟩:=eX (wA.alloc (.cells #[.slice none 0 0,.slice none 0 0] 53));obtain⟨w1,hw1⟩:=eX (wB.alloc (.cells #[.slice none 0 0,.slice none 0 0] 53));rw[<-hwA,<-hwB,<-hw1];have kA:Keeps zA w wA:=J191 _;have kB:Keeps zA wA wB:=by rw[hwB];exact(yB _ _).alloc _
 have k1:Keeps zA wB w1:=J202 _;have sA:wA.heap.size=w.heap.size+1:=by rw[hwA];simp
 have sB:wB.heap.size=w.heap.size+1+1:=by rw[hwB];simp[sA]
 have r1:zB wA b1 [.slice uca cs.length ucc,mu,.slice uta bs.length utc]:=by rw[hb1,hwA];exact yK (yG w _)
 have r2:Cnt wB b2 (.slice none 0 0) (.slice none 0 0):=by rw[hb2,<-sA,hwB];exact Cnt.zH (yG wA _)
 have r3:Cnt w1 b3 (.slice none 0 0) (.slice none 0 0):=by rw[hb3,<-sB,hw1];exact Cnt.zH (yG wB _)
 have R1:=r1.keeps (kB.zC k1) (λh=>h);have C2:Hid (Cnt w1 b2 (.slice none 0 0) (.slice none 0 0)):=r2.zG k1;have C3:=yA r3;have K1:Hid (Keeps zA w w1):=(kA.zC kB).zC k1;have HS:Hid (w.heap.size<=b2/\w.heap.size<=b3/\b2≠b3):=⟨by omega,by omega,by omega⟩;obtain⟨y0,y1,y2⟩:=R1.three;clear hwA hwB hw1 kA kB k1 sA sB r1 r2 r3 hb1 hb2 hb3 R1;go_upto_region 3 with fail
 clear y0 y1 y2;go_loopw [10] (λiv wr=>∃i:Nat,i<=bs.length/\iv=.int .i64 i/\Hid (zEl b3 w1 (unS (bs.take i)) (unW (bs.take i)) wr)) (λiv _=>bs.length-(intOf iv).toNat)
 case atStart=>exact⟨0,yF _,rfl,none,0,0,none,0,0,C3.out,zN.zero _ _ _,zN.zero _ _ _,yB _ _⟩
 case round =>
  obtain⟨i,hi,rfl,HI⟩:=hrel;obtain⟨a1,l1,c1,a2,l2,c2,hc,hn,hm,hk⟩:=HI.out;have HC:=yA hc;have HN:=yA hn;have HM:=yA hm;have HK:=yA hk;have KW:Hid (Keeps zA w wr):=K1.out.trans hk (λq hq e=>by have e':q=b3:=e;have:=HS.out;omega);clear hc hn hm hk HI;by_cases hlt:i<bs.length
  ·have i1:(0:Int)<=i:=by omega
   have i2:(i:Int)<bs.length:=by omega
   obtain⟨g,o,ba,bc,e1,hg,d0,d1,hx⟩:=(HBD.out.keeps KW.out (λ_ _ h=>h)) i hlt;subst e1;have hokb:=HOK.out _ (yI hlt);have hszb:Ac.szL bs[i].acts<1000000000:=J222 _;have HTT:Hid (∀W,Keeps zA wr W->Calls Tryz.prog 45 #[.slice ba bs[i].acts.length bc] W λe w'=>∃z1 z2,e=.returned (.agg #[z1,z2])/\zN w' (λ_=>True) 1000000000 (Ac.zh bs[i].acts) z1/\zN w' (λ_=>True) 1000000000 (Ac.zY bs[i].acts) z2/\Keeps zA W w'):=λW hk=>zOh _ W F ba bc (hx.keeps hk (λ_ _ h=>h)) (λk h=>yH (yH (HFs.out k h) KW.out.size) hk.size) hszb hokb
   have HTS:=yA (zDn hlt);have HTW:=yA (zEj hlt);have HPS:Hid (unS (bs.take i)+(Ac.zh bs[i].acts+1)<=unW bs):=J241 _;have HPW:Hid (unW (bs.take i)+(Ac.zY bs[i].acts+1)<=unW bs):=by have h1:=zJi bs (i+1);rw[zEj hlt] at h1;show _<=_;omega
   clear hx hokb hszb;generalize Ac.zh bs[i].acts=ts at HTT HTS HPS;generalize Ac.zY bs[i].acts=tw at HTT HTW HPW;generalize bs[i].acts.length=x1 at d1 HTT;generalize bs[i].regs=x0 at d0;go_upto_region 5 with fail
   obtain⟨b5,hb5⟩:=eX wr.heap.size;have hr5:zB (wr.alloc (.cells #[x0,.slice ba x1 bc] 48)) b5 [.int .i64 x0,.slice ba x1 bc]:=J193 _;have hk5:Keeps zA wr (wr.alloc (.cells #[x0,.slice ba x1 bc] 48)):=(yB _ _).alloc _;rw[<-hb5];generalize wr.alloc (.cells #[x0,.slice ba x1 bc] 48)=w5 at hr5 hk5 ⊢;obtain⟨y0,y1⟩:=hr5.two;have K5:=yA hk5;clear hr5 hk5 hb5 d0 d1;go_upto_region 6 with(go_at_call 45;refine(HTT.out _ K5.out).mono ?_;rintro e w6 ⟨u1,u2,rfl,n1,n2,g6⟩;have U1:=yA n1;have U2:=yA n2;obtain⟨p1,r1,rfl,_⟩:=n1;generalize (dig 1000000000 ts).length=q1 at U1 ⊢;obtain⟨p2,r2,rfl,_⟩:=n2;generalize (dig 1000000000 tw).length=q2 at U2 ⊢;have G6:Hid (Keeps zA wr w6):=K5.out.zC g6;clear g6 y0 y1)
   obtain⟨b6,hb6⟩:=eX w6.heap.size;have hc6:Cnt (w6.alloc (.cells #[.slice p1 q1 r1,.slice p2 q2 r2] 53)) b6 (.slice p1 q1 r1) (.slice p2 q2 r2):=by rw[hb6];exact Cnt.zH (yG w6 _)
   have hkX:Keeps zA w6 (w6.alloc (.cells #[.slice p1 q1 r1,.slice p2 q2 r2] 53)):=(yB _ _).alloc _;rw[<-hb6];generalize w6.alloc (.cells #[.slice p1 q1 r1,.slice p2 q2 r2] 53)=wX at hc6 hkX ⊢;have hk:=G6.out.zC hkX;have CX:=yA (HC.out.zG hk);have NX:=yA (HN.out.zG hk);have MX:=yA (HM.out.zG hk);have UX1:=yA (U1.out.zG hkX);have UX2:=yA (U2.out.zG hkX);have KX:Hid (Keeps (λk=>k=b3) w1 wX):=HK.out.trans hk (λ_ _ h=>h.elim);obtain⟨y60,y61⟩:=hc6.row.two;obtain⟨t0,t1⟩:=CX.out.row.two;clear hc6 hkX hk hb6 HC HN HM HK U1 U2 G6 K5
   have HDC:Hid (∀(a b c d:Nat)(W:World)(s v u1 u2:Value),(a<=unW bs/\b<=unW bs/\c<=unW bs/\d<=unW bs)->zN W (λ_=>True) 1000000000 a s->zN W (λ_=>True) 1000000000 b v->zN W (λ_=>True) 1000000000 c u1->zN W (λ_=>True) 1000000000 d u2 →
    Calls Tryz.prog 46 #[.agg #[s,v],u1,u2] W λe w'=>∃z1 z2,e=.returned (.agg #[z1,z2])/\zN w' (λ_=>True) 1000000000 (a+c) z1/\zN w' (λ_=>True) 1000000000 (b+d) z2/\Keeps zA W w'):=λa b c d W s v u1 u2 h h1 h2 h3 h4=>zBh a b c d W s v u1 u2 h1 h2 h3 h4 (by have:=HLL.out a (by omega);omega) (by have:=HLL.out b (by omega);omega) (by have:=HLL.out c (by omega);omega) (by have:=HLL.out d (by omega);omega)
   have E1:Hid (1<=unW bs):=by have:=HPW.out;show _<=_;omega
   go_upto_region 7 with(first
    | (go_at_call 19;have _tag:=O8;refine(zFW 1 (by decide) _).mono ?_;rintro e w9 ⟨z9,rfl,n9,g9⟩;have O9:Hid (zN w9 (λ_=>True) 1000000000 1 z9):=n9.mono (λ_ _=>trivial);have O89:=yA (O8.out.zG g9);have N9:=yA (N8.out.zG g9);have M9:=yA (M8.out.zG g9);have G9:Hid (Keeps zA wX w9):=G8.out.zC g9;clear g9 n9 _tag)
    | (go_at_call 19;refine(zFW 1 (by decide) _).mono ?_;rintro e w8 ⟨z8,rfl,n8,g8⟩;have O8:Hid (zN w8 (λ_=>True) 1000000000 1 z8):=n8.mono (λ_ _=>trivial);have N8:=yA (N7.out.zG g8);have M8:=yA (M7.out.zG g8);have G8:Hid (Keeps zA wX w8):=G7.out.zC g8;clear g8 n8)
    | (go_at_call 46;have _tag:=N9;refine(HDC.out (unS (bs.take i)+ts) (unW (bs.take i)+tw) 1 1 _ _ _ _ _ (by have:=HPS.out;have:=HPW.out;omega) N9.out M9.out O89.out O9.out).mono ?_;rintro e w10 ⟨z11,z12,rfl,n10,m10,g10⟩;have N10:=yA n10;have M10:=yA m10;obtain⟨p3,r3,rfl,_⟩:=n10;generalize (dig 1000000000 (unS (bs.take i)+ts+1)).length=q3 at N10 ⊢;obtain⟨p4,r4,rfl,_⟩:=m10;generalize (dig 1000000000 (unW (bs.take i)+tw+1)).length=q4 at M10 ⊢;have G10:Hid (Keeps zA wX w10):=G9.out.zC g10;have C10:=yA (CX.out.zG G10.out);have c:=C10.out.row.two;obtain⟨t0,t1⟩:=c;have f0:=C10.out.row.free (k:=0) (by simp);have f1:=C10.out.row.free (k:=1) (by simp);clear g10 _tag)
    | (go_at_call 46;refine(HDC.out (unS (bs.take i)) (unW (bs.take i)) ts tw _ _ _ _ _ (by have:=HPS.out;have:=HPW.out;omega) NX.out MX.out UX1.out UX2.out).mono ?_;rintro e w7 ⟨z5,z6,rfl,n7,m7,g7⟩;have N7:=yA n7;have M7:=yA m7;have G7:=yA g7;clear g7 n7 m7 t0 t1 y60 y61))
   go_wp2_with fail
   go_roundw
   case rel =>
    refine⟨i+1,by omega,by go_num,?_⟩
    show zEl _ _ _ _ _
    rw[HTS.out,HTW.out,<-uI,<-uI];exact zEl.put C10.out N10.out M10.out (KX.out.trans G10.out (λ_ _ h=>h.elim))
   case measure=>simp[intOf];omega
  ·obtain rfl:i=bs.length:=by omega
   have h1:=HN.out;have h2:=HM.out;rw[xS] at h1 h2;have HE1:=yA h1;have HE2:=yA h2;clear h1 h2 HN HM;obtain⟨t0,t1⟩:=HC.out.row.two;have C2r:Hid (Cnt wr b2 (.slice none 0 0) (.slice none 0 0)):=C2.out.keeps HK.out (λe=>HS.out.2.2 e);obtain⟨u0,u1⟩:=C2r.out.row.two;have f0:=C2r.out.row.free (k:=0) (by simp);have f1:=C2r.out.row.free (k:=1) (by simp);go_wp2_with fail
   obtain⟨hrow,hks⟩:=C2r.out.put (a1:=a1) (l1:=l1) (c1:=c1) (a2:=a2) (l2:=l2) (c2:=c2);generalize (wr.setCell ⟨b2,0,none⟩ (.slice a1 l1 c1)).setCell ⟨b2,1,none⟩ (.slice a2 l2 c2)=wE at hrow hks ⊢;refine xK (v:=.agg #[.slice a1 l1 c1,.slice a2 l2 c2]) (by simp[results,Tryz.results17,go_sem,hrow.row.cell (k:=0) rfl,hrow.row.cell (k:=1) rfl]) rfl ?_
   exact J95 _
