/- Layer D: texts joined. -/
import Derived.Test.YtoapgjjepiopbaaGreatDoorD20
import Derived.Test.YtoapgjjepiopbaaGreatDoorD18
set_option linter.all false
set_option maxHeartbeats 4000000
set_option maxRecDepth 8000
namespace Go.Proofs.YtoapgjjepiopbaaGreatDoor
open Go.RowKit
theorem J69(P:Prop)(h:P:=by exact hK _ _ g1 ⟨by simp,ad2,cp2,rfl,zk.zAb ho rfl (λkb e=>⟨hb1 kb e,zM ho e⟩),HB7.out⟩):P:=h
theorem J122(P:Prop) (h:P:=by
 obtain rfl:=HNO2.out (λh=>by omega);go_wp2_with fail
 go_ret
 exact⟨rfl,HKR.out.zC K5.out⟩):P:=h
theorem J230(P:Prop)(h:P:=by have e':k=b3:=e;rw[HTP.out] at hk;exact hk.2.2 e'):P:=h
def crD(j:Nat):List Nat:=
 match j with
 | 3=>[3]
 | 6=>[6]
 | 10=>[10]
 | 11=>[3,6,10]
 | 12=>[12]
 | _=>[]
def zEP(B0 n0 n1 n2:Nat)(j:Nat)(v:Value)(gs:Nat->Nat × Nat)(W:World):Prop:=
 match j with
 | 3=>∃ad cp,v=.slice ad n0 cp/\zk W (In (gs 3)) (.slice ad n0 cp) n0/\B0<=(gs 3).1
 | 6=>∃ad cp,v=.slice ad n1 cp/\zk W (In (gs 6)) (.slice ad n1 cp) n1/\B0<=(gs 6).1
 | 10=>∃ad cp,v=.slice ad n2 cp/\zk W (In (gs 10)) (.slice ad n2 cp) n2/\B0<=(gs 10).1
 | 11=>∃a0 c0 a1 c1 a2 c2,v=.agg #[.slice a0 n0 c0,.slice a1 n1 c1,.slice a2 n2 c2,.slice none 0 0]/\(zk W (In (gs 3)) (.slice a0 n0 c0) n0/\B0<=(gs 3).1)/\(zk W (In (gs 6)) (.slice a1 n1 c1) n1/\B0<=(gs 6).1)/\zk W (In (gs 10)) (.slice a2 n2 c2) n2/\B0<=(gs 10).1
 | _=>∃b,v=.pointer (some ⟨b,0,none⟩)/\b=(gs 12).1/\b<(gs 12).2/\B0<=(gs 12).1/\zB W b [.slice none 0 0,.slice none 0 0,.slice none 0 0,.slice none 0 0]
theorem zEP.st{B0 n0 n1 n2:Nat}(j:Nat)(v:Value)(gs:Nat->Nat × Nat)(W W':World)(h:zEP B0 n0 n1 n2 j v gs W)(hk:Keeps zA W W'):zEP B0 n0 n1 n2 j v gs W':=by
 unfold zEP at *;exact J32 _
theorem zEP.loc{B0 n0 n1 n2:Nat}(j:Nat)(hj:j=3\/j=6\/j=10\/j=11\/j=12)(v:Value)(gs gs':Nat->Nat × Nat)(W:World)(hg:∀a,a∈crD j->gs a=gs' a)(h:zEP B0 n0 n1 n2 j v gs W):zEP B0 n0 n1 n2 j v gs' W:=by
 rcases hj with rfl|rfl|rfl|rfl|rfl
 ·have e:=hg 3 (by simp[crD]);unfold zEP at *;simp only[] at *;rw[<-e];exact h
 ·have e:=hg 6 (by simp[crD]);unfold zEP at *;simp only[] at *;rw[<-e];exact h
 ·have e:=hg 10 (by simp[crD]);unfold zEP at *;simp only[] at *;rw[<-e];exact h
 ·have e7:=hg 3 (by simp[crD]);have e11:=hg 6 (by simp[crD]);have e15:=hg 10 (by simp[crD]);unfold zEP at *;simp only[] at *;rw[<-e7,<-e11,<-e15];exact h
 ·have e:=hg 12 (by simp[crD]);unfold zEP at *;simp only[] at *;rw[<-e];exact h
def zRh(B0 n0 n1 n2:Nat)(j:Nat)(v:Value)(gs:Nat->Nat × Nat)(W:World):Prop:=
 (j=3\/j=6\/j=10\/j=11\/j=12)/\zEP B0 n0 n1 n2 j v gs W
theorem zCo(cs:List Int)(mu:Int)(bs:List Bd)(w:World)(F:Nat->Prop)(uca uta:Option Addr)(ucc utc:Nat)
 (hcs:zAw w F cs uca) (hbd:zBy w F bs uta) (hF:∀k,F k->k<w.heap.size) (hk:∀b,b∈bs->Ac.zBe b.acts) (hsz:zAj bs<900000000) (hl1:cs.length<1000000000) (hl2:bs.length<1000000000):
 Calls Tryz.prog 16 #[.agg #[.slice uca cs.length ucc,mu,.slice uta bs.length utc]] w λe w'=>e=.returned (.bool (zX ⟨cs,mu,bs⟩))/\Keeps zA w w':=by
 have HCS:=yA hcs;have HBD:=yA hbd;have HFs:=yA hF;have HKD:=yA hk;have HSZ:=yA hsz;obtain⟨j0,hj0,hz0,hz1,hz2⟩:=info_parts zJh;obtain⟨r,hr⟩:=eX (zX ⟨cs,mu,bs⟩);have HR:=yA hr;rw[<-hr];clear hcs hbd hF hk hsz hr;go_enter Tryz.func16,Tryz.ntmps16
 go_upto_region 1 with fail
 obtain⟨b1,hb1⟩:=eX w.heap.size;have hr1:zB (w.alloc (.cells #[.slice uca cs.length ucc,mu,.slice uta bs.length utc] 25)) b1 [.slice uca cs.length ucc,.int .i64 mu,.slice uta bs.length utc]:=J169 _;have hk1:Keeps zA w (w.alloc (.cells #[.slice uca cs.length ucc,mu,.slice uta bs.length utc] 25)):=(yB _ _).alloc _;have hs1:b1<(w.alloc (.cells #[.slice uca cs.length ucc,mu,.slice uta bs.length utc] 25)).heap.size:=by rw[hb1];simp
 rw[<-hb1];generalize w.alloc (.cells #[.slice uca cs.length ucc,mu,.slice uta bs.length utc] 25)=w1 at hr1 hk1 hs1 ⊢;obtain⟨d0,d1,d2⟩:=hr1.three;have R1:=yA hr1;have K1:=yA hk1;have S1:Hid (b1<w1.heap.size/\w.heap.size<=b1):=⟨hs1,by omega⟩;clear hr1 hk1 hb1 hs1;have HNO:Hid (¬zEa ⟨cs,mu,bs⟩->false=r):=λh=>by rw[HR.out,zFD h]
 have l1:(0:Int)<=bs.length:=by omega
 have l2:(0:Int)<=cs.length:=by omega
 rcases xR bs.length 1 with q1|q1
 ·exact J165 _
 have q1':¬(bs.length:Int)<1:=by omega
 rcases xR 8 bs.length with q2|q2
 ·exact J164 _
 have q2':¬(8:Int)<bs.length:=by omega
 rcases xR 8 cs.length with q3|q3
 ·exact J163 _
 have q3':¬(8:Int)<cs.length:=by omega
 rcases vE mu 0 with q4|q4
 ·obtain rfl:=HNO.out (λh=>by have h1:0<=mu:=h.2.2.2.1;omega)
  exact J36 _
 have q4':¬mu<0:=by omega
 rcases vE 8 mu with q5|q5
 ·obtain rfl:=HNO.out (λh=>by have h1:mu<=8:=h.2.2.2.2;omega)
  exact J36 _
 have q5':¬8<mu:=by omega
 have HHD:Hid (zEa ⟨cs,mu,bs⟩):=⟨q1,q2,q3,q4,q5⟩;go_upto_region 3 with fail
 clear d0 d1 d2 q4' q5' q3' q2' q1' l1 l2 hl1 hl2;obtain⟨n1,hn1⟩:∃n:Nat,mu=(n:Int):=⟨mu.toNat,by omega⟩
 obtain⟨n0,hn0⟩:=eX cs.length;obtain⟨n2,hn2⟩:=eX bs.length;have HNN:Hid (n0=cs.length/\mu=(n1:Int)/\n2=bs.length):=⟨hn0,hn1,hn2⟩;have HBN:Hid (n0<=8/\n1<=8/\n2<=8/\1<=n2):=⟨by omega,by omega,by omega,by omega⟩;have R1':Hid (zB w1 b1 [.slice uca n0 ucc,n1,.slice uta n2 utc]):=by have h:=R1.out;rw[<-hn0,<-hn2,hn1] at h;exact h
 have HC0:Hid (∀W,Calls Tryz.prog 42 #[n0] W (zBb 9 1 W n0 (xs n0))):=λW=>zEq n0 (by omega) W
 have HC1:Hid (∀W,Calls Tryz.prog 42 #[n1] W (zBb 9 1 W n1 (xs n1))):=λW=>zEq n1 (by omega) W
 have HC2:Hid (∀W,Calls Tryz.prog 42 #[n2] W (zBb 9 1 W n2 (xs n2))):=λW=>zEq n2 (by omega) W
 rw[<-hn0,<-hn2,hn1];clear hn0 hn1 hn2 q1 q2 q3 q4 q5;refine zCJ 13 (by kernel_rfl) (by kernel_rfl) crD (by kernel_rfl) (Keeps zA) (yB zA) (λa b c h h'=>xJ h h') (λa b h=>h.size) (zDl [some (.pointer (some ⟨b1,0,none⟩)),some (.slice uca n0 ucc),some (.int .i64 n0),none,some (.pointer (some ⟨b1,1,none⟩)),some (.int .i64 n1),none,some (.pointer (some ⟨b1,2,none⟩)),some (.slice uta n2 utc),some (.int .i64 n2)] (zRh w1.heap.size n0 n1 n2)) (zDl.st (λj v gs W W' h hk=>⟨h.1,zEP.st j v gs W W' h.2 hk⟩)) (zDl.loc (D:=crD) (λj v gs gs' W hg h=>⟨h.1,zEP.loc j h.1 v gs gs' W hg h.2⟩)) ?_ ?_
 ·intro q oo hq ho vs gs W Q' hR0 hd hK
  have hR:Keeps zA w1 W:=((yB zA w1).drew).zC hR0;obtain⟨y10,y11,y12⟩:=(R1'.out.keeps hR (λh=>h)).three;have HB7:Hid (w1.heap.size<=W.heap.size):=hR.size;clear hR hR0;rcases (show q=0\/q=1\/q=2\/q=3\/q=4\/q=5\/q=6\/q=7\/q=8\/q=9\/q=10\/q=11\/q=12 by omega) with rfl|rfl|rfl|rfl|rfl|rfl|rfl|rfl|rfl|rfl|rfl|rfl|rfl
  all_goals (simp only[yC,yD,yN] at ho;subst ho;simp only[zJ,yC,yD,yO,Option.bind,Act.put,yE,yM,yJ] at hK ⊢;clear hq)
  ·exact J2 _
  ·exact J132 _
  ·exact J137 _
  ·have e2:vs 2=_:=hd 2 (by kernel_rfl)
   rw[e2] at hK ⊢;clear hd;go_wp2_with (go_at_call 42;refine(HC0.out W).mono ?_;rintro e W1 ⟨ad2,cp2,rfl,ho,g1,hb1⟩)
   exact J69 _
  ·exact J2 _
  ·exact J136 _
  ·have e5:vs 5=_:=hd 5 (by kernel_rfl)
   rw[e5] at hK ⊢;clear hd;go_wp2_with (go_at_call 42;refine(HC1.out W).mono ?_;rintro e W1 ⟨ad2,cp2,rfl,ho,g1,hb1⟩)
   exact J69 _
  ·exact J2 _
  ·exact J147 _
  ·exact J146 _
  ·have e9:vs 9=_:=hd 9 (by kernel_rfl)
   rw[e9] at hK ⊢;clear hd;go_wp2_with (go_at_call 42;refine(HC2.out W).mono ?_;rintro e W1 ⟨ad2,cp2,rfl,ho,g1,hb1⟩)
   exact J69 _
  ·obtain⟨_,a0,c0,e3,h3⟩:=(hd 3 (by kernel_rfl):_/\∃ad cp,vs 3=.slice ad n0 cp/\zk W (In (gs 3)) (.slice ad n0 cp) n0/\w1.heap.size<=(gs 3).1)
   have H3:=yA h3;obtain⟨_,a1,c1,e6,h6⟩:=(hd 6 (by kernel_rfl):_/\∃ad cp,vs 6=.slice ad n1 cp/\zk W (In (gs 6)) (.slice ad n1 cp) n1/\w1.heap.size<=(gs 6).1);have H6:=yA h6;obtain⟨_,a2,c2,e10,h10⟩:=(hd 10 (by kernel_rfl):_/\∃ad cp,vs 10=.slice ad n2 cp/\zk W (In (gs 10)) (.slice ad n2 cp) n2/\w1.heap.size<=(gs 10).1);have H10:=yA h10;rw[e3,e6,e10] at hK ⊢;clear h3 h6 h10;clear hd;go_wp2_with fail
   exact hK _ _ (yB _ _) ⟨by simp,a0,c0,a1,c1,a2,c2,rfl,H3.out,H6.out,H10.out⟩
  ·exact J89 _
 ·intro vs gs W hR0 hF hGS hGD
  have hR:Keeps zA w1 W:=((yB zA w1).drew).zC hR0;have HRW:=yA hR;have HKW:Hid (Keeps zA w W):=K1.out.zC hR;obtain⟨_,a0,c0,a1,c1,a2,c2,e11,hs3,hs6,hs10⟩:=(hF 11 (by decide):_/\∃a0 c0 a1 c1 a2 c2,vs 11=.agg #[.slice a0 n0 c0,.slice a1 n1 c1,.slice a2 n2 c2,.slice none 0 0]/\(zk W (In (gs 3)) (.slice a0 n0 c0) n0/\w1.heap.size<=(gs 3).1)/\(zk W (In (gs 6)) (.slice a1 n1 c1) n1/\w1.heap.size<=(gs 6).1)/\zk W (In (gs 10)) (.slice a2 n2 c2) n2/\w1.heap.size<=(gs 10).1);obtain⟨_,b3,e12,q1,q2,q3,hz3⟩:=(hF 12 (by decide):_/\∃b,vs 12=.pointer (some ⟨b,0,none⟩)/\b=(gs 12).1/\b<(gs 12).2/\w1.heap.size<=(gs 12).1/\zB W b [.slice none 0 0,.slice none 0 0,.slice none 0 0,.slice none 0 0]);obtain⟨TP,hTP⟩:=eX (α:=Nat->Prop) (λk=>w1.heap.size<=k/\k<W.heap.size/\k≠b3);have g3:=hGD 3 12 (by decide) (by decide) (by decide);have g6:=hGD 6 12 (by decide) (by decide) (by decide);have g10:=hGD 10 12 (by decide) (by decide) (by decide);have l3:=hGS 3 (by decide);have l6:=hGS 6 (by decide);have l10:=hGS 10 (by decide);have l12:=hGS 12 (by decide);have HN0:Hid (zk W TP (.slice a0 n0 c0) n0):=hs3.1.mono (λk hk=>by exact J175 _);have HN1:Hid (zk W TP (.slice a1 n1 c1) n1):=hs6.1.mono (λk hk=>by exact J175 _);have HN2:Hid (zk W TP (.slice a2 n2 c2) n2):=hs10.1.mono (λk hk=>by exact J175 _);have HTP:=yA hTP;have HB3:Hid (w1.heap.size<=b3/\b3<W.heap.size):=⟨by omega,by omega⟩;have hzr:=yA hz3;simp only[zJ,yC,yD,yO,Option.bind,Act.put,yE,yM,yJ,yZ,yU];rw[e11,e12];clear hF e11 e12;generalize vs 0=y0;generalize vs 1=y1;generalize vs 2=y2;generalize vs 3=y3;generalize vs 4=y4;generalize vs 5=y5;generalize vs 6=y6;generalize vs 7=y7;generalize vs 8=y8;generalize vs 9=y9;generalize vs 10=y10;clear hR hR0 hs3 hs6 hs10 hGS hGD q1 q2 q3 g3 g6 g10 l3 l6 l10 l12 hTP HC0 HC1 HC2;obtain⟨z0,z1,z2,z3⟩:=hz3.four;have f0:=hz3.free (k:=0) (by simp);have f1:=hz3.free (k:=1) (by simp);have f2:=hz3.free (k:=2) (by simp)
  have f3:=hz3.free (k:=3) (by simp);clear hz3;go_upto_region 4 with fail
  have rX:zB ((((W.setCell ⟨b3,0,none⟩ (.slice a0 n0 c0)).setCell ⟨b3,1,none⟩ (.slice a1 n1 c1)).setCell ⟨b3,2,none⟩ (.slice a2 n2 c2)).setCell ⟨b3,3,none⟩ (.slice none 0 0)) b3 [.slice a0 n0 c0,.slice a1 n1 c1,.slice a2 n2 c2,.slice none 0 0]:=(((hzr.out.set 0 (by simp) _).set 1 (by simp) _).set 2 (by simp) _).set 3 (by simp) _;have kX:Keeps (λq=>q=b3) W ((((W.setCell ⟨b3,0,none⟩ (.slice a0 n0 c0)).setCell ⟨b3,1,none⟩ (.slice a1 n1 c1)).setCell ⟨b3,2,none⟩ (.slice a2 n2 c2)).setCell ⟨b3,3,none⟩ (.slice none 0 0)):=((((yB (λq=>q=b3) W).setCell (p:=⟨b3,0,none⟩) (λ_=>rfl) _).setCell (p:=⟨b3,1,none⟩) (λ_=>rfl) _).setCell (p:=⟨b3,2,none⟩) (λ_=>rfl) _).setCell (p:=⟨b3,3,none⟩) (λ_=>rfl) _;generalize (((W.setCell ⟨b3,0,none⟩ (.slice a0 n0 c0)).setCell ⟨b3,1,none⟩ (.slice a1 n1 c1)).setCell ⟨b3,2,none⟩ (.slice a2 n2 c2)).setCell ⟨b3,3,none⟩ (.slice none 0 0)=wX at rX kX ⊢;have RX:=yA rX;have KX:=yA kX;have KX1:Hid (Keeps zA w1 wX):=HRW.out.trans kX (λq hq e=>by have e':q=b3:=e;have:=HB3.out;omega);have KXw:Hid (Keeps zA w wX):=K1.out.zC KX1.out;have XN0:Hid (zk wX TP (.slice a0 n0 c0) n0):=HN0.out.keeps kX (λk hk e=>by exact J230 _);have XN1:Hid (zk wX TP (.slice a1 n1 c1) n1):=HN1.out.keeps kX (λk hk e=>by exact J230 _);have XN2:Hid (zk wX TP (.slice a2 n2 c2) n2):=HN2.out.keeps kX (λk hk e=>by exact J230 _);have hTb:Hid (∀q,TP q->¬(λq=>q=b3) q):=λq hq e=>by have e':q=b3:=e;rw[HTP.out] at hq;exact hq.2.2 e'
  have hFb:Hid (∀q,F q->¬(λq=>q=b3) q):=λq hq e=>by have e':q=b3:=e;have:=HFs.out q hq;have:=S1.out;have:=HB3.out;omega
  have R1X:Hid (zB wX b1 [.slice uca n0 ucc,n1,.slice uta n2 utc]):=R1'.out.keeps KX1.out (λh=>h);have CSX:Hid (zAw wX F cs uca):=HCS.out.keeps KXw.out (λ_ _ h=>h);have BDX:Hid (zBy wX F bs uta):=HBD.out.keeps KXw.out (λ_ _ h=>h);have ne13:Hid (b1≠b3):=by have:=S1.out;have:=HB3.out;show _≠_;omega
  obtain⟨B,hB⟩:=eX wX.heap.size;have HBE:Hid (B=wX.heap.size/\b3<B/\b1<B/\w.heap.size<=b3/\w.heap.size<=b1/\W.heap.size<=B/\w.heap.size<=w1.heap.size):=⟨hB,by have:=HB3.out;have:=KX.out.size;omega,by have:=S1.out;have:=KX1.out.size;omega,by have:=S1.out;have:=HB3.out;omega,S1.out.2,by rw[hB];exact KX.out.size,K1.out.size⟩;clear rX kX z0 z1 z2 z3 f0 f1 f2 f3 hzr HRW HKW hB;obtain⟨y10,y11,y12⟩:=R1X.out.three;go_upto_region 5 with fail
  clear y10 y11 y12;obtain⟨rs,hrs⟩:=eX (α:=List Nat) (bs.map λb=>b.regs.toNat);have HRS:Hid (rs=bs.map λb=>b.regs.toNat):=hrs;have HRL:Hid (rs.length=n2):=by show _=_;rw[hrs,kE,HNN.out.2.2]
  clear hrs;have hb2:n2<=8:=HBN.out.2.2.1;go_loopw [47] (λiv wr=>∃(i:Nat)(ga:Option Addr)(gc:Nat)(css:List (List Value)),i<=n2/\iv=.int .i64 i/\Hid (zB wr b3 [.slice a0 n0 c0,.slice a1 n1 c1,.slice a2 n2 c2,.slice ga i gc])/\Hid (Acc zFP (λ_=>False) B 1 93 wr (.slice ga i gc) (rs.take i) css)/\Hid (Keeps (λq=>q=b3) wX wr)/\Hid (∀j (hj:j<bs.length),j<i->0<=bs[j].regs/\bs[j].regs<=8)) (λiv _=>n2-(intOf iv).toNat)
  case atStart=>exact⟨0,none,0,[],yF _,rfl,RX,Acc.nil wX,yB _ _,λj hj h=>by omega⟩
  case round =>
   obtain⟨i,ga,gc,css,hi,rfl,RB,HA,HK,HU⟩:=hrel;by_cases hlt:i<n2
   ·have i1:(0:Int)<=i:=by omega
    have i2:(i:Int)<n2:=by omega
    have hlb:i<bs.length:=by have:=HNN.out;omega
    obtain⟨g,o,ba,bc,e1,hg,d0,d1,_⟩:=(BDX.out.keeps HK.out hFb.out) i hlb;subst e1;have HNO2:Hid (¬(0<=bs[i].regs/\bs[i].regs<=8)->false=r):=λh=>by rw[HR.out,zHH (u:=⟨cs,mu,bs⟩) (yI hlb) h]
    have HU2:Hid (0<=bs[i].regs/\bs[i].regs<=8->∀j (hj:j<bs.length),j<i+1->0<=bs[j].regs/\bs[j].regs<=8):=λh j hj hj2=>by
     exact J128 _
    have HTK:Hid (rs.take (i+1)=rs.take i++[bs[i].regs.toNat]):=by
     show _=_
     have hl:i<rs.length:=by have:=HRL.out;omega
     rw[take_at hl];congr 2
     have h1:=HRS.out;subst h1;rw[List.getElem_map]
    generalize bs[i].regs=x0 at d0 HNO2 HU2 HTK;generalize bs[i].acts.length=x1 at d1;go_upto_region 7 with fail
    obtain⟨b5,hb5⟩:=eX wr.heap.size;have hr5:zB (wr.alloc (.cells #[x0,.slice ba x1 bc] 48)) b5 [.int .i64 x0,.slice ba x1 bc]:=J193 _;have hk5:Keeps zA wr (wr.alloc (.cells #[x0,.slice ba x1 bc] 48)):=(yB _ _).alloc _;rw[<-hb5];generalize wr.alloc (.cells #[x0,.slice ba x1 bc] 48)=w5 at hr5 hk5 ⊢;obtain⟨t0,t1⟩:=hr5.two;have R5:=yA hr5;have K5:=yA hk5;have HKR:Hid (Keeps zA w wr):=KXw.out.trans HK.out (λq hq e=>by have e':q=b3:=e;have:=HBE.out;omega);clear hr5 hk5 hb5 d0 d1;rcases vE x0 0 with q4|q4
    ·exact J122 _
    have q4':¬x0<0:=by omega
    rcases vE 8 x0 with q5|q5
    ·exact J122 _
    have q5':¬8<x0:=by omega
    go_upto_region 9 with fail
    obtain⟨m,hm⟩:∃m:Nat,x0=(m:Int):=⟨x0.toNat,by omega⟩
    subst hm;have HM:Hid (m<=8):=by show _<=_;omega
    have HU3:=yA (HU2.out ⟨q4,q5⟩);have HTK2:Hid (rs.take (i+1)=rs.take i++[m]):=by have h:=HTK.out;rw[Int.toNat_natCast] at h;exact h
    have HC:Hid (∀W,Calls Tryz.prog 42 #[m] W (zBb 9 1 W m (xs m))):=λW=>zEq m (by have:=HM.out;omega) W
    clear q4 q5 q4' q5' t0 t1 HNO2 HU2 HTK
    refine zW 6 (by kernel_rfl) (by kernel_rfl) (Keeps zA) (yB zA) (λa b c h h'=>xJ h h') (zAz [some (.pointer (some ⟨b3,3,none⟩)),some (.slice ga i gc),some (.pointer (some ⟨b5,0,none⟩)),some (.int .i64 m)] (λj v W=>match j with
     | 4=>∃ad2 cp2,v=.slice ad2 m cp2/\zk W (Since w5.heap.size W) (.slice ad2 m cp2) m
     | _=>∃b ad2 cp2,v=.slice (some ⟨b,0,none⟩) 1 1/\zB W b [.slice ad2 m cp2]/\zk W (Since w5.heap.size W) (.slice ad2 m cp2) m)) (vQ (λj v W W' h hk=>by
       revert h
       split
       ·exact J41 _
       ·rintro⟨b,ad2,cp2,e,h0,h1⟩;exact⟨b,ad2,cp2,e,h0.keeps hk (λh=>h),(h1.keeps hk (λ_ _ h=>h)).mono (λk hk'=>⟨hk'.1,yH hk'.2 hk.size⟩)⟩)) ?_ ?_
    ·intro q oo hq ho vs W Q' hR0 hd hK
     have hR:Keeps zA w5 W:=((yB zA w5).drew).zC hR0;have hRr:Keeps zA wr W:=K5.out.zC hR;obtain⟨y30,y31,y32,y33⟩:=(RB.out.keeps hRr (λh=>h)).four;obtain⟨y50,y51⟩:=(R5.out.keeps hR (λh=>h)).two;have HB5:Hid (w5.heap.size<=W.heap.size):=hR.size;clear hR hR0 hRr;rcases (show q=0\/q=1\/q=2\/q=3\/q=4\/q=5 by omega) with rfl|rfl|rfl|rfl|rfl|rfl
     all_goals (simp only[yC,yD,yN] at ho;subst ho;simp only[zJ,yC,yD,yO,Option.bind,Act.put,yE,yM,yJ] at hK ⊢;clear hq)
     ·exact J2 _
     ·exact J132 _
     ·exact J2 _
     ·exact J135 _
     ·have e3:vs 3=_:=hd 3 (by kernel_rfl)
      rw[e3] at hK ⊢;clear hd;go_wp2_with (go_at_call 42;refine(HC.out W).mono ?_;rintro e W1 ⟨ad2,cp2,rfl,ho,g1,hb1⟩)
      exact hK _ _ g1 ⟨ad2,cp2,rfl,zk.zAb ho rfl (λkb e=>⟨yX HB5.out (hb1 kb e),zM ho e⟩)⟩
     ·obtain⟨ad2,cp2,e4,h4⟩:=(hd 4 (by kernel_rfl):∃ad2 cp2,vs 4=.slice ad2 m cp2/\zk W (Since w5.heap.size W) (.slice ad2 m cp2) m)
      exact J56 _
    ·intro vs W2 hR0 hF
     have hR:Keeps zA w5 W2:=((yB zA w5).drew).zC hR0;have HRW:=yA hR;have HKW:Hid (Keeps zA wr W2):=K5.out.zC hR;have e1:vs 1=_:=hF 1 (by decide);obtain⟨gs,ad2,cp2,e5,hgs,hys⟩:=(hF 5 (by decide):∃b ad2 cp2,vs 5=.slice (some ⟨b,0,none⟩) 1 1/\zB W2 b [.slice ad2 m cp2]/\zk W2 (Since w5.heap.size W2) (.slice ad2 m cp2) m);have HGS:=yA hgs;have HYS:=yA hys;simp only[zJ,yC,yD,yO,Option.bind,Act.put,yE,yM,yJ,yZ,yU];rw[e1,e5];clear hF e1 e5;generalize vs 0=y0;generalize vs 2=y2;generalize vs 3=y3;generalize vs 4=y4;clear hR hR0 hgs hys HC;have HAW:Hid (Acc zFP (λ_=>False) B 1 93 W2 (.slice ga i gc) (rs.take i) css):=HA.out.zG zOr HKW.out;have HLEN:Hid ((rs.take i).length=i):=by show _=_;rw[List.length_take];have:=HRL.out;omega
     have RBW:Hid (zB W2 b3 [.slice a0 n0 c0,.slice a1 n1 c1,.slice a2 n2 c2,.slice ga i gc]):=RB.out.keeps HKW.out (λh=>h);have hOB:Hid (∀q,(Value.slice ga i gc).ownBlock=some q->B<=q):=HA.out.2.2.1;have i3:i+1<=8:=by omega
     go_upto_region 10 with(at_builtin;refine zI _ (by rfl) _ _ 95 (by rfl) 0 93 j0 _ 1 24 Tryz.underlying95 hj0 hz0 hz1 hz2 rfl (by decide) (.slice ga i gc) i css.flatten (by rfl) (J188 _) (.slice (some ⟨gs,0,none⟩) 1 1) 1 [.slice ad2 m cp2] (by rfl) (xE HGS.out) rfl (J168 _) (by unfold maxLen;omega) (by omega) (yF _) ?_;intro da2 dc2 w4 ha;have HAO:=yA ha;have k4:=xD ha (yB (λq=>(Value.slice ga i gc).ownBlock=some q) W2) (λq e _=>e);have r4:=RBW.out.keeps k4 (λe=>by have:=hOB.out b3 e;have:=HBE.out;omega);have z3:=r4.cell (k:=3) (v:=.slice ga i gc) rfl;have f3:=r4.free (k:=3) (by simp);have R4W:=yA r4;have K4W:=yA k4;clear ha k4 r4)
     have hel:zFP W2 (zB1 (λ_=>False) B W2 (.slice ga i gc)) m [.slice ad2 m cp2]:=by
      refine⟨ad2,cp2,rfl,HYS.out.mono (λk hk=>.inr ⟨?_,hk.2,λe=>?_⟩)⟩
      ·have h1:=hk.1;have h2:=K5.out.size;have h3:=HK.out.size;have h4:=HBE.out.1;omega
      ·have h0:k<wr.heap.size:=zM HA.out.2.1 e
       have h1:=hk.1;have h2:=K5.out.size;omega
     have hBW:B<=W2.heap.size:=J212 _;have hset:Keeps (λq=>q=b3) w4 (w4.setCell ⟨b3,3,none⟩ (.slice da2 (i+1) dc2)):=(yB (λq=>q=b3) w4).setCell (p:=⟨b3,3,none⟩) (λ_=>rfl) _
     have hpush:Acc zFP (λ_=>False) B 1 93 (w4.setCell ⟨b3,3,none⟩ (.slice da2 (i+1) dc2)) (.slice da2 (i+1) dc2) (rs.take (i+1)) (css++[[.slice ad2 m cp2]]):=by
      have h1:=HAW.out.push zOr (λk hk=>hk.elim) hBW hel (by decide) (ad:=da2) (cap:=dc2) (w':=w4) (J199 _);rw[HLEN.out] at h1;rw[HTK2.out];exact h1.keeps zOr hset (λk hk=>⟨by have e':k=b3:=hk;have:=HBE.out;omega,λh=>h⟩)
     have hrow:zB (w4.setCell ⟨b3,3,none⟩ (.slice da2 (i+1) dc2)) b3 [.slice a0 n0 c0,.slice a1 n1 c1,.slice a2 n2 c2,.slice da2 (i+1) dc2]:=R4W.out.set 3 (by simp) _
     have hkeep:Keeps (λq=>q=b3) wX (w4.setCell ⟨b3,3,none⟩ (.slice da2 (i+1) dc2)):=
      (((HK.out.trans HKW.out (λ_ _ h=>h.elim)).trans K4W.out (λq hq e=>by exact J219 _)).trans hset (λ_ _ h=>h))
     have HPU:=yA hpush;have HRO:=yA hrow;have HKE:=yA hkeep;clear hpush hrow hkeep hset hel hBW z3 f3;go_wp2_with fail
     go_roundw
     case rel=>exact⟨i+1,da2,dc2,css++[[.slice ad2 m cp2]],by omega,by go_num,HRO,HPU,HKE,HU3⟩
     case measure=>simp[intOf];omega
   ·obtain rfl:i=n2:=by omega
    have hA:=HA.out;have e:rs.take i=rs:=by rw[<-HRL.out,xS]
    rw[e] at hA;have RGR:Hid (zEH wr (Since B wr) rs ga):=hA.rgs;clear hA HA e;have HKR:Hid (Keeps zA w wr):=KXw.out.trans HK.out (λq hq e=>by have e':q=b3:=e;have:=HBE.out;omega);obtain⟨y10,y11,y12⟩:=(R1X.out.keeps HK.out (λe=>ne13.out e)).three;obtain⟨y30,y31,y32,y33⟩:=RB.out.four
    have hreg:∀b,b∈bs->0<=b.regs/\b.regs<=8:=λb hb=>by
     obtain⟨j,hj,e⟩:=List.mem_iff_getElem.1 hb;rw[<-e];exact HU.out j hj (by have:=HNN.out;omega)
    have HRF:Hid (r=decide (zDX cs (zCq ⟨cs,mu,bs⟩ bs)=0)):=by show _=_;rw[HR.out];exact zNC HHD.out hreg
    obtain⟨ts,hts⟩:=eX (zCq ⟨cs,mu,bs⟩ bs);have htl:ts.length=i:=by rw[hts];unfold zCq;rw[kE,HNN.out.2.2]
    have HP:Hid (Calls Tryz.prog 44 #[.agg #[.slice uca n0 ucc,n1,.slice uta i utc],.agg #[.slice a0 n0 c0,.slice a1 n1 c1,.slice a2 i c2,.slice ga i gc]] wr λe w'=>∃pca pcc pma pmc pta ptc,e=.returned (.agg #[.slice pca n0 pcc,.slice pma n1 pmc,.slice pta i ptc])/\zCa w' (Since wr.heap.size w') cs pca/\zk w' (Since wr.heap.size w') (.slice pma n1 pmc) n1/\zAh w' (Since wr.heap.size w') xNm ts pta/\Keeps zA wr w'):=by
     have h1:=zIt cs mu bs rs wr F (λk=>TP k\/Since B wr k) uca uta a0 a1 a2 ga ucc utc n0 n1 i c0 c1 c2 gc (CSX.out.keeps HK.out hFb.out) (BDX.out.keeps HK.out hFb.out) ((XN0.out.keeps HK.out hTb.out).mono (λk h=>.inl h)) ((XN1.out.keeps HK.out hTb.out).mono (λk h=>.inl h)) ((XN2.out.keeps HK.out hTb.out).mono (λk h=>.inl h)) (RGR.out.mono (λk h=>.inr h)) HNN.out.1 HNN.out.2.1.symm HNN.out.2.2 (by rw[HRL.out,HNN.out.2.2]) (λj hj hj2=>by
      have h1:=HRS.out;subst h1;rw[List.getElem_map];have:=hreg _ (yI hj2)
      omega) (λk hk=>by
      rcases hk with hk|hk
      ·rw[HTP.out] at hk;have:=hk.2.1;have:=HBE.out;have:=HK.out.size;omega
      ·exact hk.2) (λk hk=>yH (HFs.out k hk) HKR.out.size) (by have:=HBN.out;have:=HNN.out;omega) (by have:=HBN.out;omega) (by have:=HBN.out;have:=HNN.out;omega) (λj hj=>by have:=zDk (yI hj);have:=HSZ.out;omega)
     have hq:(bs.map λb=>Ac.zS ⟨cs,mu,bs⟩ b.regs b.acts)=ts:=by rw[hts];rfl
     rw[hq,<-HNN.out.1,<-HNN.out.2.2,HNN.out.2.1,HRL.out] at h1;exact h1
    have HT:Hid (∀(W:World)(pca pma pta:Option Addr)(pcc pmc ptc:Nat),zCa W (Since wr.heap.size W) cs pca->zk W (Since wr.heap.size W) (.slice pma n1 pmc) n1->zAh W (Since wr.heap.size W) xNm ts pta->Calls Tryz.prog 43 #[.agg #[.slice pca n0 pcc,.slice pma n1 pmc,.slice pta i ptc]] W λe w'=>e=.returned (.int .i64 (zDX cs ts))/\Keeps zA W w'):=by
     intro W pca pma pta pcc pmc ptc h0 h1 h2
     have h3:=zG7 cs n1 ts W (Since wr.heap.size W) pca pma pta pcc pmc ptc h0 h1 h2 (by rw[hts];exact zKA _ _ HKD.out) (λk hk=>hk.2) (by rw[hts,zNj];exact HSZ.out) (by have:=HBN.out;have:=HNN.out;omega) (by have:=HBN.out;omega);rw[<-HNN.out.1,htl] at h3;exact h3
    rw[<-hts] at HRF;have hEr:∃E,E=zDX cs ts /\ -1000<E/\E<1000:=⟨_,rfl,by unfold zDX;split;decide;split;decide;split <;> decide,by unfold zDX;split;decide;split;decide;split <;> decide⟩
    obtain⟨E,hE,hE1,hE2⟩:=hEr;rw[<-hE] at HRF HT;clear hE hts htl hreg;go_upto_region 11 with fail
    rcases (show E=0\/¬E=0 by omega) with hE0|hE0
    ·obtain rfl:r=true:=by rw[HRF.out];simp[hE0]
     subst hE0;clear HRF
     go_wp2_with (first
      | (go_at_call 44;refine HP.out.mono ?_;rintro e w6 ⟨pca,pcc,pma,pmc,pta,ptc,rfl,p0,p1,p2,g6⟩;have P0:=yA p0;have P1:=yA p1;have P2:=yA p2;have G6:=yA g6;clear p0 p1 p2 g6)
      | (go_at_call 43;refine(HT.out _ _ _ _ _ _ _ P0.out P1.out P2.out).mono ?_;rintro e w7 ⟨rfl,g7⟩;have G7:=yA g7;clear g7))
     go_ret
     exact⟨rfl,(HKR.out.zC G6.out).zC G7.out⟩
    ·obtain rfl:r=false:=by rw[HRF.out];simp[hE0]
     clear HRF
     go_wp2_with (first
      | (go_at_call 44;refine HP.out.mono ?_;rintro e w6 ⟨pca,pcc,pma,pmc,pta,ptc,rfl,p0,p1,p2,g6⟩;have P0:=yA p0;have P1:=yA p1;have P2:=yA p2;have G6:=yA g6;clear p0 p1 p2 g6)
      | (go_at_call 43;refine(HT.out _ _ _ _ _ _ _ P0.out P1.out P2.out).mono ?_;rintro e w7 ⟨rfl,g7⟩;have G7:=yA g7;clear g7))
     go_ret
     exact⟨by simp[hE0],(HKR.out.zC G6.out).zC G7.out⟩
theorem zLy(x y:Nat)(w:World)(F:Nat->Prop)(xa ya:Option Addr)(xc yc:Nat)(hx:zAK w F 10 x xa)(hy:zAK w F 10 y ya)(lx:(dig 10 x).length<=100000000000)(ly:(dig 10 y).length<=100000000000):
 Calls Tryz.prog 54 #[.slice xa (dig 10 x).length xc,.slice ya (dig 10 y).length yc] w (zBf 10 (x+y) w):=by
 obtain⟨j0,hj0,hz0,hz1,hz2⟩:=info_parts zBI;have HX:=yA hx;have HY:=yA hy;obtain⟨N,hN⟩:=eX ((dig 10 (x+y)).length);have HN:=yA hN;obtain⟨p,hp⟩:=eX ((dig 10 x).length);obtain⟨q,hq⟩:=eX ((dig 10 y).length);have HPQ:Hid (p=(dig 10 x).length/\q=(dig 10 y).length):=⟨hp,hq⟩;have hrun:∀i,(i<max p q\/0<(x % 10 ^ i+y % 10 ^ i) / 10 ^ i)↔i<N:=λi=>by rw[hp,hq,hN];exact zI4 (by decide) x y i
 have HRUN:=yA hrun
 have hNL:N<=max p q+1:=by
  rcases xR (max p q+1) N with h|h
  ·have hx2:x<10 ^ (max p q):=uH λe=>by have:=(zi (by decide) (max p q) x).2 e;omega
   have hy2:y<10 ^ (max p q):=uH λe=>by have:=(zi (by decide) (max p q) y).2 e;omega
   have h2:10 ^ (max p q+1)<=x+y:=(zi (by decide) (max p q+1) (x+y)).1 (by omega);rw[xY] at h2;omega
  ·exact h
 unfold zBf;rw[<-hN];rw[<-hp] at lx ⊢;rw[<-hq] at ly ⊢;have hN9:N<=100000000001:=by omega
 clear hN hx hy hp hq hrun hNL;go_enter Tryz.func54,Tryz.ntmps54
 go_wp2_with fail
 go_loopw [5,6,7] (λov cv iv wr=>∃(i c:Nat)(da:Option Addr)(dc:Nat),i<=N/\iv=.int .i64 i/\cv=.int .i64 c/\ov=.slice da i dc/\Hid (c=(x % 10 ^ i+y % 10 ^ i) / 10 ^ i)/\c<2/\Hid (wr.ownsRow 0 3 1 (.slice da i dc) i (zCR 10 (x+y) i))/\Hid (Keeps zA w wr)/\Hid (∀kb,(Value.slice da i dc).ownBlock=some kb->w.heap.size<=kb)) (λ_ _ iv _=>N-(intOf iv).toNat)
 case atStart=>exact⟨0,0,none,0,yF _,rfl,rfl,rfl,by show _=_;simp[Nat.mod_one],by decide,World.ownsRow_nil _ _ _ _,yB _ _,λkb e=>by exact J170 _⟩
 case round =>
  obtain⟨i,c,da,dc,hi,rfl,rfl,rfl,HC,hc2,HO,HK,HB⟩:=hrel;have hrun:=HRUN.out i;rw[<-HC.out] at hrun;by_cases hlt:i<N
  ·have hs:=zHl (b:=10) (by decide) x y i
   have hcn:=zGW (b:=10) (by decide) x y (i+1);have hd1:=zCv (b:=10) (by decide) x i;have hd2:=zCv (b:=10) (by decide) y i;rw[<-HC.out] at hs;rw[<-hs.2] at hcn;have HD:Hid ((x / 10 ^ i % 10+y / 10 ^ i % 10+c) % 10=(x+y) / 10 ^ i % 10/\(x / 10 ^ i % 10+y / 10 ^ i % 10+c) / 10=(x % 10 ^ (i+1)+y % 10 ^ (i+1)) / 10 ^ (i+1)):=hs;have HC2:Hid ((x / 10 ^ i % 10+y / 10 ^ i % 10+c) / 10<2):=hcn
   have HCX:Hid (i<p->∃g o,xa=some ⟨g,o,none⟩/\wr.cell? ⟨g,o+i,none⟩=some (.int .i64 ((x / 10 ^ i % 10:Nat):Int))):=λh=>by
    obtain⟨g,o,e,_,c0⟩:=(HX.out.keeps HK.out (λ_ _ h=>h)) i (by have:=HPQ.out.1;omega);exact⟨g,o,e,c0⟩
   have HCY:Hid (i<q->∃g o,ya=some ⟨g,o,none⟩/\wr.cell? ⟨g,o+i,none⟩=some (.int .i64 ((y / 10 ^ i % 10:Nat):Int))):=λh=>by
    obtain⟨g,o,e,_,c0⟩:=(HY.out.keeps HK.out (λ_ _ h=>h)) i (by have:=HPQ.out.2;omega);exact⟨g,o,e,c0⟩
   have HZX:Hid (¬i<p->x / 10 ^ i % 10=0):=λh=>zEs (by decide) (by have:=HPQ.out.1;omega)
   have HZY:Hid (¬i<q->y / 10 ^ i % 10=0):=λh=>zEs (by decide) (by have:=HPQ.out.2;omega)
   clear hs hcn;generalize x / 10 ^ i % 10=d1 at HD hd1 HC2 HCX HZX;generalize y / 10 ^ i % 10=d2 at HD hd2 HC2 HCY HZY;have hor:=hrun.2 hlt;clear hrun;have i0:(0:Int)<=i:=by omega
   rcases (show(i<p/\i<q)\/(i<p/\¬i<q)\/(¬i<p/\i<q)\/(¬i<p/\¬i<q/\0<c) by omega) with⟨h1,h2⟩|⟨h1,h2⟩|⟨h1,h2⟩|⟨h1,h2,h3⟩
   ·obtain⟨g,o,e1,c1⟩:=HCX.out h1
    subst e1;have i1:(i:Int)<p:=by omega
    obtain⟨g2,o2,e2,c2⟩:=HCY.out h2;subst e2;have i2:(i:Int)<q:=by omega
    clear HCX HCY HZX HZY;go_wp2_with (at_builtin;refine zI _ (by rfl) _ _ 22 (by rfl) 0 3 j0 _ 1 8 Tryz.underlying22 hj0 hz0 hz1 hz2 rfl (by decide) (.slice da i dc) i (zCR 10 (x+y) i) (by rfl) (zD HO.out ((yB zA wr).alloc _) (λ_ _ h=>h)) (.slice (some ⟨wr.heap.size,0,none⟩) 1 1) 1 _ (by rfl) (xE (yK (yG wr _))) rfl (J168 _) (by unfold maxLen;omega) (by omega) (yF _) ?_;intro da2 dc2 w4 ha;have HA:=yA ha;clear ha)
    go_roundw
    case rel =>
     obtain⟨g1,g2,g3⟩:=grow HO.out HK.out HB.out (J190 _) HA.out;exact⟨i+1,(d1+d2+c) / 10,da2,dc2,by omega,by exact J177 _,by exact J177 _,by go_num,HD.out.2,by have:=HC2.out;omega,g1,g2,g3⟩
    case measure=>simp[intOf];omega
   ·obtain⟨g,o,e1,c1⟩:=HCX.out h1
    subst e1;have i1:(i:Int)<p:=by omega
    obtain rfl:=HZY.out h2;have i2:¬(i:Int)<q:=by omega
    clear HCX HCY HZX HZY;go_wp2_with (at_builtin;refine zI _ (by rfl) _ _ 22 (by rfl) 0 3 j0 _ 1 8 Tryz.underlying22 hj0 hz0 hz1 hz2 rfl (by decide) (.slice da i dc) i (zCR 10 (x+y) i) (by rfl) (zD HO.out ((yB zA wr).alloc _) (λ_ _ h=>h)) (.slice (some ⟨wr.heap.size,0,none⟩) 1 1) 1 _ (by rfl) (xE (yK (yG wr _))) rfl (J168 _) (by unfold maxLen;omega) (by omega) (yF _) ?_;intro da2 dc2 w4 ha;have HA:=yA ha;clear ha)
    go_roundw
    case rel =>
     obtain⟨g1,g2,g3⟩:=grow HO.out HK.out HB.out (J190 _) HA.out;exact⟨i+1,(d1+0+c) / 10,da2,dc2,by omega,by exact J177 _,by exact J177 _,by go_num,HD.out.2,by have:=HC2.out;omega,g1,g2,g3⟩
    case measure=>simp[intOf];omega
   ·obtain rfl:=HZX.out h1
    have i1:¬(i:Int)<p:=by omega
    obtain⟨g2,o2,e2,c2⟩:=HCY.out h2;subst e2;have i2:(i:Int)<q:=by omega
    clear HCX HCY HZX HZY;go_wp2_with (at_builtin;refine zI _ (by rfl) _ _ 22 (by rfl) 0 3 j0 _ 1 8 Tryz.underlying22 hj0 hz0 hz1 hz2 rfl (by decide) (.slice da i dc) i (zCR 10 (x+y) i) (by rfl) (zD HO.out ((yB zA wr).alloc _) (λ_ _ h=>h)) (.slice (some ⟨wr.heap.size,0,none⟩) 1 1) 1 _ (by rfl) (xE (yK (yG wr _))) rfl (J168 _) (by unfold maxLen;omega) (by omega) (yF _) ?_;intro da2 dc2 w4 ha;have HA:=yA ha;clear ha)
    go_roundw
    case rel =>
     obtain⟨g1,g2,g3⟩:=grow HO.out HK.out HB.out (J190 _) HA.out;exact⟨i+1,(0+d2+c) / 10,da2,dc2,by omega,by exact J177 _,by exact J177 _,by go_num,HD.out.2,by have:=HC2.out;omega,g1,g2,g3⟩
    case measure=>simp[intOf];omega
   ·obtain rfl:=HZX.out h1
    have i1:¬(i:Int)<p:=by omega
    obtain rfl:=HZY.out h2;have i2:¬(i:Int)<q:=by omega
    have i3:(0:Int)<c:=by omega
    clear HCX HCY HZX HZY;go_wp2_with (at_builtin;refine zI _ (by rfl) _ _ 22 (by rfl) 0 3 j0 _ 1 8 Tryz.underlying22 hj0 hz0 hz1 hz2 rfl (by decide) (.slice da i dc) i (zCR 10 (x+y) i) (by rfl) (zD HO.out ((yB zA wr).alloc _) (λ_ _ h=>h)) (.slice (some ⟨wr.heap.size,0,none⟩) 1 1) 1 _ (by rfl) (xE (yK (yG wr _))) rfl (J168 _) (by unfold maxLen;omega) (by omega) (yF _) ?_;intro da2 dc2 w4 ha;have HA:=yA ha;clear ha)
    go_roundw
    case rel =>
     obtain⟨g1,g2,g3⟩:=grow HO.out HK.out HB.out (J190 _) HA.out;exact⟨i+1,(0+0+c) / 10,da2,dc2,by omega,by exact J177 _,by exact J177 _,by go_num,HD.out.2,by have:=HC2.out;omega,g1,g2,g3⟩
    case measure=>simp[intOf];omega
  ·have h1:¬i<max p q:=λh=>hlt (hrun.1 (.inl h))
   have h2:¬0<c:=λh=>hlt (hrun.1 (.inr h))
   have i1:¬(i:Int)<p:=by omega
   have i2:¬(i:Int)<q:=by omega
   exact J17 _
theorem zKk(x k:Nat)(w:World)(F:Nat->Prop)(xa:Option Addr)(xc:Nat)(hx:zAK w F 10 x xa)(lx:(dig 10 x).length<=100000000000)(hk:k<=1000):
 Calls Tryz.prog 97 #[.slice xa (dig 10 x).length xc,k] w (zBf 10 (x*k) w):=by
 obtain⟨j0,hj0,hz0,hz1,hz2⟩:=info_parts zBI;by_cases hk0:k=0
 ·subst hk0
  unfold zBf;rw[Nat.mul_zero,zAp];generalize (dig 10 x).length=p;clear hx lx;go_enter Tryz.func97,Tryz.ntmps97
  go_wp2_with fail
  go_ret
  exact⟨none,0,rfl,zAK.zero _ _ _ _,yB _ _⟩
 have HX:=yA hx;have k0:0<k:=by omega
 have k0':¬(k:Int)=0:=by omega
 have k0b:((k:Int)==0)=false:=by simpa using k0'
 obtain⟨N,hN⟩:=eX ((dig 10 (x*k)).length);have HN:=yA hN;obtain⟨p,hp⟩:=eX ((dig 10 x).length);have HPQ:Hid (p=(dig 10 x).length):=hp;have hrun:∀i,(i<p\/0<x % 10 ^ i*k / 10 ^ i)↔i<N:=λi=>by rw[hp,hN];exact zHD (by decide) x k i k0
 have HRUN:=yA hrun
 have hNL:N<=p+3:=by
  rcases xR (p+3) N with h|h
  ·have hx2:x<10 ^ p:=uH λe=>by exact J240 _
   have h2:10 ^ (p+3)<=x*k:=(zi (by decide) (p+3) (x*k)).1 (by omega);rw[xY,xY,xY] at h2;have h3:x*k<=x*1000:=Nat.mul_le_mul_left x hk;omega
  ·exact h
 unfold zBf;rw[<-hN];rw[<-hp] at lx ⊢;have hN9:N<=100000000003:=by omega
 clear hN hx hp hrun hNL hk0;go_enter Tryz.func97,Tryz.ntmps97
 go_wp2_with fail
 go_loopw [5,6,7] (λov cv iv wr=>∃(i c:Nat)(da:Option Addr)(dc:Nat),i<=N/\iv=.int .i64 i/\cv=.int .i64 c/\ov=.slice da i dc/\Hid (c=x % 10 ^ i*k / 10 ^ i)/\c<1000/\Hid (wr.ownsRow 0 3 1 (.slice da i dc) i (zCR 10 (x*k) i))/\Hid (Keeps zA w wr)/\Hid (∀kb,(Value.slice da i dc).ownBlock=some kb->w.heap.size<=kb)) (λ_ _ iv _=>N-(intOf iv).toNat)
 case atStart=>exact⟨0,0,none,0,yF _,rfl,rfl,rfl,by show _=_;simp[Nat.mod_one],by decide,World.ownsRow_nil _ _ _ _,yB _ _,λkb e=>by exact J170 _⟩
 case round =>
  obtain⟨i,c,da,dc,hi,rfl,rfl,rfl,HC,hc2,HO,HK,HB⟩:=hrel;have hrun:=HRUN.out i;rw[<-HC.out] at hrun;by_cases hlt:i<N
  ·have hs:=zHb (b:=10) (by decide) x k i
   have hcn:=zFj (b:=10) (by decide) x k (i+1) k0;have hd1:=zCv (b:=10) (by decide) x i;rw[<-HC.out] at hs;rw[<-hs.2] at hcn;obtain⟨m,hm⟩:=eX (x / 10 ^ i % 10*k);have hm2:m<=10*1000:=by rw[hm];exact Nat.mul_le_mul (by omega) hk
   have HD:Hid ((m+c) % 10=x*k / 10 ^ i % 10/\(m+c) / 10=x % 10 ^ (i+1)*k / 10 ^ (i+1)):=by rw[hm];exact hs
   have HC2:Hid ((m+c) / 10<1000):=by rw[hm];show _<_;omega
   have HCX:Hid (i<p->∃g o,xa=some ⟨g,o,none⟩/\wr.cell? ⟨g,o+i,none⟩=some (.int .i64 ((x / 10 ^ i % 10:Nat):Int))):=λh=>by
    obtain⟨g,o,e,_,c0⟩:=(HX.out.keeps HK.out (λ_ _ h=>h)) i (by have:=HPQ.out;omega);exact⟨g,o,e,c0⟩
   have HZX:Hid (¬i<p->m=0):=λh=>by rw[hm,zEs (by decide) (by have:=HPQ.out;omega)];simp
   clear hs hcn;generalize x / 10 ^ i % 10=d1 at hd1 hm HCX;have hmi:((d1:Int)*(k:Int))=(m:Int):=by rw[hm,Int.natCast_mul]
   have hor:=hrun.2 hlt;clear hrun hm;have i0:(0:Int)<=i:=by omega
   rcases (show(i<p)\/(¬i<p/\0<c) by omega) with h1|⟨h1,h2⟩
   ·obtain⟨g,o,e1,c1⟩:=HCX.out h1
    subst e1;have i1:(i:Int)<p:=by omega
    clear HCX HZX;go_wp2_with (at_builtin;refine zI _ (by rfl) _ _ 22 (by rfl) 0 3 j0 _ 1 8 Tryz.underlying22 hj0 hz0 hz1 hz2 rfl (by decide) (.slice da i dc) i (zCR 10 (x*k) i) (by rfl) (zD HO.out ((yB zA wr).alloc _) (λ_ _ h=>h)) (.slice (some ⟨wr.heap.size,0,none⟩) 1 1) 1 _ (by rfl) (xE (yK (yG wr _))) rfl (J168 _) (by unfold maxLen;omega) (by omega) (yF _) ?_;intro da2 dc2 w4 ha;have HA:=yA ha;clear ha)
    go_roundw
    case rel =>
     obtain⟨g1,g2,g3⟩:=grow HO.out HK.out HB.out (J190 _) HA.out;exact⟨i+1,(m+c) / 10,da2,dc2,by omega,by exact J177 _,by exact J177 _,by go_num,HD.out.2,by have:=HC2.out;omega,g1,g2,g3⟩
    case measure=>simp[intOf];omega
   ·have hm0:=HZX.out h1
    clear hmi;subst hm0;have i1:¬(i:Int)<p:=by omega
    have i3:(0:Int)<c:=by omega
    clear HCX HZX;go_wp2_with (at_builtin;refine zI _ (by rfl) _ _ 22 (by rfl) 0 3 j0 _ 1 8 Tryz.underlying22 hj0 hz0 hz1 hz2 rfl (by decide) (.slice da i dc) i (zCR 10 (x*k) i) (by rfl) (zD HO.out ((yB zA wr).alloc _) (λ_ _ h=>h)) (.slice (some ⟨wr.heap.size,0,none⟩) 1 1) 1 _ (by rfl) (xE (yK (yG wr _))) rfl (J168 _) (by unfold maxLen;omega) (by omega) (yF _) ?_;intro da2 dc2 w4 ha;have HA:=yA ha;clear ha)
    go_roundw
    case rel =>
     obtain⟨g1,g2,g3⟩:=grow HO.out HK.out HB.out (J190 _) HA.out;exact⟨i+1,(0+c) / 10,da2,dc2,by omega,by exact J177 _,by exact J177 _,by go_num,HD.out.2,by have:=HC2.out;omega,g1,g2,g3⟩
    case measure=>simp[intOf];omega
  ·exact J158 _
