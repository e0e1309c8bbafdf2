/- Layer D: texts joined. -/
import Derived.Test.YtoapgjjepiopbaaGreatDoorD17
set_option linter.all false
set_option maxHeartbeats 4000000
set_option maxRecDepth 8000
namespace Go.Proofs.YtoapgjjepiopbaaGreatDoor
open Go.RowKit
theorem J160(P:Prop) (h:P:=by
 have e6:vs 6=_:=hd 6 (by kernel_rfl);rw[e6] at hK ⊢;exact J2 _):P:=h
theorem J167(P:Prop) (h:P:=by
 have e3:vs 3=_:=hd 3 (by kernel_rfl);have e4:vs 4=_:=hd 4 (by kernel_rfl);rw[e3,e4] at hK ⊢;exact J2 _):P:=h
theorem zIt(cs:List Int)(mu:Int)(bs:List Bd)(rs:List Nat)(w:World)(F N:Nat->Prop)(uca uta a0 a1 a2 a3:Option Addr)(ucc utc n0 n1 n2 c0 c1 c2 c3:Nat)
 (hcs:zAw w F cs uca) (hbd:zBy w F bs uta) (hn0:zk w N (.slice a0 n0 c0) n0) (hn1:zk w N (.slice a1 n1 c1) n1) (hn2:zk w N (.slice a2 n2 c2) n2) (hrg:zEH w N rs a3)
 (e0:n0=cs.length) (e1:(n1:Int)=mu) (e2:n2=bs.length) (e3:rs.length=bs.length) (e4:∀i (hi:i<rs.length) (hj:i<bs.length),(rs[i]:Int)=bs[i].regs) (hN:∀k,N k->k<w.heap.size) (hF:∀k,F k->k<w.heap.size)
 (m0:cs.length<=1000) (m1:n1<=1000) (m2:bs.length<=1000) (hsz:∀i (hi:i<bs.length),Ac.szL bs[i].acts<1000000000):
 Calls Tryz.prog 44 #[.agg #[.slice uca cs.length ucc,mu,.slice uta bs.length utc],.agg #[.slice a0 n0 c0,.slice a1 n1 c1,.slice a2 n2 c2,.slice a3 rs.length c3]] w λe w'=>∃pca pcc pma pmc pta ptc,e=.returned (.agg #[.slice pca cs.length pcc,.slice pma n1 pmc,.slice pta bs.length ptc])/\zCa w' (Since w.heap.size w') cs pca/\zk w' (Since w.heap.size w') (.slice pma n1 pmc) n1/\zAh w' (Since w.heap.size w') xNm (bs.map λb=>Ac.zS ⟨cs,mu,bs⟩ b.regs b.acts) pta/\Keeps zA w w':=by
 have HCS:=yA hcs;have HBD:=yA hbd;have HN0:=yA hn0;have HN1:=yA hn1;have HN2:=yA hn2;have HRG:=yA hrg;have HE:Hid (n0=cs.length/\(n1:Int)=mu/\n2=bs.length/\rs.length=bs.length):=⟨e0,e1,e2,e3⟩;have HE4:=yA e4;have HNs:=yA hN;have HFs:=yA hF;have HSZ:=yA hsz;have M1:=yA m1;have M2:=yA m2;obtain⟨j0,hj0,hz0,hz1,hz2⟩:=info_parts zNw;obtain⟨j3,hj3,hy0,hy1,hy2⟩:=info_parts zGC;obtain⟨Q,hQ⟩:=eX (α:=Ending->World->Prop) (λe w'=>∃pca pcc pma pmc pta ptc,e=.returned (.agg #[.slice pca cs.length pcc,.slice pma n1 pmc,.slice pta bs.length ptc])/\zCa w' (Since w.heap.size w') cs pca/\zk w' (Since w.heap.size w') (.slice pma n1 pmc) n1/\zAh w' (Since w.heap.size w') xNm (bs.map λb=>Ac.zS ⟨cs,mu,bs⟩ b.regs b.acts) pta/\Keeps zA w w');have HQ:=yA hQ;rw[<-hQ];clear hcs hbd hn0 hn1 hn2 hrg e0 e1 e2 e3 e4 hN hF hsz hQ m1;go_enter Tryz.func44,Tryz.ntmps44
 go_upto_region 2 with fail
 obtain⟨b2,hb2⟩:=eX w.heap.size;obtain⟨b3,hb3⟩:=eX (w.heap.size+1);obtain⟨b4,hb4⟩:=eX (w.heap.size+1+1);obtain⟨b5,hb5⟩:=eX (w.heap.size+1+1+1);rw[<-hb5,<-hb4,<-hb3,<-hb2];obtain⟨wA,hwA⟩:=eX (w.alloc (.cells #[.slice uca cs.length ucc,mu,.slice uta bs.length utc] 25));obtain⟨wB,hwB⟩:=eX (wA.alloc (.cells #[.slice a0 n0 c0,.slice a1 n1 c1,.slice a2 n2 c2,.slice a3 rs.length c3] 97));obtain⟨wC,hwC⟩:=eX (wB.alloc (.cells #[.slice none 0 0,.slice none 0 0,.slice none 0 0] 102));obtain⟨w1,hw1⟩:=eX (wC.alloc (.cells #[.slice none 0 0,.slice none 0 0,.slice none 0 0] 102));rw[<-hwA,<-hwB,<-hwC,<-hw1];have kA:Keeps zA w wA:=J191 _;have kB:Keeps zA wA wB:=by rw[hwB];exact(yB _ _).alloc _
 have kC:Keeps zA wB wC:=by rw[hwC];exact(yB _ _).alloc _
 have k1:Keeps zA wC w1:=J202 _;have sA:wA.heap.size=w.heap.size+1:=by rw[hwA];simp
 have sB:wB.heap.size=w.heap.size+1+1:=by rw[hwB];simp[sA]
 have sC:wC.heap.size=w.heap.size+1+1+1:=by rw[hwC];simp[sB]
 have s1:w1.heap.size=w.heap.size+1+1+1+1:=by rw[hw1];simp[sC]
 have r2:zB wA b2 [.slice uca cs.length ucc,mu,.slice uta bs.length utc]:=by rw[hb2,hwA];exact yK (yG w _)
 have r3:zB wB b3 [.slice a0 n0 c0,.slice a1 n1 c1,.slice a2 n2 c2,.slice a3 rs.length c3]:=by rw[hb3,<-sA,hwB];exact yK (yG wA _)
 have r4:zB wC b4 [.slice none 0 0,.slice none 0 0,.slice none 0 0]:=by rw[hb4,<-sB,hwC];exact yK (yG wB _)
 have r5:zB w1 b5 [.slice none 0 0,.slice none 0 0,.slice none 0 0]:=by rw[hb5,<-sC,hw1];exact yK (yG wC _)
 have R2:Hid (zB w1 b2 [.slice uca cs.length ucc,mu,.slice uta bs.length utc]):=r2.keeps (kB.zC (kC.zC k1)) (λh=>h);have R3:Hid (zB w1 b3 [.slice a0 n0 c0,.slice a1 n1 c1,.slice a2 n2 c2,.slice a3 rs.length c3]):=r3.keeps (kC.zC k1) (λh=>h);have R4:Hid (zB w1 b4 [.slice none 0 0,.slice none 0 0,.slice none 0 0]):=r4.keeps k1 (λh=>h);have R5:=yA r5;have K1:Hid (Keeps zA w w1):=kA.zC (kB.zC (kC.zC k1));have HS:Hid (w.heap.size<=b2/\w.heap.size<=b3/\w.heap.size<=b4/\w.heap.size<=b5/\b2<w1.heap.size/\b3<w1.heap.size/\b4<w1.heap.size/\b5<w1.heap.size/\b2≠b5/\b3≠b5/\b4≠b5):=⟨by omega,by omega,by omega,by omega,by omega,by omega,by omega,by omega,by omega,by omega,by omega⟩;clear hwA hwB hwC hw1 kA kB kC k1 sA sB sC s1 r2 r3 r4 r5 hb2 hb3 hb4 hb5;have ne2:Hid (b2≠b5):=HS.out.2.2.2.2.2.2.2.2.1;have ne3:Hid (b3≠b5):=HS.out.2.2.2.2.2.2.2.2.2.1;have ne4:Hid (b4≠b5):=HS.out.2.2.2.2.2.2.2.2.2.2;have hFb:Hid (∀q,F q->¬(λq=>q=b5) q):=λq hq e=>by have e':q=b5:=e;have:=HFs.out q hq;have:=HS.out.2.2.2.1;omega
 have hNb:Hid (∀q,N q->¬(λq=>q=b5) q):=λq hq e=>by exact J214 _
 have CS1:Hid (zAw w1 F cs uca):=HCS.out.keeps K1.out (λ_ _ h=>h);have BD1:Hid (zBy w1 F bs uta):=HBD.out.keeps K1.out (λ_ _ h=>h);have N01:Hid (zk w1 N (.slice a0 n0 c0) n0):=HN0.out.keeps K1.out (λ_ _ h=>h);have N11:Hid (zk w1 N (.slice a1 n1 c1) n1):=HN1.out.keeps K1.out (λ_ _ h=>h);have N21:Hid (zk w1 N (.slice a2 n2 c2) n2):=HN2.out.keeps K1.out (λ_ _ h=>h);have RG1:Hid (zEH w1 N rs a3):=HRG.out.keeps K1.out (λ_ _ h=>h);obtain⟨B,hB⟩:=eX w1.heap.size;have HBE:Hid (B=w1.heap.size/\b2<B/\b3<B/\b4<B/\b5<B/\w.heap.size<=B):=⟨hB,by have:=HS.out;omega,by have:=HS.out;omega,by have:=HS.out;omega,by have:=HS.out;omega,by have:=K1.out.size;omega⟩;clear hB HCS HBD HN0 HN1 HN2 HRG;obtain⟨x20,x21,x22⟩:=R2.out.three;go_upto_region 3 with fail
 clear x20 x21 x22;go_loopw [14] (λiv wr=>∃(i:Nat)(da:Option Addr)(dc:Nat)(css:List (List Value)),i<=cs.length/\iv=.int .i64 i/\Hid (zB wr b5 [.slice da i dc,.slice none 0 0,.slice none 0 0])/\Hid (Acc zGq (λ_=>False) B 2 182 wr (.slice da i dc) (cs.take i) css)/\Hid (Keeps (λq=>q=b5) w1 wr)) (λiv _=>cs.length-(intOf iv).toNat)
 case atStart=>exact⟨0,none,0,[],yF _,rfl,R5,Acc.nil w1,yB _ _⟩
 case round =>
  obtain⟨i,da,dc,css,hi,rfl,RB,HA,HK⟩:=hrel;by_cases hlt:i<cs.length
  ·have i1:(0:Int)<=i:=by omega
   have i2:(i:Int)<cs.length:=by omega
   have i4:(i:Int)<n0:=by have:=HE.out.1;omega
   obtain⟨g,o,q1,hg,d0⟩:=(CS1.out.keeps HK.out hFb.out) i hlt;subst q1;obtain⟨g0,o0,q2,hg0,d1⟩:=(N01.out.keeps HK.out hNb.out).at (i:=i) (by have:=HE.out.1;omega);subst q2;obtain⟨x,hx⟩:=eX (cs[i]);have HX:=yA hx;rw[<-hx] at d0;clear hx hg hg0;go_upto_region 5 with fail
   clear d0;refine zW 10 (by kernel_rfl) (by kernel_rfl) (Keeps zA) (yB zA) (λa b c h h'=>xJ h h') (zAz [some (.pointer (some ⟨b5,0,none⟩)),some (.slice da i dc),some (.pointer (some ⟨b3,0,none⟩)),some (.slice (some ⟨g0,o0,none⟩) n0 c0),some (.int .i64 i),some (.pointer (some ⟨g0,o0+i,none⟩)),some (.string xNm),some (.int .i64 x),some (.agg #[xNm,x])] (λ_ v W=>∃b,v=.slice (some ⟨b,0,none⟩) 1 1/\zB W b [xNm,x])) (vQ (λj v W W' h hk=>by obtain⟨b,e,h1⟩:=h;exact⟨b,e,h1.keeps hk (λh=>h)⟩)) ?_ ?_
   ·intro q oo hq ho vs W Q' hR0 hd hK
    have hR:Keeps zA wr W:=((yB zA wr).drew).zC hR0;obtain⟨y30,y31,y32,y33⟩:=((R3.out.keeps HK.out (λe=>ne3.out e)).keeps hR (λh=>h)).four;obtain⟨y50,y51,y52⟩:=(RB.out.keeps hR (λh=>h)).three;have d1':=hR.cell (p:=⟨g0,o0+i,none⟩) (λh=>h) d1;clear hR hR0 d1;rcases (show q=0\/q=1\/q=2\/q=3\/q=4\/q=5\/q=6\/q=7\/q=8\/q=9 by omega) with rfl|rfl|rfl|rfl|rfl|rfl|rfl|rfl|rfl|rfl
    all_goals (simp only[yC,yD,yN] at ho;subst ho;simp only[zJ,yC,yD,yO,Option.bind,Act.put,yE,yM,yJ] at hK ⊢;clear hq)
    ·exact J2 _
    ·exact J132 _
    ·exact J2 _
    ·exact J135 _
    ·exact J2 _
    ·exact J167 _
    ·exact J151 _
    ·exact J2 _
    ·exact J166 _
    ·have e8:vs 8=_:=hd 8 (by kernel_rfl)
     rw[e8] at hK ⊢;exact J47 _
   ·intro vs W hR0 hF
    have hR:Keeps zA wr W:=((yB zA wr).drew).zC hR0;have HKW:=yA hR;have e1:vs 1=_:=hF 1 (by decide);obtain⟨gs,e9,hgs⟩:=(hF 9 (by decide):∃b,vs 9=.slice (some ⟨b,0,none⟩) 1 1/\zB W b [xNm,x]);have HGS:=yA hgs;simp only[zJ,yC,yD,yO,Option.bind,Act.put,yE,yM,yJ,yZ,yU];rw[e1,e9];clear hF e1 e9;generalize vs 0=y0;generalize vs 2=y2;generalize vs 3=y3;generalize vs 4=y4;generalize vs 5=y5;generalize vs 6=y6;generalize vs 7=y7;generalize vs 8=y8;clear hR hR0 hgs d1;have HAW:Hid (Acc zGq (λ_=>False) B 2 182 W (.slice da i dc) (cs.take i) css):=HA.out.zG zPN HKW.out;have HLEN:Hid ((cs.take i).length=i):=by show _=_;rw[List.length_take];omega
    have RBW:Hid (zB W b5 [.slice da i dc,.slice none 0 0,.slice none 0 0]):=RB.out.keeps HKW.out (λh=>h);have hOB:Hid (∀q,(Value.slice da i dc).ownBlock=some q->B<=q):=HA.out.2.2.1;have i3:i+1<=1000000000:=by omega
    go_upto_region 6 with(at_builtin;refine zI _ (by rfl) _ _ 99 (by rfl) 0 182 j0 _ 2 24 Tryz.underlying99 hj0 hz0 hz1 hz2 rfl (by decide) (.slice da i dc) i css.flatten (by rfl) (J188 _) (.slice (some ⟨gs,0,none⟩) 1 1) 1 [.string xNm,.int .i64 x] (by rfl) (xE HGS.out) rfl (J182 _) (by unfold maxLen;omega) (by omega) (yF _) ?_;intro da2 dc2 w4 ha;have HAO:=yA ha;have k4:=xD ha (yB (λq=>(Value.slice da i dc).ownBlock=some q) W) (λq e _=>e);have r4:=RBW.out.keeps k4 (λe=>by have:=hOB.out b5 e;have:=HBE.out;omega);have z0:=r4.cell (k:=0) (v:=.slice da i dc) rfl;have f0:=r4.free (k:=0) (by simp);have R4W:=yA r4;have K4W:=yA k4;clear ha k4 r4)
    have hBW:B<=W.heap.size:=J212 _;have hset:Keeps (λq=>q=b5) w4 (w4.setCell ⟨b5,0,none⟩ (.slice da2 (i+1) dc2)):=(yB (λq=>q=b5) w4).setCell (p:=⟨b5,0,none⟩) (λ_=>rfl) _
    have hpush:Acc zGq (λ_=>False) B 2 182 (w4.setCell ⟨b5,0,none⟩ (.slice da2 (i+1) dc2)) (.slice da2 (i+1) dc2) (cs.take (i+1)) (css++[[.string xNm,.int .i64 x]]):=by
     have h1:=HAW.out.push zPN (λk hk=>hk.elim) hBW (x:=x) (cs:=[.string xNm,.int .i64 x]) rfl (by decide) (ad:=da2) (cap:=dc2) (w':=w4) (J199 _);rw[HLEN.out] at h1;have e:cs.take (i+1)=cs.take i++[x]:=by rw[take_at hlt,HX.out]
     rw[e];exact h1.keeps zPN hset (λk hk=>⟨by have e':k=b5:=hk;have:=HBE.out;omega,λh=>h⟩)
    have hrow:zB (w4.setCell ⟨b5,0,none⟩ (.slice da2 (i+1) dc2)) b5 [.slice da2 (i+1) dc2,.slice none 0 0,.slice none 0 0]:=R4W.out.set 0 (by simp) _
    have hkeep:Keeps (λq=>q=b5) w1 (w4.setCell ⟨b5,0,none⟩ (.slice da2 (i+1) dc2)):=
     (((HK.out.trans HKW.out (λ_ _ h=>h.elim)).trans K4W.out (λq hq e=>by exact J219 _)).trans hset (λ_ _ h=>h))
    have HPU:=yA hpush;have HRO:=yA hrow;have HKE:=yA hkeep;clear hpush hrow hkeep hset hBW z0 f0;go_wp2_with fail
    go_roundw
    case rel=>exact⟨i+1,da2,dc2,css++[[.string xNm,.int .i64 x]],by omega,by go_num,HRO,HPU,HKE⟩
    case measure=>simp[intOf];omega
  ·obtain rfl:i=cs.length:=by omega
   have hA:=HA.out;rw[xS] at hA;have CLR:Hid (zCa wr (Since B wr) cs da):=hA.cls;clear hA HA;obtain⟨y30,y31,y32,y33⟩:=(R3.out.keeps HK.out (λe=>ne3.out e)).four;have hsrc:Hid (zl wr (.slice a1 n1 c1) n1 (xs n1)):=(N11.out.keeps HK.out hNb.out).src;go_upto_region 7 with fail
   go_upto_region 8 with(first
    | (go_at_call 87;refine(zMV _ _ n1 hsrc.out M1.out).mono ?_;rintro e w6 ⟨ma,mc,rfl,ho,g6,hb6⟩;have HO6:=yA ho;have G6:=yA g6;have B6:=yA hb6;clear ho g6 hb6 y30 y31 y32 y33)
    | (go_at_call 86;refine(zMw _ _ _ _ _ HO6.out).mono ?_;rintro e w7 ⟨rfl,ew⟩;have EW:=yA ew;have r6:=RB.out.keeps G6.out (λh=>h);rw[<-ew] at r6;have u1:=r6.cell (k:=1) (v:=.slice none 0 0) rfl;have f1:=r6.free (k:=1) (by simp);have R6:=yA r6;clear r6 ew))
   have ew:=EW.out;subst ew;have hset:Keeps (λq=>q=b5) w7 (w7.setCell ⟨b5,1,none⟩ (.slice ma n1 n1)):=(yB (λq=>q=b5) w7).setCell (p:=⟨b5,1,none⟩) (λ_=>rfl) _;have hrow:zB (w7.setCell ⟨b5,1,none⟩ (.slice ma n1 n1)) b5 [.slice da cs.length dc,.slice ma n1 n1,.slice none 0 0]:=R6.out.set 1 (by simp) _;have K8:Hid (Keeps (λq=>q=b5) w1 (w7.setCell ⟨b5,1,none⟩ (.slice ma n1 n1))):=(HK.out.trans G6.out (λ_ _ h=>h.elim)).trans hset (λ_ _ h=>h);obtain⟨B7,hB7⟩:=eX ((w7.setCell ⟨b5,1,none⟩ (.slice ma n1 n1)).heap.size);have hs7:(w7.setCell ⟨b5,1,none⟩ (.slice ma n1 n1)).heap.size=w7.heap.size:=by simp
   have HB7:Hid (B7=w7.heap.size/\B<=B7):=⟨by omega,by have:=G6.out.size;have:=HK.out.size;have:=HBE.out.1;omega⟩;have CL8:Hid (zCa (w7.setCell ⟨b5,1,none⟩ (.slice ma n1 n1)) (λk=>B<=k/\k<B7) cs da):=((CLR.out.keeps G6.out (λ_ _ h=>h)).keeps hset (λk hk e=>by have e':k=b5:=e;have:=HBE.out;have:=hk.1;omega)).mono (λk hk=>⟨hk.1,by have:=hk.2;have:=G6.out.size;have:=HB7.out;omega⟩)
   have MS8:Hid (zk (w7.setCell ⟨b5,1,none⟩ (.slice ma n1 n1)) (λk=>B<=k/\k<B7) (.slice ma n1 n1) n1):=by
    have h0:zk w7 (λk=>B<=k/\k<B7) (.slice ma n1 mc) n1:=zk.zAb HO6.out rfl (λkb e=>⟨by have:=B6.out kb e;have:=HK.out.size;have:=HBE.out.1;omega,by have:=zM HO6.out e;have:=HB7.out;omega⟩);have h1:=h0.keeps hset (λk hk e=>by have e':k=b5:=e;have:=HBE.out;have:=hk.1;omega);obtain⟨ad,cap,e,h2⟩:=h1;have e':ma=ad:=by injection e
    subst e';exact⟨_,_,rfl,h2⟩
   have EB7:Hid (B7=(w7.setCell ⟨b5,1,none⟩ (.slice ma n1 n1)).heap.size):=hB7;have R8:=yA hrow;generalize w7.setCell ⟨b5,1,none⟩ (.slice ma n1 n1)=w8 at K8 CL8 MS8 R8 EB7 ⊢;clear hset hrow hs7 hB7 u1 f1 EW R6 CLR HB7 HO6 B6 G6 hsrc RB;have HB7:Hid (B<=B7/\w1.heap.size<=B7/\b5<B7):=⟨by rw[EB7.out,HBE.out.1];exact K8.out.size,by rw[EB7.out];exact K8.out.size,by have:=K8.out.size;have:=EB7.out;have:=HS.out;omega⟩;obtain⟨x20,x21,x22⟩:=(R2.out.keeps K8.out (λe=>ne2.out e)).three;go_upto_region 9 with fail
   clear x20 x21 x22;have HPS:Hid ((bs.map λb=>Ac.zS ⟨cs,mu,bs⟩ b.regs b.acts).length=bs.length):=by show _=_;rw[kE]
   have HPI:Hid (∀(i:Nat)(hi:i<bs.length)(hj:i<(bs.map λb=>Ac.zS ⟨cs,mu,bs⟩ b.regs b.acts).length),(bs.map λb=>Ac.zS ⟨cs,mu,bs⟩ b.regs b.acts)[i]=Ac.zS ⟨cs,mu,bs⟩ bs[i].regs bs[i].acts):=λi hi hj=>by rw[List.getElem_map]
   generalize (bs.map λb=>Ac.zS ⟨cs,mu,bs⟩ b.regs b.acts)=ps at HPS HPI HQ;go_loopw [40] (λiv wr=>∃(i:Nat)(ea:Option Addr)(ec:Nat)(css:List (List Value)),i<=bs.length/\iv=.int .i64 i/\Hid (zB wr b5 [.slice da cs.length dc,.slice ma n1 n1,.slice ea i ec])/\Hid (Acc zFS (λ_=>False) B7 2 111 wr (.slice ea i ec) (ps.take i) css)/\Hid (Keeps (λq=>q=b5) w8 wr)) (λiv _=>bs.length-(intOf iv).toNat)
   case atStart=>exact⟨0,none,0,[],yF _,rfl,R8,Acc.nil w8,yB _ _⟩
   case round =>
    clear HK hi;obtain⟨i,ea,ec,css,hi,rfl,RB,HA,HK⟩:=hrel;have KR:Hid (Keeps (λq=>q=b5) w1 wr):=K8.out.trans HK.out (λ_ _ h=>h);by_cases hlt:i<bs.length
    ·have i1:(0:Int)<=i:=by omega
     have i2:(i:Int)<bs.length:=by omega
     have i4:(i:Int)<n2:=by have:=HE.out.2.2.1;omega
     have i5:(i:Int)<rs.length:=by have:=HE.out.2.2.2;omega
     have hltr:i<rs.length:=by have:=HE.out.2.2.2;omega
     obtain⟨g,o,ba,bc,q1,hg,d0,d1,hx⟩:=(BD1.out.keeps KR.out hFb.out) i hlt;subst q1;obtain⟨g2,o2,q2,hg2,d2⟩:=(N21.out.keeps KR.out hNb.out).at (i:=i) (by have:=HE.out.2.2.1;omega);subst q2;obtain⟨gr,og,ra,rc,q3,hgr,d3,hnr⟩:=(RG1.out.keeps KR.out hNb.out) i hltr;subst q3;have hE4:=HE4.out i hltr hlt;obtain⟨p,hp⟩:=eX (Ac.zS ⟨cs,mu,bs⟩ bs[i].regs bs[i].acts);have HPI2:Hid (∀(hj:i<ps.length),ps[i]=p):=λhj=>by rw[hp];exact HPI.out i hlt hj
     obtain⟨x1,hx1⟩:=eX (bs[i].acts.length);have HPL:Hid (p.length=x1):=by show _=_;rw[hp,hx1,Ac.zBq]
     rw[<-hE4] at hp;have HFw:Hid (∀k,F k->k<wr.heap.size):=λk hk=>yH (HFs.out k hk) (yX K1.out.size KR.out.size)
     have HNw:Hid (∀k,N k->k<wr.heap.size):=λk hk=>yH (HNs.out k hk) (yX K1.out.size KR.out.size)
     have HC:Hid (∀W,Keeps zA wr W->Calls Tryz.prog 88 #[.agg #[.slice a0 n0 c0,.slice a1 n1 c1,.slice (some ⟨g2,o2,none⟩) n2 c2,.slice ra rs[i] rc],.slice ba x1 bc] W λe w'=>∃ad' cap',e=.returned (.slice ad' x1 cap')/\zx w' (Since W.heap.size w') p ad'/\Keeps zA W w'):=by
      rw[hp,hx1];exact λW hk=>zSD bs[i].acts ⟨cs,mu,bs⟩ W F N ba a0 a1 (some ⟨g2,o2,none⟩) ra bc n0 n1 n2 rs[i] c0 c1 c2 rc (hx.keeps hk (λ_ _ h=>h)) ((N01.out.keeps KR.out hNb.out).keeps hk (λ_ _ h=>h)) ((N11.out.keeps KR.out hNb.out).keeps hk (λ_ _ h=>h)) ((N21.out.keeps KR.out hNb.out).keeps hk (λ_ _ h=>h)) (hnr.keeps hk (λ_ _ h=>h)) HE.out.1 HE.out.2.1 HE.out.2.2.1 (λk h=>yH (HNw.out k h) hk.size) (λk h=>yH (HFw.out k h) hk.size) (HSZ.out i hlt)
     rw[<-hx1] at d1;clear hx hnr hp hx1 hE4 hg hg2 hgr;generalize bs[i].regs=x0 at d0;generalize rs[i]=n3 at d3 HC;go_upto_region 11 with fail
     obtain⟨b9,hb9⟩:=eX wr.heap.size;have hr9:zB (wr.alloc (.cells #[x0,.slice ba x1 bc] 48)) b9 [.int .i64 x0,.slice ba x1 bc]:=by rw[hb9];exact yK (yG wr _)
     have hk9:Keeps zA wr (wr.alloc (.cells #[x0,.slice ba x1 bc] 48)):=(yB _ _).alloc _;have hs9:b9<(wr.alloc (.cells #[x0,.slice ba x1 bc] 48)).heap.size:=by rw[hb9];simp
     rw[<-hb9];generalize wr.alloc (.cells #[x0,.slice ba x1 bc] 48)=w9 at hr9 hk9 hs9 ⊢;have R9:=yA hr9;have K9:=yA hk9;have S9:=yA hs9;have HB9W:Hid (wr.heap.size=b9):=hb9.symm;clear hr9 hk9 hs9 hb9 d0 d1;refine zW 13 (by kernel_rfl) (by kernel_rfl) (Keeps zA) (yB zA) (λa b c h h'=>xJ h h') (zAz [some (.pointer (some ⟨b3,0,none⟩)),some (.slice a0 n0 c0),some (.pointer (some ⟨b3,1,none⟩)),some (.slice a1 n1 c1),some (.pointer (some ⟨b3,2,none⟩)),some (.slice (some ⟨g2,o2,none⟩) n2 c2),some (.pointer (some ⟨b3,3,none⟩)),some (.slice (some ⟨gr,og,none⟩) rs.length c3),some (.int .i64 i),some (.pointer (some ⟨gr,og+i,none⟩)),some (.slice ra n3 rc),some (.agg #[.slice a0 n0 c0,.slice a1 n1 c1,.slice (some ⟨g2,o2,none⟩) n2 c2,.slice ra n3 rc])] (λ_ v W=>∃b,v=.pointer (some ⟨b,0,none⟩)/\w9.heap.size<=b/\b<W.heap.size/\zB W b [.slice none 0 0,.slice none 0 0,.slice none 0 0,.slice none 0 0])) (vQ (λj v W W' h hk=>by obtain⟨b,e,h0,h1,h2⟩:=h;exact⟨b,e,h0,yH h1 hk.size,h2.keeps hk (λh=>h)⟩)) ?_ ?_
     ·intro q oo hq ho vs W Q' hR0 hd hK
      have hR:Keeps zA w9 W:=((yB zA w9).drew).zC hR0;have hRr:Keeps zA wr W:=K9.out.zC hR;obtain⟨y30,y31,y32,y33⟩:=((R3.out.keeps KR.out (λe=>ne3.out e)).keeps hRr (λh=>h)).four;have d3':=hRr.cell (p:=⟨gr,og+i,none⟩) (λh=>h) d3;have HB9:Hid (w9.heap.size<=W.heap.size):=hR.size;clear hR hR0 hRr d2 d3;rcases (show q=0\/q=1\/q=2\/q=3\/q=4\/q=5\/q=6\/q=7\/q=8\/q=9\/q=10\/q=11\/q=12 by omega) with rfl|rfl|rfl|rfl|rfl|rfl|rfl|rfl|rfl|rfl|rfl|rfl|rfl
      all_goals (simp only[yC,yD,yN] at ho;subst ho;simp only[zJ,yC,yD,yO,Option.bind,Act.put,yE,yM,yJ] at hK ⊢;clear hq)
      ·exact J2 _
      ·exact J132 _
      ·exact J2 _
      ·exact J135 _
      ·exact J2 _
      ·exact J136 _
      ·exact J2 _
      ·exact J160 _
      ·exact J2 _
      ·have e7:vs 7=_:=hd 7 (by kernel_rfl)
       have e8:vs 8=_:=hd 8 (by kernel_rfl);rw[e7,e8] at hK ⊢;exact J2 _
      ·exact J143 _
      ·have e1:vs 1=_:=hd 1 (by kernel_rfl)
       have e3:vs 3=_:=hd 3 (by kernel_rfl);have e5:vs 5=_:=hd 5 (by kernel_rfl);have e10:vs 10=_:=hd 10 (by kernel_rfl);rw[e1,e3,e5,e10] at hK ⊢;exact J2 _
      ·clear hd
       go_wp2_with fail
       exact hK _ _ ((yB _ _).alloc _) ⟨_,rfl,HB9.out,by simp,yK (yG W _)⟩
     ·intro vs W hR0 hF
      have hR:Keeps zA w9 W:=((yB zA w9).drew).zC hR0;have HKW:Hid (Keeps zA wr W):=K9.out.zC hR;have HR9:=yA hR;have e11:vs 11=_:=hF 11 (by decide);obtain⟨b10,e12,q1,q2,hz10⟩:=(hF 12 (by decide):∃b,vs 12=.pointer (some ⟨b,0,none⟩)/\w9.heap.size<=b/\b<W.heap.size/\zB W b [.slice none 0 0,.slice none 0 0,.slice none 0 0,.slice none 0 0]);simp only[zJ,yC,yD,yO,Option.bind,Act.put,yE,yM,yJ,yZ,yU];rw[e11,e12];clear hF e11 e12;generalize vs 0=y0;generalize vs 1=y1;generalize vs 2=y2;generalize vs 3=y3;generalize vs 4=y4;generalize vs 5=y5;generalize vs 6=y6;generalize vs 7=y7;generalize vs 8=y8;generalize vs 9=y9;generalize vs 10=y10;clear hR hR0;obtain⟨z0,z1,z2,z3⟩:=hz10.four;have f0:=hz10.free (k:=0) (by simp);have f1:=hz10.free (k:=1) (by simp);have f2:=hz10.free (k:=2) (by simp);have f3:=hz10.free (k:=3) (by simp);have HZ10:=yA hz10;have HB10:Hid (w9.heap.size<=b10/\b10<W.heap.size):=⟨q1,q2⟩;clear hz10 q1 q2;go_upto_region 12 with fail
      have r10:zB ((((W.setCell ⟨b10,0,none⟩ (.slice a0 n0 c0)).setCell ⟨b10,1,none⟩ (.slice a1 n1 c1)).setCell ⟨b10,2,none⟩ (.slice (some ⟨g2,o2,none⟩) n2 c2)).setCell ⟨b10,3,none⟩ (.slice ra n3 rc)) b10 [.slice a0 n0 c0,.slice a1 n1 c1,.slice (some ⟨g2,o2,none⟩) n2 c2,.slice ra n3 rc]:=(((HZ10.out.set 0 (by simp) _).set 1 (by simp) _).set 2 (by simp) _).set 3 (by simp) _;have k10:Keeps (λq=>q=b10) W ((((W.setCell ⟨b10,0,none⟩ (.slice a0 n0 c0)).setCell ⟨b10,1,none⟩ (.slice a1 n1 c1)).setCell ⟨b10,2,none⟩ (.slice (some ⟨g2,o2,none⟩) n2 c2)).setCell ⟨b10,3,none⟩ (.slice ra n3 rc)):=((((yB (λq=>q=b10) W).setCell (p:=⟨b10,0,none⟩) (λ_=>rfl) _).setCell (p:=⟨b10,1,none⟩) (λ_=>rfl) _).setCell (p:=⟨b10,2,none⟩) (λ_=>rfl) _).setCell (p:=⟨b10,3,none⟩) (λ_=>rfl) _;generalize (((W.setCell ⟨b10,0,none⟩ (.slice a0 n0 c0)).setCell ⟨b10,1,none⟩ (.slice a1 n1 c1)).setCell ⟨b10,2,none⟩ (.slice (some ⟨g2,o2,none⟩) n2 c2)).setCell ⟨b10,3,none⟩ (.slice ra n3 rc)=wX at r10 k10 ⊢;have R10:=yA r10;have KX:Hid (Keeps zA wr wX):=HKW.out.trans k10 (λq hq e=>by have e':q=b10:=e;have:=HB10.out;have:=K9.out.size;omega);have KX9:Hid (Keeps zA w9 wX):=HR9.out.trans k10 (λq hq e=>by have e':q=b10:=e;have:=HB10.out;omega);have R9X:Hid (zB wX b9 [x0,.slice ba x1 bc]):=R9.out.keeps KX9.out (λh=>h);clear r10 k10 z0 z1 z2 z3 f0 f1 f2 f3 HZ10 HB10 HR9 HKW R9 K9 S9
      refine zW 13 (by kernel_rfl) (by kernel_rfl) (Keeps zA) (yB zA) (λa b c h h'=>xJ h h') (zAz [some (.pointer (some ⟨b5,2,none⟩)),some (.slice ea i ec),some (.pointer (some ⟨b3,2,none⟩)),some (.slice (some ⟨g2,o2,none⟩) n2 c2),some (.int .i64 i),some (.pointer (some ⟨g2,o2+i,none⟩)),some (.string xNm),some (.agg #[.slice a0 n0 c0,.slice a1 n1 c1,.slice (some ⟨g2,o2,none⟩) n2 c2,.slice ra n3 rc]),some (.pointer (some ⟨b9,1,none⟩)),some (.slice ba x1 bc)] (λj v W=>match j with
       | 10=>∃ad2 cp2,v=.slice ad2 x1 cp2/\zx W (Since wX.heap.size W) p ad2
       | 11=>∃ad2 cp2,v=.agg #[xNm,.slice ad2 x1 cp2]/\zx W (Since wX.heap.size W) p ad2
       | _=>∃b ad2 cp2,v=.slice (some ⟨b,0,none⟩) 1 1/\zB W b [xNm,.slice ad2 x1 cp2]/\zx W (Since wX.heap.size W) p ad2)) (vQ (λj v W W' h hk=>by
         revert h
         split
         ·exact J41 _
         ·exact J41 _
         ·rintro⟨b,ad2,cp2,e,h0,h1⟩;exact⟨b,ad2,cp2,e,h0.keeps hk (λh=>h),(h1.keeps hk (λ_ _ h=>h)).mono (λk hk'=>⟨hk'.1,yH hk'.2 hk.size⟩)⟩)) ?_ ?_
      ·intro q oo hq ho vs W Q' hR0 hd hK
       have hR:Keeps zA wX W:=((yB zA wX).drew).zC hR0;have hRr:Keeps zA wr W:=KX.out.zC hR;obtain⟨y30,y31,y32,y33⟩:=((R3.out.keeps KR.out (λe=>ne3.out e)).keeps hRr (λh=>h)).four;obtain⟨y50,y51,y52⟩:=(RB.out.keeps hRr (λh=>h)).three;obtain⟨y90,y91⟩:=(R9X.out.keeps hR (λh=>h)).two;obtain⟨y100,y101,y102,y103⟩:=(R10.out.keeps hR (λh=>h)).four;have d2':=hRr.cell (p:=⟨g2,o2+i,none⟩) (λh=>h) d2;have HBX:Hid (wX.heap.size<=W.heap.size):=hR.size;have HCW:=yA (HC.out W hRr);clear hR hR0 hRr d2 d3 HC;rcases (show q=0\/q=1\/q=2\/q=3\/q=4\/q=5\/q=6\/q=7\/q=8\/q=9\/q=10\/q=11\/q=12 by omega) with rfl|rfl|rfl|rfl|rfl|rfl|rfl|rfl|rfl|rfl|rfl|rfl|rfl
       all_goals (simp only[yC,yD,yN] at ho;subst ho;simp only[zJ,yC,yD,yO,Option.bind,Act.put,yE,yM,yJ] at hK ⊢;clear hq)
       ·exact J2 _
       ·exact J132 _
       ·exact J2 _
       ·exact J135 _
       ·exact J2 _
       ·exact J167 _
       ·exact J151 _
       ·exact J2 _
       ·exact J2 _
       ·exact J146 _
       ·have e7:vs 7=_:=hd 7 (by kernel_rfl)
        have e9:vs 9=_:=hd 9 (by kernel_rfl);rw[e7,e9] at hK ⊢;clear hd;go_wp2_with (go_at_call 88;refine((HCW.out).mono ?_);rintro e W1 ⟨ad2,cp2,rfl,s1,g1⟩)
        exact hK _ _ g1 ⟨ad2,cp2,rfl,s1.mono (λk hk=>⟨yX HBX.out hk.1,hk.2⟩)⟩
       ·have e6:vs 6=_:=hd 6 (by kernel_rfl)
        obtain⟨ad2,cp2,e10,h10⟩:=(hd 10 (by kernel_rfl):∃ad2 cp2,vs 10=.slice ad2 x1 cp2/\zx W (Since wX.heap.size W) p ad2);have H10:=yA h10;rw[e6,e10] at hK ⊢;clear h10;clear hd;go_wp2_with fail
        exact hK _ _ (yB _ _) ⟨ad2,cp2,rfl,H10.out⟩
       ·obtain⟨ad2,cp2,e11,h11⟩:=(hd 11 (by kernel_rfl):∃ad2 cp2,vs 11=.agg #[xNm,.slice ad2 x1 cp2]/\zx W (Since wX.heap.size W) p ad2)
        have H11:=yA h11;rw[e11] at hK ⊢;clear h11;clear hd;go_wp2_with fail
        exact hK _ _ ((yB _ _).alloc _) ⟨_,ad2,cp2,rfl,yK (yG W _),(H11.out.keeps ((yB zA W).alloc _) (λ_ _ h=>h)).mono (λk hk=>⟨hk.1,by have:=hk.2;simp;omega⟩)⟩
      ·intro vs W2 hR0 hF
       have hR:Keeps zA wX W2:=((yB zA wX).drew).zC hR0;have HKW:Hid (Keeps zA wr W2):=KX.out.zC hR;have HRX:=yA hR;have e1:vs 1=_:=hF 1 (by decide);obtain⟨gs,ad2,cp2,e12,hgs,hys⟩:=(hF 12 (by decide):∃b ad2 cp2,vs 12=.slice (some ⟨b,0,none⟩) 1 1/\zB W2 b [xNm,.slice ad2 x1 cp2]/\zx W2 (Since wX.heap.size W2) p ad2);have HGS:=yA hgs;have HYS:=yA hys;simp only[zJ,yC,yD,yO,Option.bind,Act.put,yE,yM,yJ,yZ,yU];rw[e1,e12];clear hF e1 e12;generalize vs 0=y0;generalize vs 2=y2;generalize vs 3=y3;generalize vs 4=y4;generalize vs 5=y5;generalize vs 6=y6;generalize vs 7=y7;generalize vs 8=y8;generalize vs 9=y9;generalize vs 10=y10;generalize vs 11=y11;clear hR hR0 hgs hys HC d2 d3;have HAW:Hid (Acc zFS (λ_=>False) B7 2 111 W2 (.slice ea i ec) (ps.take i) css):=HA.out.zG zPB HKW.out;have HLEN:Hid ((ps.take i).length=i):=by show _=_;rw[List.length_take];have:=HPS.out;omega
       have RBW:Hid (zB W2 b5 [.slice da cs.length dc,.slice ma n1 n1,.slice ea i ec]):=RB.out.keeps HKW.out (λh=>h);have hOB:Hid (∀q,(Value.slice ea i ec).ownBlock=some q->B7<=q):=HA.out.2.2.1;have i3:i+1<=1000000000:=by omega
       go_upto_region 13 with(at_builtin;refine zI _ (by rfl) _ _ 100 (by rfl) 0 111 j3 _ 2 40 Tryz.underlying100 hj3 hy0 hy1 hy2 rfl (by decide) (.slice ea i ec) i css.flatten (by rfl) (J188 _) (.slice (some ⟨gs,0,none⟩) 1 1) 1 [.string xNm,.slice ad2 x1 cp2] (by rfl) (xE HGS.out) rfl (J182 _) (by unfold maxLen;omega) (by omega) (yF _) ?_;intro da2 dc2 w4 ha;have HAO:=yA ha;have k4:=xD ha (yB (λq=>(Value.slice ea i ec).ownBlock=some q) W2) (λq e _=>e);have r4:=RBW.out.keeps k4 (λe=>by have:=hOB.out b5 e;have:=HB7.out;omega);have z2:=r4.cell (k:=2) (v:=.slice ea i ec) rfl;have f2:=r4.free (k:=2) (by simp);have R4W:=yA r4;have K4W:=yA k4;clear ha k4 r4)
       have hel:zFS W2 (zB1 (λ_=>False) B7 W2 (.slice ea i ec)) p [.string xNm,.slice ad2 x1 cp2]:=by
        have e:x1=p.length:=HPL.out.symm;refine⟨ad2,cp2,by rw[e],HYS.out.mono (λk hk=>.inr ⟨?_,hk.2,λe=>?_⟩)⟩
        ·have h1:=hk.1;have h2:=KX.out.size;have h3:=HK.out.size;have h4:=EB7.out;omega
        ·have h0:k<wr.heap.size:=zM HA.out.2.1 e
         have h1:=hk.1;have h2:=KX.out.size;omega
       have hBW:B7<=W2.heap.size:=by have h2:=HKW.out.size;have h3:=HK.out.size;have h4:=EB7.out;omega
       have hset:Keeps (λq=>q=b5) w4 (w4.setCell ⟨b5,2,none⟩ (.slice da2 (i+1) dc2)):=(yB (λq=>q=b5) w4).setCell (p:=⟨b5,2,none⟩) (λ_=>rfl) _
       have hpush:Acc zFS (λ_=>False) B7 2 111 (w4.setCell ⟨b5,2,none⟩ (.slice da2 (i+1) dc2)) (.slice da2 (i+1) dc2) (ps.take (i+1)) (css++[[.string xNm,.slice ad2 x1 cp2]]):=by
        have h1:=HAW.out.push zPB (λk hk=>hk.elim) hBW hel (by decide) (ad:=da2) (cap:=dc2) (w':=w4) (J199 _);rw[HLEN.out] at h1;have hltp:i<ps.length:=by have:=HPS.out;omega
        have e:ps.take (i+1)=ps.take i++[p]:=by rw[take_at hltp,HPI2.out hltp]
        rw[e];exact h1.keeps zPB hset (λk hk=>⟨by have e':k=b5:=hk;have:=HB7.out;omega,λh=>h⟩)
       have hrow:zB (w4.setCell ⟨b5,2,none⟩ (.slice da2 (i+1) dc2)) b5 [.slice da cs.length dc,.slice ma n1 n1,.slice da2 (i+1) dc2]:=R4W.out.set 2 (by simp) _
       have hkeep:Keeps (λq=>q=b5) w8 (w4.setCell ⟨b5,2,none⟩ (.slice da2 (i+1) dc2)):=
        (((HK.out.trans HKW.out (λ_ _ h=>h.elim)).trans K4W.out (λq hq e=>by have:=hOB.out q e;have:=EB7.out;omega)).trans hset (λ_ _ h=>h))
       have HPU:=yA hpush;have HRO:=yA hrow;have HKE:=yA hkeep;clear hpush hrow hkeep hset hel hBW z2 f2;go_wp2_with fail
       go_roundw
       case rel=>exact⟨i+1,da2,dc2,css++[[.string xNm,.slice ad2 x1 cp2]],by omega,by go_num,HRO,HPU,HKE⟩
       case measure=>simp[intOf];omega
    ·obtain rfl:i=bs.length:=by omega
     have hA:=HA.out;have e:ps.take bs.length=ps:=by rw[<-HPS.out,xS]
     rw[e] at hA;have THR:Hid (zAh wr (Since B7 wr) xNm ps ea):=hA.zP (by have:=HPS.out;omega);clear hA HA;obtain⟨y50,y51,y52⟩:=RB.out.three;have R4E:Hid (zB wr b4 [.slice none 0 0,.slice none 0 0,.slice none 0 0]):=R4.out.keeps KR.out (λe=>ne4.out e);obtain⟨y40,y41,y42⟩:=R4E.out.three;have f40:=R4E.out.free (k:=0) (by simp);have f41:=R4E.out.free (k:=1) (by simp);have f42:=R4E.out.free (k:=2) (by simp);go_wp2_with fail
     have hrow:zB (((wr.setCell ⟨b4,0,none⟩ (.slice da cs.length dc)).setCell ⟨b4,1,none⟩ (.slice ma n1 n1)).setCell ⟨b4,2,none⟩ (.slice ea bs.length ec)) b4 [.slice da cs.length dc,.slice ma n1 n1,.slice ea bs.length ec]:=((R4E.out.set 0 (by simp) _).set 1 (by simp) _).set 2 (by simp) _;have hks:Keeps (λq=>q=b4) wr (((wr.setCell ⟨b4,0,none⟩ (.slice da cs.length dc)).setCell ⟨b4,1,none⟩ (.slice ma n1 n1)).setCell ⟨b4,2,none⟩ (.slice ea bs.length ec)):=(((yB (λq=>q=b4) wr).setCell (p:=⟨b4,0,none⟩) (λ_=>rfl) _).setCell (p:=⟨b4,1,none⟩) (λ_=>rfl) _).setCell (p:=⟨b4,2,none⟩) (λ_=>rfl) _;generalize ((wr.setCell ⟨b4,0,none⟩ (.slice da cs.length dc)).setCell ⟨b4,1,none⟩ (.slice ma n1 n1)).setCell ⟨b4,2,none⟩ (.slice ea bs.length ec)=wE at hrow hks ⊢;refine xK (v:=.agg #[.slice da cs.length dc,.slice ma n1 n1,.slice ea bs.length ec]) (by simp[results,Tryz.results44,go_sem,hrow.cell (k:=0) rfl,hrow.cell (k:=1) rfl,hrow.cell (k:=2) rfl]) rfl ?_
     rw[HQ.out];have hz:=HBE.out;have hz1:=HB7.out;have hz2:B7<=wr.heap.size:=by rw[EB7.out];exact HK.out.size
     have hz3:=hks.size;have hb:∀k,(B<=k/\k<B7)->Since w.heap.size wE k:=λk hk=>⟨by omega,by omega⟩
     refine⟨da,dc,ma,n1,ea,ec,rfl,?_,?_,?_,?_⟩
     ·exact((CL8.out.keeps HK.out (λk hk e=>by have e':k=b5:=e;omega)).keeps hks (λk hk e=>by have e':k=b4:=e;omega)).mono hb
     ·exact((MS8.out.keeps HK.out (λk hk e=>by have e':k=b5:=e;omega)).keeps hks (λk hk e=>by have e':k=b4:=e;omega)).mono hb
     ·exact(THR.out.keeps hks (λk hk e=>by have e':k=b4:=e;have:=hk.1;omega)).mono (λk hk=>⟨by have:=hk.1;omega,by have:=hk.2;omega⟩)
     ·refine((K1.out.trans KR.out (λq hq e=>?_):Keeps zA w wr)).trans hks (λq hq e=>?_)
      ·have e':q=b5:=e;have:=HS.out;omega
      ·have e':q=b4:=e;have:=HS.out;omega
