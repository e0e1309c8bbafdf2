/- Layer D: texts joined. -/
import Derived.Test.YtoapgjjepiopbaaGreatDoorD17
set_option linter.all false
set_option maxHeartbeats 8000000
set_option maxRecDepth 8000
namespace Go.Proofs.YtoapgjjepiopbaaGreatDoor
open Go.RowKit
abbrev kZ:=@Ac.zCc
theorem J30(P:Prop) (h:P:=by
 go_wp2_with fail
 go_roundw
 case rel =>
  refine⟨i+1,by omega,by go_num,?_⟩
  show zEl _ _ _ _ _
  rw[HTK2.out,HTK3.out];exact zEl.put C8.out N8.out M8.out K8.out
 case measure=>simp[intOf];omega):P:=h
theorem J93(P:Prop) (h:P:=by
 clear hd;go_wp2_with fail
 exact hK _ _ ((yB _ _).alloc _) ⟨by simp,_,rfl,rfl,by show _<_;simp[zGJ],HB7.out,Cnt.zH (yG W _)⟩):P:=h
theorem J95(P:Prop) (h:P:=by
 rw[HQ.out];exact⟨_,_,rfl,HE1.out.stored C2r.out hks,HE2.out.stored C2r.out hks,KW.out.trans hks (λq hq e=>by have e':q=b2:=e;have:=HS.out;omega)⟩):P:=h
theorem J147(P:Prop) (h:P:=by
 have e7:vs 7=_:=hd 7 (by kernel_rfl);rw[e7] at hK ⊢;exact J2 _):P:=h
theorem J159(P:Prop) (h:P:=by
 obtain⟨t0,t1⟩:=C8.out.row.two;have f0:=C8.out.row.free (k:=0) (by simp);have f1:=C8.out.row.free (k:=1) (by simp);exact J30 _):P:=h
theorem J173(P:Prop)(h:P:=by have:=HP2.out;have:=HP3.out;omega):P:=h
theorem J207(P:Prop)(h:P:=by rw[zC4 (by decide)];simp):P:=h
theorem J208(P:Prop)(h:P:=by have:=HTL.out ts (by have:=HST.out;omega);omega):P:=h
theorem J231(P:Prop)(h:P:=by have:=HTL.out tw (by omega);omega):P:=h
def zEl(b3:Nat)(w1:World)(x y:Nat)(W:World):Prop:=∃a1 l1 c1 a2 l2 c2,Cnt W b3 (.slice a1 l1 c1) (.slice a2 l2 c2)/\zN W (λ_=>True) 1000000000 x (.slice a1 l1 c1)/\zN W (λ_=>True) 1000000000 y (.slice a2 l2 c2)/\Keeps (λk=>k=b3) w1 W
theorem zEl.put{b3 x y l1 c1 l2 c2:Nat}{w1 W:World}{a1 a2:Option Addr}{s v:Value}(hc:Cnt W b3 s v)(hn:zN W (λ_=>True) 1000000000 x (.slice a1 l1 c1))(hm:zN W (λ_=>True) 1000000000 y (.slice a2 l2 c2))(hk:Keeps (λk=>k=b3) w1 W):
 zEl b3 w1 x y ((W.setCell ⟨b3,0,none⟩ (.slice a1 l1 c1)).setCell ⟨b3,1,none⟩ (.slice a2 l2 c2)):=by
 obtain⟨h1,h2⟩:=hc.put (a1:=a1) (l1:=l1) (c1:=c1) (a2:=a2) (l2:=l2) (c2:=c2);exact⟨a1,l1,c1,a2,l2,c2,h1,hn.stored hc h2,hm.stored hc h2,hk.trans h2 (λ_ _ h=>h)⟩
def zNz(j:Nat):List Nat:=
 match j with
 | 6=>[6]
 | 7=>[7]
 | _=>[]
def zDZ(B0 ts tw es ew:Nat)(j:Nat)(v:Value)(gs:Nat->Nat × Nat)(W:World):Prop:=
 match j with
 | 2=>∃z zz,v=.agg #[z,zz]/\zN W (λ_=>True) 1000000000 ts z/\zN W (λ_=>True) 1000000000 tw zz
 | 5=>∃z zz,v=.agg #[z,zz]/\zN W (λ_=>True) 1000000000 es z/\zN W (λ_=>True) 1000000000 ew zz
 | 6=>∃b,v=.pointer (some ⟨b,0,none⟩)/\b=(gs 6).1/\b<(gs 6).2/\B0<=(gs 6).1/\Cnt W b (.slice none 0 0) (.slice none 0 0)
 | _=>∃b,v=.pointer (some ⟨b,0,none⟩)/\b=(gs 7).1/\b<(gs 7).2/\B0<=(gs 7).1/\Cnt W b (.slice none 0 0) (.slice none 0 0)
theorem zDZ.st{B0 ts tw es ew:Nat}(j:Nat)(v:Value)(gs:Nat->Nat × Nat)(W W':World)(h:zDZ B0 ts tw es ew j v gs W)(hk:Keeps zA W W'):zDZ B0 ts tw es ew j v gs W':=by
 unfold zDZ at *;split at h
 ·obtain⟨z,zz,e,h1,h2⟩:=h;exact⟨z,zz,e,h1.zG hk,h2.zG hk⟩
 ·obtain⟨z,zz,e,h1,h2⟩:=h;exact⟨z,zz,e,h1.zG hk,h2.zG hk⟩
 ·obtain⟨b,e,h1,h2,h4,h3⟩:=h;exact⟨b,e,h1,h2,h4,h3.zG hk⟩
 ·obtain⟨b,e,h1,h2,h4,h3⟩:=h;exact⟨b,e,h1,h2,h4,h3.zG hk⟩
theorem zDZ.loc{B0 ts tw es ew:Nat}(j:Nat)(hj:j=2\/j=5\/j=6\/j=7)(v:Value)(gs gs':Nat->Nat × Nat)(W:World)(hg:∀a,a∈zNz j->gs a=gs' a)(h:zDZ B0 ts tw es ew j v gs W):zDZ B0 ts tw es ew j v gs' W:=by
 rcases hj with rfl|rfl|rfl|rfl
 ·exact h
 ·exact h
 ·have e:=hg 6 (by simp[zNz]);unfold zDZ at *;simp only[] at *;rw[<-e];exact h
 ·have e:=hg 7 (by simp[zNz]);unfold zDZ at *;simp only[] at *;rw[<-e];exact h
def zP3(B0 ts tw es ew:Nat)(j:Nat)(v:Value)(gs:Nat->Nat × Nat)(W:World):Prop:=
 (j=2\/j=5\/j=6\/j=7)/\zDZ B0 ts tw es ew j v gs W
def zC5(l:List Ac):Prop:=∀(w:World)(F:Nat->Prop)(ad:Option Addr)(cap:Nat),zAl w F l ad->(∀k,F k->k<w.heap.size)->Ac.szL l<1000000000->Ac.zD7 l →
 Calls Tryz.prog 45 #[.slice ad l.length cap] w λe w'=>∃z1 z2,e=.returned (.agg #[z1,z2])/\zN w' (λ_=>True) 1000000000 (Ac.zh l) z1/\zN w' (λ_=>True) 1000000000 (Ac.zY l) z2/\Keeps zA w w'
theorem zEO(l:List Ac)(ih:∀y,y∈l->zC5 y.thn/\zC5 y.els):zC5 l:=by
 intro w F ad cap h hF hb ho
 have HL:=yA h;have IH:=yA ih;have hl:=Ac.zAe l;have hb2:l.length<1000000000:=by omega
 have HB:=yA hb;have HO:=yA ho;have HFs:=yA hF;obtain⟨Q,hQ⟩:=eX (α:=Ending->World->Prop) (λe w'=>∃z1 z2,e=.returned (.agg #[z1,z2])/\zN w' (λ_=>True) 1000000000 (Ac.zh l) z1/\zN w' (λ_=>True) 1000000000 (Ac.zY l) z2/\Keeps zA w w');have HQ:=yA hQ;rw[<-hQ];clear h ih hl hb ho hF hQ;go_enter Tryz.func45,Tryz.ntmps45
 go_upto_region 2 with fail
 obtain⟨b2,hb2'⟩:=eX w.heap.size;obtain⟨b3,hb3⟩:=eX (w.heap.size+1);rw[<-hb3,<-hb2'];obtain⟨wA,hwA⟩:=eX (w.alloc (.cells #[.slice none 0 0,.slice none 0 0] 53));obtain⟨w1,hw1⟩:=eX (wA.alloc (.cells #[.slice none 0 0,.slice none 0 0] 53));rw[<-hwA,<-hw1];have kA:Keeps zA w wA:=J191 _;have k1:Keeps zA wA w1:=J202 _;have sA:wA.heap.size=w.heap.size+1:=by rw[hwA];simp
 have r2:Cnt wA b2 (.slice none 0 0) (.slice none 0 0):=by rw[hb2',hwA];exact Cnt.zH (yG w _)
 have r3:Cnt w1 b3 (.slice none 0 0) (.slice none 0 0):=by rw[hb3,<-sA,hw1];exact Cnt.zH (yG wA _)
 have R2:Hid (Cnt w1 b2 (.slice none 0 0) (.slice none 0 0)):=r2.zG k1;have R3:=yA r3;have K1:Hid (Keeps zA w w1):=kA.zC k1;have HS:Hid (w.heap.size<=b2/\w.heap.size<=b3/\b2≠b3):=⟨by omega,by omega,by omega⟩;clear hwA hw1 kA k1 sA r2 r3 hb2' hb3;go_upto_region 3 with(go_at_call 19;refine(zFW 1 (by decide) _).mono ?_;rintro e w2 ⟨z4,rfl,n4,g4⟩;have ONE:Hid (zN w2 (λ_=>True) 1000000000 1 z4):=n4.mono (λ_ _=>trivial);have K2:Hid (Keeps zA w w2):=K1.out.zC g4;have C2:=yA (R2.out.zG g4);have C3:=yA (R3.out.zG g4);clear g4 n4)
 clear R2 R3 K1;go_upto_region 4 with fail
 go_loopw [14] (λiv wr=>∃i:Nat,i<=l.length/\iv=.int .i64 i/\Hid (zEl b3 w2 (Ac.zh (l.take i)) (Ac.zY (l.take i)) wr)) (λiv _=>l.length-(intOf iv).toNat)
 case atStart=>exact⟨0,yF _,rfl,none,0,0,none,0,0,C3.out,zN.zero _ _ _,zN.zero _ _ _,yB _ _⟩
 case round =>
  obtain⟨i,hi,rfl,HI⟩:=hrel;obtain⟨a1,l1,c1,a2,l2,c2,hc,hn,hm,hk⟩:=HI.out;have HC:=yA hc;have HN:=yA hn;have HM:=yA hm;have HK:=yA hk;have KW:Hid (Keeps zA w wr):=K2.out.trans hk (λq hq e=>by have e':q=b3:=e;have:=HS.out;omega);have ONr:Hid (zN wr (λ_=>True) 1000000000 1 z4):=ONE.out.stored C3.out hk;clear hc hn hm hk HI;by_cases hlt:i<l.length
  ·have i1:(0:Int)<=i:=by omega
   have i2:(i:Int)<l.length:=by omega
   obtain⟨g,o,xa,xc,ta,tc,ea,ec,e1,hg,d0,d1,d2,d3,d4,d5,d6,d7,d8,d9,hx,hxt,hxe⟩:=(HL.out.keeps KW.out (λ_ _ h=>h)).at hlt;subst e1;have hsz:=Ac.zCI (yI hlt);rw[Ac.zCZ] at hsz;have hB:=HB.out;have hok:=Ac.zJv (Ac.zGO HO.out (yI hlt));have hFr:∀k,F k->k<wr.heap.size:=λk hk=>yH (HFs.out k hk) KW.out.size
   have HTT:Hid (∀W,Keeps zA wr W->Calls Tryz.prog 45 #[.slice ta l[i].thn.length tc] W λe w'=>∃z1 z2,e=.returned (.agg #[z1,z2])/\zN w' (λ_=>True) 1000000000 (Ac.zh l[i].thn) z1/\zN w' (λ_=>True) 1000000000 (Ac.zY l[i].thn) z2/\Keeps zA W w'):=λW hk=>(IH.out _ (yI hlt)).1 W F ta tc (hxt.keeps hk (λ_ _ h=>h)) (λk h=>yH (hFr k h) hk.size) (by omega) hok.2.2.1
   have HEE:Hid (∀W,Keeps zA wr W->Calls Tryz.prog 45 #[.slice ea l[i].els.length ec] W λe w'=>∃z1 z2,e=.returned (.agg #[z1,z2])/\zN w' (λ_=>True) 1000000000 (Ac.zh l[i].els) z1/\zN w' (λ_=>True) 1000000000 (Ac.zY l[i].els) z2/\Keeps zA W w'):=λW hk=>(IH.out _ (yI hlt)).2 W F ea ec (hxe.keeps hk (λ_ _ h=>h)) (λk h=>yH (hFr k h) hk.size) (by omega) hok.2.2.2
   have HTL:Hid (∀m,m<=Ac.zY l[i].thn+1->(dig 1000000000 m).length<=12000000000):=λm hm=>kZ (by decide) hok.2.2.1 (by omega) hm
   have HEL:Hid (∀m,m<=Ac.zY l[i].els+1->(dig 1000000000 m).length<=12000000000):=λm hm=>kZ (by decide) hok.2.2.2 (by omega) hm
   have HLL:Hid (∀m,m<=Ac.zY l+1->(dig 1000000000 m).length<=12000000000):=λm hm=>kZ (by decide) HO.out HB.out hm
   have HST:Hid (Ac.zh l[i].thn<=Ac.zY l[i].thn/\Ac.zh l[i].els<=Ac.zY l[i].els/\Ac.zh l<=Ac.zY l):=⟨vA _,vA _,vA _⟩;have HX:Hid (∀W,Keeps zA wr W->Calls Tryz.prog 89 #[.agg #[.int .i64 l[i].ex.kind,.int .i64 l[i].ex.num,.string l[i].ex.nm,.slice xa l[i].ex.args.length xc]] W λe w'=>e=.returned (.int .i64 l[i].ex.pts)/\Keeps zA W w'):=λW hk=>zLP l[i].ex W F xa xc (hx.keeps hk (λ_ _ h=>h)) (by omega)
   have HPX:Hid (l[i].ex.own=1+l[i].ex.pts):=by show _=_;rw[hok.2.1];rfl
   have hple:=Ex.zNq l[i].ex;have hpx:l[i].ex.pts<1000000000:=by omega
   have htS:=Ac.zHg hlt;have htW:=Ac.zHU hlt;have hpS:=Ac.zHi l (i+1);have hpW:=Ac.zHZ l (i+1);rw[htS,Ac.zFZ] at hpS;rw[htW,Ac.zHv] at hpW;rw[Ac.zFZ] at htS;rw[Ac.zHv] at htW;have TKS:=yA htS;have TKW:=yA htW;have PTS:=yA hpS;have PTW:=yA hpW;have HCN:Hid (∃n:Nat,l[i].count=(n:Int)/\n<=1000):=⟨l[i].count.toNat,by omega,by omega⟩;clear hx hxt hxe hsz hB hok htS htW hpS hpW hFr hple;generalize l[i].kind=k at d0 TKS TKW PTS PTW;generalize l[i].count=c at d7 TKS TKW PTS PTW HCN;generalize Ac.zY l[i].thn=tw at HTT HTL HST TKS TKW PTS PTW;generalize Ac.zY l[i].els=ew at HEE HEL HST TKS TKW PTS PTW;generalize Ac.zh l[i].thn=ts at HTT HST TKS TKW PTS PTW;generalize Ac.zh l[i].els=es at HEE HST TKS TKW PTS PTW;generalize l[i].thn.length=x8 at d8 HTT;generalize l[i].els.length=x9 at d9 HEE;generalize l[i].ex.own=ow at HPX TKS TKW PTS PTW;generalize l[i].ex.pts=px at HPX HX hpx;generalize l[i].reg=x1 at d1;generalize l[i].obj=x2 at d2;generalize l[i].ex.kind=x3 at d3 HX;generalize l[i].ex.num=x4 at d4 HX;generalize l[i].ex.nm=x5 at d5 HX;generalize l[i].ex.args.length=x6 at d6 HX
   have HSM:Hid (∀W,Calls Tryz.prog 19 #[.int .i64 (1+(px:Int))] W λe w'=>∃z,e=.returned z/\zN w' (Since W.heap.size w') 1000000000 ow z/\Keeps zA W w'):=λW=>by
    have h:=zFW ow (by have:=HPX.out;omega) W;rw[show((ow:Nat):Int)=1+(px:Int) by have:=HPX.out;omega] at h;exact h
   go_upto_region 6 with fail
   obtain⟨b6,hb6⟩:=eX wr.heap.size;have hr6:zB (wr.alloc (.cells #[k,x1,x2,x3,x4,x5,.slice xa x6 xc,c,.slice ta x8 tc,.slice ea x9 ec] 146)) b6 [.int .i64 k,.int .i64 x1,.int .i64 x2,.int .i64 x3,.int .i64 x4,.string x5,.slice xa x6 xc,.int .i64 c,.slice ta x8 tc,.slice ea x9 ec]:=by rw[hb6];exact yK (yG wr _)
   have hk6:Keeps zA wr (wr.alloc (.cells #[k,x1,x2,x3,x4,x5,.slice xa x6 xc,c,.slice ta x8 tc,.slice ea x9 ec] 146)):=(yB _ _).alloc _;rw[<-hb6];generalize wr.alloc (.cells #[k,x1,x2,x3,x4,x5,.slice xa x6 xc,c,.slice ta x8 tc,.slice ea x9 ec] 146)=w6 at hr6 hk6 ⊢;have R6:=yA hr6;have K6:=yA hk6;obtain⟨y0,y1,y2,y3,y4,y5,y6,y7,y8,y9⟩:=hr6.ten;clear hr6 hk6 hb6 d0 d1 d2 d3 d4 d5 d6 d7 d8 d9
   go_upto_region 7 with(first
    | (go_at_call 89;refine(HX.out _ K6.out).mono ?_;rintro e w61 ⟨rfl,g1⟩;have G61:=yA g1;clear g1 y0 y1 y2 y3 y4 y5 y6 y7 y8 y9)
    | (go_at_call 19;refine(HSM.out _).mono ?_;rintro e w7 ⟨z7,rfl,n7,g7⟩;have OW:Hid (zN w7 (λ_=>True) 1000000000 ow z7):=n7.mono (λ_ _=>trivial);have G67:Hid (Keeps zA w6 w7):=G61.out.zC g7;clear g7 n7))
   have G7:Hid (Keeps zA wr w7):=K6.out.zC G67.out;have R7:=yA (R6.out.keeps G67.out (λh=>h));have C7:=yA (HC.out.zG G7.out);have N7:=yA (HN.out.zG G7.out);have M7:=yA (HM.out.zG G7.out);have ON7:=yA (ONr.out.zG G7.out);have K7:Hid (Keeps (λk=>k=b3) w2 w7):=HK.out.trans G7.out (λ_ _ h=>h.elim);clear HC HN HM ONr HK R6 K6 G61 G67 HX HSM KW;obtain⟨y0,y1,y2,y3,y4,y5,y6,y7,y8,y9⟩:=R7.out.ten;obtain⟨t0,t1⟩:=C7.out.row.two;have kin:=(show k=1\/k=10\/k=11\/(¬k=1/\¬k=10/\¬k=11) by omega);rcases kin with rfl|rfl|rfl|⟨k1,k10,k11⟩
   ·have HTK2:Hid (Ac.zh (l.take (i+1))=Ac.zh (l.take i)+(0)):=by show _=_;rw[TKS.out];simp
    have HTK3:Hid (Ac.zY (l.take (i+1))=Ac.zY (l.take i)+(ow)):=by show _=_;rw[TKW.out];simp
    have HP2:Hid (Ac.zh (l.take i)+(0)<=Ac.zY l):=by show _<=_;have h:=PTS.out;have h2:=HST.out.2.2;refine yX ?_ h2;simpa using h
    have HP3:Hid (Ac.zY (l.take i)+(ow)<=Ac.zY l):=by show _<=_;have h:=PTW.out;simpa using h
    clear TKS TKW PTS PTW HTT HEE HCN;go_upto_region 17 with(go_at_call 46;refine(zBh (Ac.zh (l.take i)) (Ac.zY (l.take i)) (0) (ow) w7 _ _ _ _ N7.out M7.out (zN.zero _ _ _) OW.out (by have:=HLL.out (Ac.zh (l.take i)) (J173 _);omega) (by have:=HLL.out (Ac.zY (l.take i)) (J173 _);omega) (by rw[zAp];simp) (by have:=HLL.out (ow) (J173 _);omega)).mono ?_;rintro e w8 ⟨u1,u2,rfl,n1,n2,g8⟩;have N8:=yA n1;have M8:=yA n2;obtain⟨p1,r1,rfl,_⟩:=n1;generalize (dig 1000000000 (Ac.zh (l.take i)+(0))).length=q1 at N8 ⊢;obtain⟨p2,r2,rfl,_⟩:=n2;generalize (dig 1000000000 (Ac.zY (l.take i)+(ow))).length=q2 at M8 ⊢;have C8:=yA (C7.out.zG g8);have K8:Hid (Keeps (λk=>k=b3) w2 w8):=K7.out.trans g8 (λ_ _ h=>h.elim);clear g8 t0 t1 y0 y1 y2 y3 y4 y5 y6 y7 y8 y9;obtain⟨t0,t1⟩:=C8.out.row.two;have f0:=C8.out.row.free (k:=0) (by simp);have f1:=C8.out.row.free (k:=1) (by simp))
    exact J30 _
   ·have HTK2:Hid (Ac.zh (l.take (i+1))=Ac.zh (l.take i)+(max ts es)):=by show _=_;rw[TKS.out];simp
    have HTK3:Hid (Ac.zY (l.take (i+1))=Ac.zY (l.take i)+(ow+max tw ew)):=by show _=_;rw[TKW.out];simp
    have HP2:Hid (Ac.zh (l.take i)+(max ts es)<=Ac.zY l):=by show _<=_;have h:=PTS.out;have h2:=HST.out.2.2;refine yX ?_ h2;simpa using h
    have HP3:Hid (Ac.zY (l.take i)+(ow+max tw ew)<=Ac.zY l):=by show _<=_;have h:=PTW.out;simpa using h
    clear TKS TKW PTS PTW HCN;go_upto_region 12 with fail
    clear y0 y1 y2 y3 y4 y5 y6 y7 y8 y9 t0 t1;refine zCJ 8 (by kernel_rfl) (by kernel_rfl) zNz (by kernel_rfl) (Keeps zA) (yB zA) (λa b c h h'=>xJ h h') (λa b h=>h.size) (zDl [some (.pointer (some ⟨b6,8,none⟩)),some (.slice ta x8 tc),none,some (.pointer (some ⟨b6,9,none⟩)),some (.slice ea x9 ec)] (zP3 w7.heap.size ts tw es ew)) (zDl.st (λj v gs W W' h hk=>⟨h.1,zDZ.st j v gs W W' h.2 hk⟩)) (zDl.loc (D:=zNz) (λj v gs gs' W hg h=>⟨h.1,zDZ.loc j h.1 v gs gs' W hg h.2⟩)) ?_ ?_
    ·intro q oo hq ho vs gs W Q' hR0 hd hK
     have hR:Keeps zA w7 W:=((yB zA w7).drew).zC hR0;obtain⟨y0,y1,y2,y3,y4,y5,y6,y7,y8,y9⟩:=(R7.out.keeps hR (λh=>h)).ten;have HTW:=yA (HTT.out W (G7.out.zC hR));have HEW:=yA (HEE.out W (G7.out.zC hR));have HB7:Hid (w7.heap.size<=W.heap.size):=hR.size;clear hR hR0 HTT HEE;rcases (show q=0\/q=1\/q=2\/q=3\/q=4\/q=5\/q=6\/q=7 by omega) with rfl|rfl|rfl|rfl|rfl|rfl|rfl|rfl
     all_goals (simp only[yC,yD,yN] at ho;subst ho;simp only[zJ,yC,yD,yO,Option.bind,Act.put,yE,yM,yJ] at hK ⊢;clear hq)
     ·exact J2 _
     ·exact J132 _
     ·have e1:vs 1=_:=hd 1 (by kernel_rfl)
      rw[e1] at hK ⊢;clear hd;go_wp2_with (go_at_call 45;refine(HTW.out).mono ?_;rintro e W1 ⟨z,zz,rfl,n1,n2,g1⟩)
      exact hK _ _ g1 ⟨by simp,z,zz,rfl,n1,n2⟩
     ·exact J2 _
     ·exact J138 _
     ·have e4:vs 4=_:=hd 4 (by kernel_rfl)
      rw[e4] at hK ⊢;clear hd;go_wp2_with (go_at_call 45;refine(HEW.out).mono ?_;rintro e W1 ⟨z,zz,rfl,n1,n2,g1⟩)
      exact hK _ _ g1 ⟨by simp,z,zz,rfl,n1,n2⟩
     ·exact J93 _
     ·exact J93 _
    ·intro vs gs W hR0 hF hGS hGD
     have hR:Keeps zA w7 W:=((yB zA w7).drew).zC hR0;obtain⟨_,u1,u2,e2,n1,n2⟩:=(hF 2 (by decide):_/\∃z zz,vs 2=.agg #[z,zz]/\zN W (λ_=>True) 1000000000 (ts) z/\zN W (λ_=>True) 1000000000 (tw) zz);obtain⟨_,u3,u4,e5,n3,n4⟩:=(hF 5 (by decide):_/\∃z zz,vs 5=.agg #[z,zz]/\zN W (λ_=>True) 1000000000 (es) z/\zN W (λ_=>True) 1000000000 (ew) zz);obtain⟨_,b8,e6,g1,g2,g3,hz8⟩:=(hF 6 (by decide):_/\∃b,vs 6=.pointer (some ⟨b,0,none⟩)/\b=(gs 6).1/\b<(gs 6).2/\w7.heap.size<=(gs 6).1/\Cnt W b (.slice none 0 0) (.slice none 0 0));obtain⟨_,b9,e7,g4,g5,g6,hz9⟩:=(hF 7 (by decide):_/\∃b,vs 7=.pointer (some ⟨b,0,none⟩)/\b=(gs 7).1/\b<(gs 7).2/\w7.heap.size<=(gs 7).1/\Cnt W b (.slice none 0 0) (.slice none 0 0));have hne:¬b8=b9:=by have:=hGD 6 7 (by decide) (by decide) (by decide);omega
     have hne2:¬b9=b8:=λe=>hne e.symm
     have HNE:Hid (¬b9=b8):=hne2;have HB8:Hid (w7.heap.size<=b8/\w7.heap.size<=b9):=⟨by omega,by omega⟩;have N1:=yA n1;have N2:=yA n2;have N3:=yA n3;have N4:=yA n4;have Z8:=yA hz8;have Z9:=yA hz9;obtain⟨p1,r1,rfl,_⟩:=n1;obtain⟨p2,r2,rfl,_⟩:=n2;obtain⟨p3,r3,rfl,_⟩:=n3;obtain⟨p4,r4,rfl,_⟩:=n4;simp only[zJ,yC,yD,yO,Option.bind,Act.put,yE,yM,yJ,yZ,yU];rw[e2,e5,e6,e7];clear hF e2 e5 e6 e7;generalize vs 0=y0;generalize vs 1=y1;generalize vs 3=y3;generalize vs 4=y4;generalize (dig 1000000000 ts).length=q1 at N1 ⊢;generalize (dig 1000000000 tw).length=q2 at N2 ⊢;generalize (dig 1000000000 es).length=q3 at N3 ⊢;generalize (dig 1000000000 ew).length=q4 at N4 ⊢;have HRW:=yA hR;clear hR hR0 hGS hGD g1 g2 g3 g4 g5 g6 HTT HEE;obtain⟨u80,u81⟩:=hz8.row.two;have f80:=hz8.row.free (k:=0) (by simp);have f81:=hz8.row.free (k:=1) (by simp);obtain⟨u90,u91⟩:=hz9.row.two;have f90:=hz9.row.free (k:=0) (by simp);have f91:=hz9.row.free (k:=1) (by simp);clear hz8 hz9;go_upto_region 13 with fail
     obtain⟨hc8,hk8⟩:=Z8.out.put (a1:=p1) (l1:=q1) (c1:=r1) (a2:=p2) (l2:=q2) (c2:=r2);have hz9:=Z9.out.keeps hk8 HNE.out;have N1':=yA (N1.out.stored Z8.out hk8);have N2':=yA (N2.out.stored Z8.out hk8);have N3':=yA (N3.out.stored Z8.out hk8);have N4':=yA (N4.out.stored Z8.out hk8);have hkA:Keeps zA w7 ((W.setCell ⟨b8,0,none⟩ (.slice p1 q1 r1)).setCell ⟨b8,1,none⟩ (.slice p2 q2 r2)):=HRW.out.trans hk8 (λq hq e=>by have e':q=b8:=e;have:=HB8.out;omega);generalize (W.setCell ⟨b8,0,none⟩ (.slice p1 q1 r1)).setCell ⟨b8,1,none⟩ (.slice p2 q2 r2)=wY at hc8 hz9 N1' N2' N3' N4' hkA ⊢;obtain⟨hc9,hk9⟩:=hz9.put (a1:=p3) (l1:=q3) (c1:=r3) (a2:=p4) (l2:=q4) (c2:=r4);have Y8:=yA (hc8.keeps hk9 (λe=>HNE.out e.symm));have U1:=yA (N1'.out.stored hz9 hk9);have U2:=yA (N2'.out.stored hz9 hk9);have U3:=yA (N3'.out.stored hz9 hk9);have U4:=yA (N4'.out.stored hz9 hk9);have hkX:Keeps zA w7 ((wY.setCell ⟨b9,0,none⟩ (.slice p3 q3 r3)).setCell ⟨b9,1,none⟩ (.slice p4 q4 r4)):=hkA.trans hk9 (λq hq e=>by have e':q=b9:=e;have:=HB8.out;omega);generalize (wY.setCell ⟨b9,0,none⟩ (.slice p3 q3 r3)).setCell ⟨b9,1,none⟩ (.slice p4 q4 r4)=wX at hc9 Y8 U1 U2 U3 U4 hkX ⊢;have Y9:=yA hc9;have CX:=yA (C7.out.zG hkX);have NX:=yA (N7.out.zG hkX);have MX:=yA (M7.out.zG hkX);have OX:=yA (OW.out.zG hkX);have KX:Hid (Keeps (λk=>k=b3) w2 wX):=K7.out.trans hkX (λ_ _ h=>h.elim);clear hc8 hz9 N1' N2' N3' N4' hkA hc9 hk8 hk9 hkX u80 u81 f80 f81 u90 u91 f90 f91 N1 N2 N3 N4 Z8 Z9 HRW C7 N7 M7 OW K7 hne hne2
     refine zW 14 (by kernel_rfl) (by kernel_rfl) (Keeps zA) (yB zA) (λa b c h h'=>xJ h h') (zAz [some (.agg #[.slice a1 l1 c1,.slice a2 l2 c2]),some (.pointer (some ⟨b8,0,none⟩)),some (.slice p1 q1 r1),some (.pointer (some ⟨b9,0,none⟩)),some (.slice p3 q3 r3),none,some z7,some (.pointer (some ⟨b8,1,none⟩)),some (.slice p2 q2 r2),some (.pointer (some ⟨b9,1,none⟩)),some (.slice p4 q4 r4)] (λj v W=>match j with
      | 5=>zN W (λ_=>True) 1000000000 (max ts es) v
      | 11=>zN W (λ_=>True) 1000000000 (max tw ew) v
      | 12=>zN W (λ_=>True) 1000000000 (ow+max tw ew) v
      | _=>∃z1 z2,v=.agg #[z1,z2]/\zN W (λ_=>True) 1000000000 (Ac.zh (l.take i)+(max ts es)) z1/\zN W (λ_=>True) 1000000000 (Ac.zY (l.take i)+(ow+max tw ew)) z2)) (vQ (λj v W W' h hk=>by
      revert h
      split
      ·exact λh=>h.zG hk
      ·exact λh=>h.zG hk
      ·exact λh=>h.zG hk
      ·rintro⟨z1,z2,e,h1,h2⟩;exact⟨z1,z2,e,h1.zG hk,h2.zG hk⟩)) ?_ ?_
     ·intro q oo hq ho vs W Q' hR0 hd hK
      have hR:Keeps zA wX W:=((yB zA wX).drew).zC hR0;obtain⟨t0,t1⟩:=(CX.out.zG hR).row.two;obtain⟨t80,t81⟩:=(Y8.out.zG hR).row.two;obtain⟨t90,t91⟩:=(Y9.out.zG hR).row.two;have HOW:=yA (OX.out.zG hR);have HNW:=yA (NX.out.zG hR);have HMW:=yA (MX.out.zG hR);have HG1:=yA (zId (U1.out.zG hR) (U3.out.zG hR) (J208 _) (by have:=HEL.out es (by have:=HST.out;omega);omega));have HG2:=yA (zId (U2.out.zG hR) (U4.out.zG hR) (J231 _) (by have:=HEL.out ew (by omega);omega));clear hR hR0;rcases (show q=0\/q=1\/q=2\/q=3\/q=4\/q=5\/q=6\/q=7\/q=8\/q=9\/q=10\/q=11\/q=12\/q=13 by omega) with rfl|rfl|rfl|rfl|rfl|rfl|rfl|rfl|rfl|rfl|rfl|rfl|rfl|rfl
      all_goals (simp only[yC,yD,yN] at ho;subst ho;simp only[zJ,yC,yD,yO,Option.bind,Act.put,yE,yM,yJ] at hK ⊢;clear hq)
      ·exact J2 _
      ·exact J2 _
      ·exact J137 _
      ·exact J2 _
      ·exact J138 _
      ·have e2:vs 2=_:=hd 2 (by kernel_rfl)
       have e4:vs 4=_:=hd 4 (by kernel_rfl);rw[e2,e4] at hK ⊢;clear hd;go_wp2_with (go_at_call 90;refine(HG1.out).mono ?_;rintro e W1 ⟨z,rfl,n1,g1⟩)
       exact hK _ _ g1 n1
      ·exact J2 _
      ·exact J2 _
      ·exact J147 _
      ·exact J2 _
      ·exact J143 _
      ·have e8:vs 8=_:=hd 8 (by kernel_rfl)
       have e10:vs 10=_:=hd 10 (by kernel_rfl);rw[e8,e10] at hK ⊢;clear hd;go_wp2_with (go_at_call 90;refine(HG2.out).mono ?_;rintro e W1 ⟨z,rfl,n1,g1⟩)
       exact hK _ _ g1 n1
      ·have e6:vs 6=_:=hd 6 (by kernel_rfl)
       obtain⟨z11,e11,h11⟩:∃z,vs 11=z/\zN W (λ_=>True) 1000000000 (max tw ew) z:=⟨_,rfl,hd 11 (by kernel_rfl)⟩
       have H11:=yA h11;rw[e6,e11] at hK ⊢;clear h11;clear hd;go_wp2_with (go_at_call 91;refine(plusV (F:=(λ_=>True)) HOW.out H11.out (by have:=HLL.out (ow) (J173 _);omega) (by have:=HLL.out (max tw ew) (J173 _);omega)).mono ?_;rintro e W1 ⟨z,rfl,n1,g1⟩)
       exact J45 _
      ·have e0:vs 0=_:=hd 0 (by kernel_rfl)
       obtain⟨z5,e5,h5⟩:∃z,vs 5=z/\zN W (λ_=>True) 1000000000 (max ts es) z:=⟨_,rfl,hd 5 (by kernel_rfl)⟩
       have H5:=yA h5;obtain⟨z12,e12,h12⟩:∃z,vs 12=z/\zN W (λ_=>True) 1000000000 (ow+max tw ew) z:=⟨_,rfl,hd 12 (by kernel_rfl)⟩
       have H12:=yA h12;rw[e0,e5,e12] at hK ⊢;clear h5 h12;clear hd;go_wp2_with (go_at_call 46;refine(zBh (Ac.zh (l.take i)) (Ac.zY (l.take i)) (max ts es) (ow+max tw ew) W _ _ _ _ HNW.out HMW.out H5.out H12.out (by have:=HLL.out (Ac.zh (l.take i)) (J173 _);omega) (by have:=HLL.out (Ac.zY (l.take i)) (J173 _);omega) (by have:=HLL.out (max ts es) (J173 _);omega) (by have:=HLL.out (ow+max tw ew) (J173 _);omega)).mono ?_;rintro e W1 ⟨z,zz,rfl,n1,n2,g1⟩)
       exact hK _ _ g1 ⟨z,zz,rfl,n1,n2⟩
     ·intro vs W hR0 hF
      have hR:Keeps zA wX W:=((yB zA wX).drew).zC hR0;obtain⟨z1,z2,e13,n1,n2⟩:=(hF 13 (by decide):∃z1 z2,vs 13=.agg #[z1,z2]/\zN W (λ_=>True) 1000000000 (Ac.zh (l.take i)+(max ts es)) z1/\zN W (λ_=>True) 1000000000 (Ac.zY (l.take i)+(ow+max tw ew)) z2);have N8:=yA n1;have M8:=yA n2;obtain⟨p11,r11,rfl,_⟩:=n1;obtain⟨p12,r12,rfl,_⟩:=n2;simp only[zJ,yC,yD,yO,Option.bind,Act.put,yE,yM,yJ,yZ,yU];rw[e13];clear hF e13;generalize vs 0=y0;generalize vs 1=y1;generalize vs 2=y2;generalize vs 3=y3;generalize vs 4=y4;generalize vs 5=y5;generalize vs 6=y6;generalize vs 7=y7;generalize vs 8=y8;generalize vs 9=y9;generalize vs 10=y10;generalize vs 11=y11;generalize vs 12=y12;have C8:Hid (Cnt W b3 (.slice a1 l1 c1) (.slice a2 l2 c2)):=CX.out.zG hR;have K8:Hid (Keeps (λk=>k=b3) w2 W):=KX.out.trans hR (λ_ _ h=>h.elim);clear hR hR0;generalize (dig 1000000000 (Ac.zh (l.take i)+(max ts es))).length=q11 at N8 ⊢;generalize (dig 1000000000 (Ac.zY (l.take i)+(ow+max tw ew))).length=q12 at M8 ⊢;exact J159 _
   ·obtain⟨cn,rfl,hcn⟩:=HCN.out
    have HCN2:=yA hcn;clear HCN hcn;have HTK2:Hid (Ac.zh (l.take (i+1))=Ac.zh (l.take i)+(ts*cn)):=by show _=_;rw[TKS.out];simp
    have HTK3:Hid (Ac.zY (l.take (i+1))=Ac.zY (l.take i)+(ow+(tw+1)*cn)):=by show _=_;rw[TKW.out];simp
    have HP2:Hid (Ac.zh (l.take i)+(ts*cn)<=Ac.zY l):=by show _<=_;have h:=PTS.out;have h2:=HST.out.2.2;refine yX ?_ h2;simpa using h
    have HP3:Hid (Ac.zY (l.take i)+(ow+(tw+1)*cn)<=Ac.zY l):=by show _<=_;have h:=PTW.out;simpa using h
    clear TKS TKW PTS PTW HEE;go_upto_region 16 with(go_at_call 45;refine(HTT.out _ G7.out).mono ?_;rintro e w8 ⟨u1,u2,rfl,n1,n2,g8⟩;have U1:=yA n1;have U2:=yA n2;obtain⟨p1,r1,rfl,_⟩:=n1;generalize (dig 1000000000 (ts)).length=q1 at U1 ⊢;obtain⟨p2,r2,rfl,_⟩:=n2;generalize (dig 1000000000 (tw)).length=q2 at U2 ⊢;have G8:=yA g8;clear g8 t0 t1 y0 y1 y2 y3 y4 y5 y6 y7 y8 y9)
    obtain⟨b10,hb10⟩:=eX w8.heap.size;have hc10:Cnt (w8.alloc (.cells #[.slice p1 q1 r1,.slice p2 q2 r2] 53)) b10 (.slice p1 q1 r1) (.slice p2 q2 r2):=by rw[hb10];exact Cnt.zH (yG w8 _)
    have hkX:Keeps zA w8 (w8.alloc (.cells #[.slice p1 q1 r1,.slice p2 q2 r2] 53)):=(yB _ _).alloc _;rw[<-hb10];generalize w8.alloc (.cells #[.slice p1 q1 r1,.slice p2 q2 r2] 53)=wX at hc10 hkX ⊢;have Y10:=yA hc10;have hk:=G8.out.zC hkX;have CX:=yA (C7.out.zG hk);have NX:=yA (N7.out.zG hk);have MX:=yA (M7.out.zG hk);have OX:=yA (OW.out.zG hk);have OXN:=yA (ON7.out.zG hk);have RX:=yA (R7.out.keeps hk (λh=>h));have UX1:=yA (U1.out.zG hkX);have UX2:=yA (U2.out.zG hkX);have KX:Hid (Keeps (λk=>k=b3) w2 wX):=K7.out.trans hk (λ_ _ h=>h.elim);clear hc10 hkX hk hb10 C7 N7 M7 OW ON7 K7 R7 U1 U2
    refine zW 16 (by kernel_rfl) (by kernel_rfl) (Keeps zA) (yB zA) (λa b c h h'=>xJ h h') (zAz [some (.agg #[.slice a1 l1 c1,.slice a2 l2 c2]),some (.pointer (some ⟨b10,0,none⟩)),some (.slice p1 q1 r1),some (.pointer (some ⟨b6,7,none⟩)),some (.int .i64 cn),none,some z7,some (.pointer (some ⟨b10,1,none⟩)),some (.slice p2 q2 r2),some z4,none,some (.pointer (some ⟨b6,7,none⟩)),some (.int .i64 cn)] (λj v W=>match j with
     | 5=>zN W (λ_=>True) 1000000000 (ts*cn) v
     | 10=>zN W (λ_=>True) 1000000000 (tw+1) v
     | 13=>zN W (λ_=>True) 1000000000 ((tw+1)*cn) v
     | 14=>zN W (λ_=>True) 1000000000 (ow+(tw+1)*cn) v
     | _=>∃z1 z2,v=.agg #[z1,z2]/\zN W (λ_=>True) 1000000000 (Ac.zh (l.take i)+(ts*cn)) z1/\zN W (λ_=>True) 1000000000 (Ac.zY (l.take i)+(ow+(tw+1)*cn)) z2)) (vQ (λj v W W' h hk=>by
     revert h
     split
     ·exact λh=>h.zG hk
     ·exact λh=>h.zG hk
     ·exact λh=>h.zG hk
     ·exact λh=>h.zG hk
     ·rintro⟨z1,z2,e,h1,h2⟩;exact⟨z1,z2,e,h1.zG hk,h2.zG hk⟩)) ?_ ?_
    ·intro q oo hq ho vs W Q' hR0 hd hK
     have hR:Keeps zA wX W:=((yB zA wX).drew).zC hR0;obtain⟨t0,t1⟩:=(CX.out.zG hR).row.two;obtain⟨t80,t81⟩:=(Y10.out.zG hR).row.two;obtain⟨y0,y1,y2,y3,y4,y5,y6,y7,y8,y9⟩:=(RX.out.keeps hR (λh=>h)).ten;have HOW:=yA (OX.out.zG hR);have HONE:=yA (OXN.out.zG hR);have HNW:=yA (NX.out.zG hR);have HMW:=yA (MX.out.zG hR);have HU1:=yA (UX1.out.zG hR);have HU2:=yA (UX2.out.zG hR);clear hR hR0;rcases (show q=0\/q=1\/q=2\/q=3\/q=4\/q=5\/q=6\/q=7\/q=8\/q=9\/q=10\/q=11\/q=12\/q=13\/q=14\/q=15 by omega) with rfl|rfl|rfl|rfl|rfl|rfl|rfl|rfl|rfl|rfl|rfl|rfl|rfl|rfl|rfl|rfl
     all_goals (simp only[yC,yD,yN] at ho;subst ho;simp only[zJ,yC,yD,yO,Option.bind,Act.put,yE,yM,yJ] at hK ⊢;clear hq)
     ·exact J2 _
     ·exact J2 _
     ·exact J137 _
     ·exact J2 _
     ·exact J138 _
     ·have e2:vs 2=_:=hd 2 (by kernel_rfl)
      have e4:vs 4=_:=hd 4 (by kernel_rfl);rw[e2,e4] at hK ⊢;clear hd;go_wp2_with (go_at_call 92;refine(zNU HU1.out (J208 _) HCN2.out).mono ?_;rintro e W1 ⟨z,rfl,n1,g1⟩)
      exact J45 _
     ·exact J2 _
     ·exact J2 _
     ·exact J147 _
     ·exact J2 _
     ·have e8:vs 8=_:=hd 8 (by kernel_rfl)
      have e9:vs 9=_:=hd 9 (by kernel_rfl);rw[e8,e9] at hK ⊢;clear hd;go_wp2_with (go_at_call 91;refine(plusV (F:=(λ_=>True)) HU2.out HONE.out (J231 _) (J207 _)).mono ?_;rintro e W1 ⟨z,rfl,n1,g1⟩)
      exact J45 _
     ·exact J2 _
     ·have e11:vs 11=_:=hd 11 (by kernel_rfl)
      rw[e11] at hK ⊢;exact J2 _
     ·obtain⟨z10,e10,h10⟩:∃z,vs 10=z/\zN W (λ_=>True) 1000000000 (tw+1) z:=⟨_,rfl,hd 10 (by kernel_rfl)⟩
      have H10:=yA h10;have e12:vs 12=_:=hd 12 (by kernel_rfl);rw[e10,e12] at hK ⊢;clear h10;clear hd;go_wp2_with (go_at_call 92;refine(zNU H10.out (by have:=HTL.out (tw+1) (by omega);omega) HCN2.out).mono ?_;rintro e W1 ⟨z,rfl,n1,g1⟩)
      exact J45 _
     ·have e6:vs 6=_:=hd 6 (by kernel_rfl)
      obtain⟨z13,e13,h13⟩:∃z,vs 13=z/\zN W (λ_=>True) 1000000000 ((tw+1)*cn) z:=⟨_,rfl,hd 13 (by kernel_rfl)⟩
      have H13:=yA h13;rw[e6,e13] at hK ⊢;clear h13;clear hd;go_wp2_with (go_at_call 91;refine(plusV (F:=(λ_=>True)) HOW.out H13.out (by have:=HLL.out (ow) (J173 _);omega) (by have:=HLL.out ((tw+1)*cn) (J173 _);omega)).mono ?_;rintro e W1 ⟨z,rfl,n1,g1⟩)
      exact J45 _
     ·have e0:vs 0=_:=hd 0 (by kernel_rfl)
      obtain⟨z5,e5,h5⟩:∃z,vs 5=z/\zN W (λ_=>True) 1000000000 (ts*cn) z:=⟨_,rfl,hd 5 (by kernel_rfl)⟩
      have H5:=yA h5;obtain⟨z14,e14,h14⟩:∃z,vs 14=z/\zN W (λ_=>True) 1000000000 (ow+(tw+1)*cn) z:=⟨_,rfl,hd 14 (by kernel_rfl)⟩
      have H14:=yA h14;rw[e0,e5,e14] at hK ⊢;clear h5 h14;clear hd;go_wp2_with (go_at_call 46;refine(zBh (Ac.zh (l.take i)) (Ac.zY (l.take i)) (ts*cn) (ow+(tw+1)*cn) W _ _ _ _ HNW.out HMW.out H5.out H14.out (by have:=HLL.out (Ac.zh (l.take i)) (J173 _);omega) (by have:=HLL.out (Ac.zY (l.take i)) (J173 _);omega) (by have:=HLL.out (ts*cn) (J173 _);omega) (by have:=HLL.out (ow+(tw+1)*cn) (J173 _);omega)).mono ?_;rintro e W1 ⟨z,zz,rfl,n1,n2,g1⟩)
      exact hK _ _ g1 ⟨z,zz,rfl,n1,n2⟩
    ·intro vs W hR0 hF
     have hR:Keeps zA wX W:=((yB zA wX).drew).zC hR0;obtain⟨z1,z2,e15,n1,n2⟩:=(hF 15 (by decide):∃z1 z2,vs 15=.agg #[z1,z2]/\zN W (λ_=>True) 1000000000 (Ac.zh (l.take i)+(ts*cn)) z1/\zN W (λ_=>True) 1000000000 (Ac.zY (l.take i)+(ow+(tw+1)*cn)) z2);have N8:=yA n1;have M8:=yA n2;obtain⟨p11,r11,rfl,_⟩:=n1;obtain⟨p12,r12,rfl,_⟩:=n2;simp only[zJ,yC,yD,yO,Option.bind,Act.put,yE,yM,yJ,yZ,yU];rw[e15];clear hF e15;generalize vs 0=y0;generalize vs 1=y1;generalize vs 2=y2;generalize vs 3=y3;generalize vs 4=y4;generalize vs 5=y5;generalize vs 6=y6;generalize vs 7=y7;generalize vs 8=y8;generalize vs 9=y9;generalize vs 10=y10;generalize vs 11=y11;generalize vs 12=y12;generalize vs 13=y13;generalize vs 14=y14;have C8:Hid (Cnt W b3 (.slice a1 l1 c1) (.slice a2 l2 c2)):=CX.out.zG hR;have K8:Hid (Keeps (λk=>k=b3) w2 W):=KX.out.trans hR (λ_ _ h=>h.elim);clear hR hR0;generalize (dig 1000000000 (Ac.zh (l.take i)+(ts*cn))).length=q11 at N8 ⊢;generalize (dig 1000000000 (Ac.zY (l.take i)+(ow+(tw+1)*cn))).length=q12 at M8 ⊢;exact J159 _
   ·have HTK2:Hid (Ac.zh (l.take (i+1))=Ac.zh (l.take i)+(1)):=by show _=_;rw[TKS.out];simp[k1,k10,k11]
    have HTK3:Hid (Ac.zY (l.take (i+1))=Ac.zY (l.take i)+(ow)):=by show _=_;rw[TKW.out];simp[k1,k10,k11]
    have HP2:Hid (Ac.zh (l.take i)+(1)<=Ac.zY l):=by show _<=_;have h:=PTS.out;have h2:=HST.out.2.2;refine yX ?_ h2;simpa [k1,k10,k11] using h
    have HP3:Hid (Ac.zY (l.take i)+(ow)<=Ac.zY l):=by show _<=_;have h:=PTW.out;simpa [k1,k10,k11] using h
    have kb1:(k==1)=false:=by simpa using k1
    have kb10:(k==10)=false:=by simpa using k10
    have kb11:(k==11)=false:=by simpa using k11
    clear TKS TKW PTS PTW HTT HEE HCN;go_upto_region 17 with(go_at_call 46;refine(zBh (Ac.zh (l.take i)) (Ac.zY (l.take i)) (1) (ow) w7 _ _ _ _ N7.out M7.out ON7.out OW.out (by have:=HLL.out (Ac.zh (l.take i)) (J173 _);omega) (by have:=HLL.out (Ac.zY (l.take i)) (J173 _);omega) (J207 _) (by have:=HLL.out (ow) (J173 _);omega)).mono ?_;rintro e w8 ⟨u1,u2,rfl,n1,n2,g8⟩;have N8:=yA n1;have M8:=yA n2;obtain⟨p1,r1,rfl,_⟩:=n1;generalize (dig 1000000000 (Ac.zh (l.take i)+(1))).length=q1 at N8 ⊢;obtain⟨p2,r2,rfl,_⟩:=n2;generalize (dig 1000000000 (Ac.zY (l.take i)+(ow))).length=q2 at M8 ⊢;have C8:=yA (C7.out.zG g8);have K8:Hid (Keeps (λk=>k=b3) w2 w8):=K7.out.trans g8 (λ_ _ h=>h.elim);clear g8 t0 t1 y0 y1 y2 y3 y4 y5 y6 y7 y8 y9;obtain⟨t0,t1⟩:=C8.out.row.two;have f0:=C8.out.row.free (k:=0) (by simp);have f1:=C8.out.row.free (k:=1) (by simp))
    exact J30 _
  ·obtain rfl:i=l.length:=by omega
   have h1:=HN.out;have h2:=HM.out;rw[xS] at h1 h2;have HE1:=yA h1;have HE2:=yA h2;clear h1 h2 HN HM;obtain⟨t0,t1⟩:=HC.out.row.two;have C2r:Hid (Cnt wr b2 (.slice none 0 0) (.slice none 0 0)):=C2.out.keeps HK.out (λe=>HS.out.2.2 e);obtain⟨u0,u1⟩:=C2r.out.row.two;have f0:=C2r.out.row.free (k:=0) (by simp);have f1:=C2r.out.row.free (k:=1) (by simp);go_wp2_with fail
   obtain⟨hrow,hks⟩:=C2r.out.put (a1:=a1) (l1:=l1) (c1:=c1) (a2:=a2) (l2:=l2) (c2:=c2);generalize (wr.setCell ⟨b2,0,none⟩ (.slice a1 l1 c1)).setCell ⟨b2,1,none⟩ (.slice a2 l2 c2)=wE at hrow hks ⊢;refine xK (v:=.agg #[.slice a1 l1 c1,.slice a2 l2 c2]) (by simp[results,Tryz.results45,go_sem,hrow.row.cell (k:=0) rfl,hrow.row.cell (k:=1) rfl]) rfl ?_
   exact J95 _
theorem zOh(l:List Ac):zC5 l:=by
 have key:∀x:Ac,zC5 x.thn/\zC5 x.els:=λx=>Ac.ind (P:=λx=>zC5 x.thn/\zC5 x.els) (λk r o x c t e h1 h2=>⟨zEO t h1,zEO e h2⟩) x
 exact zEO l (λy _=>key y)
