/- Layer N: texts joined. -/
import Derived.Test.YtoapgjjepiopbaaGreatDoorN30
set_option linter.all false
set_option maxHeartbeats 8000000
set_option maxRecDepth 8000
namespace Go.Proofs.YtoapgjjepiopbaaGreatDoor
open Go.RowKit
theorem J27 (P:Prop) (h:P:=by
 go_wp2_with fail
 go_roundw
 case rel =>
  refine ⟨i+1,by omega,by go_num,?_⟩
  show zEP _ _ _ _ _
  rw [HTK2.out,HTK3.out];exact zEP.put C8.out N8.out M8.out K8.out
 case measure=>simp [intOf];omega):P:=h
theorem J87 (P:Prop) (h:P:=by
 clear hd;go_wp2_with fail
 exact hK _ _ ((Keeps.refl _ _).alloc _) ⟨by simp,_,rfl,rfl,by show _ < _;simp [zFI],HB7.out,Cnt.zG (heap_alloc_new W _)⟩):P:=h
theorem J89 (P:Prop) (h:P:=by
 rw [HQ.out];exact ⟨_,_,rfl,HE1.out.stored C2r.out hks,HE2.out.stored C2r.out hks,KW.out.trans hks (fun q hq e=>by have e':q=b2:=e;have:=HS.out;omega)⟩):P:=h
theorem J143 (P:Prop) (h:P:=by
 have e7:vs 7=_:=hd 7 (by kernel_rfl);rw [e7] at hK ⊢;exact J3 _):P:=h
theorem J144 (P:Prop) (h:P:=by
 obtain ⟨t0,t1⟩:=C8.out.row.two;have f0:=C8.out.row.free (k:=0) (by simp);have f1:=C8.out.row.free (k:=1) (by simp);exact J27 _):P:=h
theorem J155 (P:Prop) (h:P:=by have:=HP2.out;have:=HP3.out;omega):P:=h
theorem J185 (P:Prop) (h:P:=by rw [zCH (by decide)];simp):P:=h
theorem J186 (P:Prop) (h:P:=by have:=HTL.out ts (by have:=HST.out;omega);omega):P:=h
theorem J206 (P:Prop) (h:P:=by have:=HTL.out tw (by omega);omega):P:=h
def zEP (b3:Nat) (w1:World) (x y:Nat) (W:World):Prop:=∃ a1 l1 c1 a2 l2 c2,Cnt W b3 (.slice a1 l1 c1) (.slice a2 l2 c2) /\ zO W (fun _=>True) 1000000000 x (.slice a1 l1 c1) /\ zO W (fun _=>True) 1000000000 y (.slice a2 l2 c2) /\ Keeps (fun k=>k=b3) w1 W
theorem zEP.put {b3 x y l1 c1 l2 c2:Nat} {w1 W:World} {a1 a2:Option Addr} {s v:Value} (hc:Cnt W b3 s v) (hn:zO W (fun _=>True) 1000000000 x (.slice a1 l1 c1)) (hm:zO W (fun _=>True) 1000000000 y (.slice a2 l2 c2)) (hk:Keeps (fun k=>k=b3) w1 W) :
 zEP b3 w1 x y ((W.setCell ⟨b3,0,none⟩ (.slice a1 l1 c1)).setCell ⟨b3,1,none⟩ (.slice a2 l2 c2)):=by
 obtain ⟨h1,h2⟩:=hc.put (a1:=a1) (l1:=l1) (c1:=c1) (a2:=a2) (l2:=l2) (c2:=c2);exact ⟨a1,l1,c1,a2,l2,c2,h1,hn.stored hc h2,hm.stored hc h2,hk.trans h2 (fun _ _ h=>h)⟩
def zKD (j:Nat):List Nat :=
 match j with
 | 6=>[6]
 | 7=>[7]
 | _=>[]
def zCx (B0 ts tw es ew:Nat) (j:Nat) (v:Value) (gs:Nat -> Nat × Nat) (W:World):Prop :=
 match j with
 | 2=>∃ z zz,v=.agg #[z,zz] /\ zO W (fun _=>True) 1000000000 ts z /\ zO W (fun _=>True) 1000000000 tw zz
 | 5=>∃ z zz,v=.agg #[z,zz] /\ zO W (fun _=>True) 1000000000 es z /\ zO W (fun _=>True) 1000000000 ew zz
 | 6=>∃ b,v=.pointer (some ⟨b,0,none⟩) /\ b=(gs 6).1 /\ b < (gs 6).2 /\ B0 <= (gs 6).1 /\ Cnt W b (.slice none 0 0) (.slice none 0 0)
 | _=>∃ b,v=.pointer (some ⟨b,0,none⟩) /\ b=(gs 7).1 /\ b < (gs 7).2 /\ B0 <= (gs 7).1 /\ Cnt W b (.slice none 0 0) (.slice none 0 0)
theorem zCx.st {B0 ts tw es ew:Nat} (j:Nat) (v:Value) (gs:Nat -> Nat × Nat) (W W':World) (h:zCx B0 ts tw es ew j v gs W) (hk:Keeps zA W W'):zCx B0 ts tw es ew j v gs W':=by
 unfold zCx at *;split at h
 ·obtain ⟨z,zz,e,h1,h2⟩:=h;exact ⟨z,zz,e,h1.zD hk,h2.zD hk⟩
 ·obtain ⟨z,zz,e,h1,h2⟩:=h;exact ⟨z,zz,e,h1.zD hk,h2.zD hk⟩
 ·obtain ⟨b,e,h1,h2,h4,h3⟩:=h;exact ⟨b,e,h1,h2,h4,h3.zD hk⟩
 ·obtain ⟨b,e,h1,h2,h4,h3⟩:=h;exact ⟨b,e,h1,h2,h4,h3.zD hk⟩
theorem zCx.loc {B0 ts tw es ew:Nat} (j:Nat) (hj:j=2 \/ j=5 \/ j=6 \/ j=7) (v:Value) (gs gs':Nat -> Nat × Nat) (W:World) (hg:∀ a,a ∈ zKD j -> gs a=gs' a) (h:zCx B0 ts tw es ew j v gs W):zCx B0 ts tw es ew j v gs' W:=by
 rcases hj with rfl | rfl | rfl | rfl
 ·exact h
 ·exact h
 ·have e:=hg 6 (by simp [zKD]);unfold zCx at *;simp only [] at *;rw [<- e];exact h
 ·have e:=hg 7 (by simp [zKD]);unfold zCx at *;simp only [] at *;rw [<- e];exact h
def zNq (B0 ts tw es ew:Nat) (j:Nat) (v:Value) (gs:Nat -> Nat × Nat) (W:World):Prop :=
 (j=2 \/ j=5 \/ j=6 \/ j=7) /\ zCx B0 ts tw es ew j v gs W
def zCK (l:List Ac):Prop:=∀ (w:World) (F:Nat -> Prop) (ad:Option Addr) (cap:Nat),zAG w F l ad -> (∀ k,F k -> k < w.heap.size) -> Ac.szL l < 1000000000 -> Ac.zDS l →
 Calls Tryz.prog 45 #[.slice ad l.length cap] w fun e w'=>∃ z1 z2,e=.returned (.agg #[z1,z2]) /\ zO w' (fun _=>True) 1000000000 (Ac.zY l) z1 /\ zO w' (fun _=>True) 1000000000 (Ac.zT l) z2 /\ Keeps zA w w'
theorem zDr (l:List Ac) (ih:∀ y,y ∈ l -> zCK y.thn /\ zCK y.els):zCK l:=by
 intro w F ad cap h hF hb ho
 have HL:=Lib.hid h;have IH:=Lib.hid ih;have hl:=Ac.zAY l;have hb2:l.length < 1000000000:=by omega
 have HB:=Lib.hid hb;have HO:=Lib.hid ho;have HFs:=Lib.hid hF;obtain ⟨Q,hQ⟩:=eX (α:=Ending -> World -> Prop) (fun e w'=>∃ z1 z2,e=.returned (.agg #[z1,z2]) /\ zO w' (fun _=>True) 1000000000 (Ac.zY l) z1 /\ zO w' (fun _=>True) 1000000000 (Ac.zT l) z2 /\ Keeps zA w w');have HQ:=Lib.hid hQ;rw [<- hQ];clear h ih hl hb ho hF hQ;go_enter Tryz.func45,Tryz.ntmps45
 go_upto_region 2 with fail
 obtain ⟨b2,hb2'⟩:=eX w.heap.size;obtain ⟨b3,hb3⟩:=eX (w.heap.size+1);rw [<- hb3,<- hb2'];obtain ⟨wA,hwA⟩:=eX (w.alloc (.cells #[.slice none 0 0, .slice none 0 0] 53));obtain ⟨w1,hw1⟩:=eX (wA.alloc (.cells #[.slice none 0 0, .slice none 0 0] 53));rw [<- hwA,<- hw1];have kA:Keeps zA w wA:=J173 _;have k1:Keeps zA wA w1:=J180 _;have sA:wA.heap.size=w.heap.size+1:=by rw [hwA];simp
 have r2:Cnt wA b2 (.slice none 0 0) (.slice none 0 0):=by rw [hb2',hwA];exact Cnt.zG (heap_alloc_new w _)
 have r3:Cnt w1 b3 (.slice none 0 0) (.slice none 0 0):=by rw [hb3,<- sA,hw1];exact Cnt.zG (heap_alloc_new wA _)
 have R2:Hid (Cnt w1 b2 (.slice none 0 0) (.slice none 0 0)):=r2.zD k1;have R3:=Lib.hid r3;have K1:Hid (Keeps zA w w1):=kA.zB k1;have HS:Hid (w.heap.size <= b2 /\ w.heap.size <= b3 /\ b2 ≠ b3):=⟨by omega,by omega,by omega⟩;clear hwA hw1 kA k1 sA r2 r3 hb2' hb3;go_upto_region 3 with (go_at_call 19;refine (zEW 1 (by decide) _).mono ?_;rintro e w2 ⟨z4,rfl,n4,g4⟩;have ONE:Hid (zO w2 (fun _=>True) 1000000000 1 z4):=n4.mono (fun _ _=>trivial);have K2:Hid (Keeps zA w w2):=K1.out.zB g4;have C2:=Lib.hid (R2.out.zD g4);have C3:=Lib.hid (R3.out.zD g4);clear g4 n4)
 clear R2 R3 K1;go_upto_region 4 with fail
 go_loopw [14] (fun iv wr=>∃ i:Nat,i <= l.length /\ iv=.int .i64 i /\ Hid (zEP b3 w2 (Ac.zY (l.take i)) (Ac.zT (l.take i)) wr)) (fun iv _=>l.length - (intOf iv).toNat)
 case atStart=>exact ⟨0,Nat.zero_le _,rfl,none,0,0,none,0,0,C3.out,zO.zero _ _ _,zO.zero _ _ _,Keeps.refl _ _⟩
 case round =>
  obtain ⟨i,hi,rfl,HI⟩:=hrel;obtain ⟨a1,l1,c1,a2,l2,c2,hc,hn,hm,hk⟩:=HI.out;have HC:=Lib.hid hc;have HN:=Lib.hid hn;have HM:=Lib.hid hm;have HK:=Lib.hid hk;have KW:Hid (Keeps zA w wr):=K2.out.trans hk (fun q hq e=>by have e':q=b3:=e;have:=HS.out;omega);have ONr:Hid (zO wr (fun _=>True) 1000000000 1 z4):=ONE.out.stored C3.out hk;clear hc hn hm hk HI;by_cases hlt:i < l.length
  ·have i1:(0:Int) <= i:=by omega
   have i2:(i:Int) < l.length:=by omega
   obtain ⟨g,o,xa,xc,ta,tc,ea,ec,e1,hg,d0,d1,d2,d3,d4,d5,d6,d7,d8,d9,hx,hxt,hxe⟩:=(HL.out.keeps KW.out (fun _ _ h=>h)).at hlt;subst e1;have hsz:=Ac.zBk (List.getElem_mem hlt);rw [Ac.zB1] at hsz;have hB:=HB.out;have hok:=Ac.zIC (Ac.zFR HO.out (List.getElem_mem hlt));have hFr:∀ k,F k -> k < wr.heap.size:=fun k hk=>Nat.lt_of_lt_of_le (HFs.out k hk) KW.out.size
   have HTT:Hid (∀ W,Keeps zA wr W -> Calls Tryz.prog 45 #[.slice ta l[i].thn.length tc] W fun e w'=>∃ z1 z2,e=.returned (.agg #[z1,z2]) /\ zO w' (fun _=>True) 1000000000 (Ac.zY l[i].thn) z1 /\ zO w' (fun _=>True) 1000000000 (Ac.zT l[i].thn) z2 /\ Keeps zA W w'):=fun W hk=>(IH.out _ (List.getElem_mem hlt)).1 W F ta tc (hxt.keeps hk (fun _ _ h=>h)) (fun k h=>Nat.lt_of_lt_of_le (hFr k h) hk.size) (by omega) hok.2.2.1
   have HEE:Hid (∀ W,Keeps zA wr W -> Calls Tryz.prog 45 #[.slice ea l[i].els.length ec] W fun e w'=>∃ z1 z2,e=.returned (.agg #[z1,z2]) /\ zO w' (fun _=>True) 1000000000 (Ac.zY l[i].els) z1 /\ zO w' (fun _=>True) 1000000000 (Ac.zT l[i].els) z2 /\ Keeps zA W w'):=fun W hk=>(IH.out _ (List.getElem_mem hlt)).2 W F ea ec (hxe.keeps hk (fun _ _ h=>h)) (fun k h=>Nat.lt_of_lt_of_le (hFr k h) hk.size) (by omega) hok.2.2.2
   have HTL:Hid (∀ m,m <= Ac.zT l[i].thn+1 -> (zw 1000000000 m).length <= 12000000000):=fun m hm=>Ac.zBu (by decide) hok.2.2.1 (by omega) hm
   have HEL:Hid (∀ m,m <= Ac.zT l[i].els+1 -> (zw 1000000000 m).length <= 12000000000):=fun m hm=>Ac.zBu (by decide) hok.2.2.2 (by omega) hm
   have HLL:Hid (∀ m,m <= Ac.zT l+1 -> (zw 1000000000 m).length <= 12000000000):=fun m hm=>Ac.zBu (by decide) HO.out HB.out hm
   have HST:Hid (Ac.zY l[i].thn <= Ac.zT l[i].thn /\ Ac.zY l[i].els <= Ac.zT l[i].els /\ Ac.zY l <= Ac.zT l):=⟨Ac.zAw _,Ac.zAw _,Ac.zAw _⟩;have HX:Hid (∀ W,Keeps zA wr W -> Calls Tryz.prog 89 #[.agg #[.int .i64 l[i].ex.kind, .int .i64 l[i].ex.num, .string l[i].ex.nm, .slice xa l[i].ex.args.length xc]] W fun e w'=>e=.returned (.int .i64 l[i].ex.pts) /\ Keeps zA W w'):=fun W hk=>zI8 l[i].ex W F xa xc (hx.keeps hk (fun _ _ h=>h)) (by omega)
   have HPX:Hid (l[i].ex.own=1+l[i].ex.pts):=by show _=_;rw [hok.2.1];rfl
   have hple:=Ex.zK7 l[i].ex;have hpx:l[i].ex.pts < 1000000000:=by omega
   have htS:=Ac.zF3 hlt;have htW:=Ac.zF9 hlt;have hpS:=Ac.zGB l (i+1);have hpW:=Ac.zGA l (i+1);rw [htS,Ac.zGl] at hpS;rw [htW,Ac.zGq] at hpW;rw [Ac.zGl] at htS;rw [Ac.zGq] at htW;have TKS:=Lib.hid htS;have TKW:=Lib.hid htW;have PTS:=Lib.hid hpS;have PTW:=Lib.hid hpW;have HCN:Hid (∃ n:Nat,l[i].count=(n:Int) /\ n <= 1000):=⟨l[i].count.toNat,by omega,by omega⟩;clear hx hxt hxe hsz hB hok htS htW hpS hpW hFr hple;generalize l[i].kind=k at d0 TKS TKW PTS PTW;generalize l[i].count=c at d7 TKS TKW PTS PTW HCN;generalize Ac.zT l[i].thn=tw at HTT HTL HST TKS TKW PTS PTW;generalize Ac.zT l[i].els=ew at HEE HEL HST TKS TKW PTS PTW;generalize Ac.zY l[i].thn=ts at HTT HST TKS TKW PTS PTW;generalize Ac.zY l[i].els=es at HEE HST TKS TKW PTS PTW;generalize l[i].thn.length=x8 at d8 HTT;generalize l[i].els.length=x9 at d9 HEE;generalize l[i].ex.own=ow at HPX TKS TKW PTS PTW;generalize l[i].ex.pts=px at HPX HX hpx;generalize l[i].reg=x1 at d1;generalize l[i].obj=x2 at d2;generalize l[i].ex.kind=x3 at d3 HX;generalize l[i].ex.num=x4 at d4 HX;generalize l[i].ex.nm=x5 at d5 HX;generalize l[i].ex.args.length=x6 at d6 HX
   have HSM:Hid (∀ W,Calls Tryz.prog 19 #[.int .i64 (1+(px:Int))] W fun e w'=>∃ z,e=.returned z /\ zO w' (Since W.heap.size w') 1000000000 ow z /\ Keeps zA W w'):=fun W=>by
    have h:=zEW ow (by have:=HPX.out;omega) W;rw [show ((ow:Nat):Int)=1+(px:Int) by have:=HPX.out;omega] at h;exact h
   go_upto_region 6 with fail
   obtain ⟨b6,hb6⟩:=eX wr.heap.size;have hr6:zC (wr.alloc (.cells #[.int .i64 k, .int .i64 x1, .int .i64 x2, .int .i64 x3, .int .i64 x4, .string x5, .slice xa x6 xc, .int .i64 c, .slice ta x8 tc, .slice ea x9 ec] 146)) b6 [.int .i64 k, .int .i64 x1, .int .i64 x2, .int .i64 x3, .int .i64 x4, .string x5, .slice xa x6 xc, .int .i64 c, .slice ta x8 tc, .slice ea x9 ec]:=by rw [hb6];exact zC.zG (heap_alloc_new wr _)
   have hk6:Keeps zA wr (wr.alloc (.cells #[.int .i64 k, .int .i64 x1, .int .i64 x2, .int .i64 x3, .int .i64 x4, .string x5, .slice xa x6 xc, .int .i64 c, .slice ta x8 tc, .slice ea x9 ec] 146)):=(Keeps.refl _ _).alloc _;rw [<- hb6];generalize wr.alloc (.cells #[.int .i64 k, .int .i64 x1, .int .i64 x2, .int .i64 x3, .int .i64 x4, .string x5, .slice xa x6 xc, .int .i64 c, .slice ta x8 tc, .slice ea x9 ec] 146)=w6 at hr6 hk6 ⊢;have R6:=Lib.hid hr6;have K6:=Lib.hid hk6;obtain ⟨y0,y1,y2,y3,y4,y5,y6,y7,y8,y9⟩:=hr6.ten;clear hr6 hk6 hb6 d0 d1 d2 d3 d4 d5 d6 d7 d8 d9
   go_upto_region 7 with (first
    | (go_at_call 89;refine (HX.out _ K6.out).mono ?_;rintro e w61 ⟨rfl,g1⟩;have G61:=Lib.hid g1;clear g1 y0 y1 y2 y3 y4 y5 y6 y7 y8 y9)
    | (go_at_call 19;refine (HSM.out _).mono ?_;rintro e w7 ⟨z7,rfl,n7,g7⟩;have OW:Hid (zO w7 (fun _=>True) 1000000000 ow z7):=n7.mono (fun _ _=>trivial);have G67:Hid (Keeps zA w6 w7):=G61.out.zB g7;clear g7 n7))
   have G7:Hid (Keeps zA wr w7):=K6.out.zB G67.out;have R7:=Lib.hid (R6.out.keeps G67.out (fun h=>h));have C7:=Lib.hid (HC.out.zD G7.out);have N7:=Lib.hid (HN.out.zD G7.out);have M7:=Lib.hid (HM.out.zD G7.out);have ON7:=Lib.hid (ONr.out.zD G7.out);have K7:Hid (Keeps (fun k=>k=b3) w2 w7):=HK.out.trans G7.out (fun _ _ h=>h.elim);clear HC HN HM ONr HK R6 K6 G61 G67 HX HSM KW;obtain ⟨y0,y1,y2,y3,y4,y5,y6,y7,y8,y9⟩:=R7.out.ten;obtain ⟨t0,t1⟩:=C7.out.row.two;have kin:=(show k=1 \/ k=10 \/ k=11 \/ (¬ k=1 /\ ¬ k=10 /\ ¬ k=11) by omega);rcases kin with rfl | rfl | rfl | ⟨k1,k10,k11⟩
   ·have HTK2:Hid (Ac.zY (l.take (i+1))=Ac.zY (l.take i)+(0)):=by show _=_;rw [TKS.out];simp
    have HTK3:Hid (Ac.zT (l.take (i+1))=Ac.zT (l.take i)+(ow)):=by show _=_;rw [TKW.out];simp
    have HP2:Hid (Ac.zY (l.take i)+(0) <= Ac.zT l):=by show _ <= _;have h:=PTS.out;have h2:=HST.out.2.2;refine Nat.le_trans ?_ h2;simpa using h
    have HP3:Hid (Ac.zT (l.take i)+(ow) <= Ac.zT l):=by show _ <= _;have h:=PTW.out;simpa using h
    clear TKS TKW PTS PTW HTT HEE HCN;go_upto_region 17 with (go_at_call 46;refine (zA6 (Ac.zY (l.take i)) (Ac.zT (l.take i)) (0) (ow) w7 _ _ _ _ N7.out M7.out (zO.zero _ _ _) OW.out (by have:=HLL.out (Ac.zY (l.take i)) (J155 _);omega) (by have:=HLL.out (Ac.zT (l.take i)) (J155 _);omega) (by rw [zBc];simp) (by have:=HLL.out (ow) (J155 _);omega)).mono ?_;rintro e w8 ⟨u1,u2,rfl,n1,n2,g8⟩;have N8:=Lib.hid n1;have M8:=Lib.hid n2;obtain ⟨p1,r1,rfl,_⟩:=n1;generalize (zw 1000000000 (Ac.zY (l.take i)+(0))).length=q1 at N8 ⊢;obtain ⟨p2,r2,rfl,_⟩:=n2;generalize (zw 1000000000 (Ac.zT (l.take i)+(ow))).length=q2 at M8 ⊢;have C8:=Lib.hid (C7.out.zD g8);have K8:Hid (Keeps (fun k=>k=b3) w2 w8):=K7.out.trans g8 (fun _ _ h=>h.elim);clear g8 t0 t1 y0 y1 y2 y3 y4 y5 y6 y7 y8 y9;obtain ⟨t0,t1⟩:=C8.out.row.two;have f0:=C8.out.row.free (k:=0) (by simp);have f1:=C8.out.row.free (k:=1) (by simp))
    exact J27 _
   ·have HTK2:Hid (Ac.zY (l.take (i+1))=Ac.zY (l.take i)+(max ts es)):=by show _=_;rw [TKS.out];simp
    have HTK3:Hid (Ac.zT (l.take (i+1))=Ac.zT (l.take i)+(ow+max tw ew)):=by show _=_;rw [TKW.out];simp
    have HP2:Hid (Ac.zY (l.take i)+(max ts es) <= Ac.zT l):=by show _ <= _;have h:=PTS.out;have h2:=HST.out.2.2;refine Nat.le_trans ?_ h2;simpa using h
    have HP3:Hid (Ac.zT (l.take i)+(ow+max tw ew) <= Ac.zT l):=by show _ <= _;have h:=PTW.out;simpa using h
    clear TKS TKW PTS PTW HCN;go_upto_region 12 with fail
    clear y0 y1 y2 y3 y4 y5 y6 y7 y8 y9 t0 t1;refine zBP 8 (by kernel_rfl) (by kernel_rfl) zKD (by kernel_rfl) (Keeps zA) (Keeps.refl zA) (fun a b c h h'=>Keeps.zB h h') (fun a b h=>h.size) (zC5 [some (.pointer (some ⟨b6,8,none⟩)),some (.slice ta x8 tc),none,some (.pointer (some ⟨b6,9,none⟩)),some (.slice ea x9 ec)] (zNq w7.heap.size ts tw es ew)) (zC5.st (fun j v gs W W' h hk=>⟨h.1,zCx.st j v gs W W' h.2 hk⟩)) (zC5.loc (D:=zKD) (fun j v gs gs' W hg h=>⟨h.1,zCx.loc j h.1 v gs gs' W hg h.2⟩)) ?_ ?_
    ·intro q oo hq ho vs gs W Q' hR0 hd hK
     have hR:Keeps zA w7 W:=((Keeps.refl zA w7).drew).zB hR0;obtain ⟨y0,y1,y2,y3,y4,y5,y6,y7,y8,y9⟩:=(R7.out.keeps hR (fun h=>h)).ten;have HTW:=Lib.hid (HTT.out W (G7.out.zB hR));have HEW:=Lib.hid (HEE.out W (G7.out.zB hR));have HB7:Hid (w7.heap.size <= W.heap.size):=hR.size;clear hR hR0 HTT HEE;rcases (show q=0 \/ q=1 \/ q=2 \/ q=3 \/ q=4 \/ q=5 \/ q=6 \/ q=7 by omega) with rfl | rfl | rfl | rfl | rfl | rfl | rfl | rfl
     all_goals (simp only [List.getElem?_cons_zero,List.getElem?_cons_succ,Option.some.injEq] at ho;subst ho;simp only [zJ,List.getElem?_cons_zero,List.getElem?_cons_succ,Option.bind_some,Option.bind,Act.put,List.setIfInBounds_toArray,List.set_cons_zero,List.set_cons_succ] at hK ⊢;clear hq)
     ·exact J3 _
     ·exact J117 _
     ·have e1:vs 1=_:=hd 1 (by kernel_rfl)
      rw [e1] at hK ⊢;clear hd;go_wp2_with (go_at_call 45;refine (HTW.out).mono ?_;rintro e W1 ⟨z,zz,rfl,n1,n2,g1⟩)
      exact hK _ _ g1 ⟨by simp,z,zz,rfl,n1,n2⟩
     ·exact J3 _
     ·exact J126 _
     ·have e4:vs 4=_:=hd 4 (by kernel_rfl)
      rw [e4] at hK ⊢;clear hd;go_wp2_with (go_at_call 45;refine (HEW.out).mono ?_;rintro e W1 ⟨z,zz,rfl,n1,n2,g1⟩)
      exact hK _ _ g1 ⟨by simp,z,zz,rfl,n1,n2⟩
     ·exact J87 _
     ·exact J87 _
    ·intro vs gs W hR0 hF hGS hGD
     have hR:Keeps zA w7 W:=((Keeps.refl zA w7).drew).zB hR0;obtain ⟨_,u1,u2,e2,n1,n2⟩:=(hF 2 (by decide):_ /\ ∃ z zz,vs 2=.agg #[z,zz] /\ zO W (fun _=>True) 1000000000 (ts) z /\ zO W (fun _=>True) 1000000000 (tw) zz);obtain ⟨_,u3,u4,e5,n3,n4⟩:=(hF 5 (by decide):_ /\ ∃ z zz,vs 5=.agg #[z,zz] /\ zO W (fun _=>True) 1000000000 (es) z /\ zO W (fun _=>True) 1000000000 (ew) zz);obtain ⟨_,b8,e6,g1,g2,g3,hz8⟩:=(hF 6 (by decide):_ /\ ∃ b,vs 6=.pointer (some ⟨b,0,none⟩) /\ b=(gs 6).1 /\ b < (gs 6).2 /\ w7.heap.size <= (gs 6).1 /\ Cnt W b (.slice none 0 0) (.slice none 0 0));obtain ⟨_,b9,e7,g4,g5,g6,hz9⟩:=(hF 7 (by decide):_ /\ ∃ b,vs 7=.pointer (some ⟨b,0,none⟩) /\ b=(gs 7).1 /\ b < (gs 7).2 /\ w7.heap.size <= (gs 7).1 /\ Cnt W b (.slice none 0 0) (.slice none 0 0));have hne:¬ b8=b9:=by have:=hGD 6 7 (by decide) (by decide) (by decide);omega
     have hne2:¬ b9=b8:=fun e=>hne e.symm
     have HNE:Hid (¬ b9=b8):=hne2;have HB8:Hid (w7.heap.size <= b8 /\ w7.heap.size <= b9):=⟨by omega,by omega⟩;have N1:=Lib.hid n1;have N2:=Lib.hid n2;have N3:=Lib.hid n3;have N4:=Lib.hid n4;have Z8:=Lib.hid hz8;have Z9:=Lib.hid hz9;obtain ⟨p1,r1,rfl,_⟩:=n1;obtain ⟨p2,r2,rfl,_⟩:=n2;obtain ⟨p3,r3,rfl,_⟩:=n3;obtain ⟨p4,r4,rfl,_⟩:=n4;simp only [zJ,List.getElem?_cons_zero,List.getElem?_cons_succ,Option.bind_some,Option.bind,Act.put,List.setIfInBounds_toArray,List.set_cons_zero,List.set_cons_succ,List.drop_succ_cons,List.drop_zero];rw [e2,e5,e6,e7];clear hF e2 e5 e6 e7;generalize vs 0=y0;generalize vs 1=y1;generalize vs 3=y3;generalize vs 4=y4;generalize (zw 1000000000 ts).length=q1 at N1 ⊢;generalize (zw 1000000000 tw).length=q2 at N2 ⊢;generalize (zw 1000000000 es).length=q3 at N3 ⊢;generalize (zw 1000000000 ew).length=q4 at N4 ⊢;have HRW:=Lib.hid hR;clear hR hR0 hGS hGD g1 g2 g3 g4 g5 g6 HTT HEE;obtain ⟨u80,u81⟩:=hz8.row.two;have f80:=hz8.row.free (k:=0) (by simp);have f81:=hz8.row.free (k:=1) (by simp);obtain ⟨u90,u91⟩:=hz9.row.two;have f90:=hz9.row.free (k:=0) (by simp);have f91:=hz9.row.free (k:=1) (by simp);clear hz8 hz9;go_upto_region 13 with fail
     obtain ⟨hc8,hk8⟩:=Z8.out.put (a1:=p1) (l1:=q1) (c1:=r1) (a2:=p2) (l2:=q2) (c2:=r2);have hz9:=Z9.out.keeps hk8 HNE.out;have N1':=Lib.hid (N1.out.stored Z8.out hk8);have N2':=Lib.hid (N2.out.stored Z8.out hk8);have N3':=Lib.hid (N3.out.stored Z8.out hk8);have N4':=Lib.hid (N4.out.stored Z8.out hk8);have hkA:Keeps zA w7 ((W.setCell ⟨b8,0,none⟩ (.slice p1 q1 r1)).setCell ⟨b8,1,none⟩ (.slice p2 q2 r2)):=HRW.out.trans hk8 (fun q hq e=>by have e':q=b8:=e;have:=HB8.out;omega);generalize (W.setCell ⟨b8,0,none⟩ (.slice p1 q1 r1)).setCell ⟨b8,1,none⟩ (.slice p2 q2 r2)=wY at hc8 hz9 N1' N2' N3' N4' hkA ⊢;obtain ⟨hc9,hk9⟩:=hz9.put (a1:=p3) (l1:=q3) (c1:=r3) (a2:=p4) (l2:=q4) (c2:=r4);have Y8:=Lib.hid (hc8.keeps hk9 (fun e=>HNE.out e.symm));have U1:=Lib.hid (N1'.out.stored hz9 hk9);have U2:=Lib.hid (N2'.out.stored hz9 hk9);have U3:=Lib.hid (N3'.out.stored hz9 hk9);have U4:=Lib.hid (N4'.out.stored hz9 hk9);have hkX:Keeps zA w7 ((wY.setCell ⟨b9,0,none⟩ (.slice p3 q3 r3)).setCell ⟨b9,1,none⟩ (.slice p4 q4 r4)):=hkA.trans hk9 (fun q hq e=>by have e':q=b9:=e;have:=HB8.out;omega);generalize (wY.setCell ⟨b9,0,none⟩ (.slice p3 q3 r3)).setCell ⟨b9,1,none⟩ (.slice p4 q4 r4)=wX at hc9 Y8 U1 U2 U3 U4 hkX ⊢;have Y9:=Lib.hid hc9;have CX:=Lib.hid (C7.out.zD hkX);have NX:=Lib.hid (N7.out.zD hkX);have MX:=Lib.hid (M7.out.zD hkX);have OX:=Lib.hid (OW.out.zD hkX);have KX:Hid (Keeps (fun k=>k=b3) w2 wX):=K7.out.trans hkX (fun _ _ h=>h.elim);clear hc8 hz9 N1' N2' N3' N4' hkA hc9 hk8 hk9 hkX u80 u81 f80 f81 u90 u91 f90 f91 N1 N2 N3 N4 Z8 Z9 HRW C7 N7 M7 OW K7 hne hne2
     refine ze 14 (by kernel_rfl) (by kernel_rfl) (Keeps zA) (Keeps.refl zA) (fun a b c h h'=>Keeps.zB h h') (zA3 [some (.agg #[.slice a1 l1 c1, .slice a2 l2 c2]),some (.pointer (some ⟨b8,0,none⟩)),some (.slice p1 q1 r1),some (.pointer (some ⟨b9,0,none⟩)),some (.slice p3 q3 r3),none,some z7,some (.pointer (some ⟨b8,1,none⟩)),some (.slice p2 q2 r2),some (.pointer (some ⟨b9,1,none⟩)),some (.slice p4 q4 r4)] (fun j v W=>match j with
      | 5=>zO W (fun _=>True) 1000000000 (max ts es) v
      | 11=>zO W (fun _=>True) 1000000000 (max tw ew) v
      | 12=>zO W (fun _=>True) 1000000000 (ow+max tw ew) v
      | _=>∃ z1 z2,v=.agg #[z1,z2] /\ zO W (fun _=>True) 1000000000 (Ac.zY (l.take i)+(max ts es)) z1 /\ zO W (fun _=>True) 1000000000 (Ac.zT (l.take i)+(ow+max tw ew)) z2)) (zA3.st (fun j v W W' h hk=>by
      revert h
      split
      ·exact fun h=>h.zD hk
      ·exact fun h=>h.zD hk
      ·exact fun h=>h.zD hk
      ·rintro ⟨z1,z2,e,h1,h2⟩;exact ⟨z1,z2,e,h1.zD hk,h2.zD hk⟩)) ?_ ?_
     ·intro q oo hq ho vs W Q' hR0 hd hK
      have hR:Keeps zA wX W:=((Keeps.refl zA wX).drew).zB hR0;obtain ⟨t0,t1⟩:=(CX.out.zD hR).row.two;obtain ⟨t80,t81⟩:=(Y8.out.zD hR).row.two;obtain ⟨t90,t91⟩:=(Y9.out.zD hR).row.two;have HOW:=Lib.hid (OX.out.zD hR);have HNW:=Lib.hid (NX.out.zD hR);have HMW:=Lib.hid (MX.out.zD hR);have HG1:=Lib.hid (zHA (U1.out.zD hR) (U3.out.zD hR) (J186 _) (by have:=HEL.out es (by have:=HST.out;omega);omega));have HG2:=Lib.hid (zHA (U2.out.zD hR) (U4.out.zD hR) (J206 _) (by have:=HEL.out ew (by omega);omega));clear hR hR0;rcases (show q=0 \/ q=1 \/ q=2 \/ q=3 \/ q=4 \/ q=5 \/ q=6 \/ q=7 \/ q=8 \/ q=9 \/ q=10 \/ q=11 \/ q=12 \/ q=13 by omega) with rfl | rfl | rfl | rfl | rfl | rfl | rfl | rfl | rfl | rfl | rfl | rfl | rfl | rfl
      all_goals (simp only [List.getElem?_cons_zero,List.getElem?_cons_succ,Option.some.injEq] at ho;subst ho;simp only [zJ,List.getElem?_cons_zero,List.getElem?_cons_succ,Option.bind_some,Option.bind,Act.put,List.setIfInBounds_toArray,List.set_cons_zero,List.set_cons_succ] at hK ⊢;clear hq)
      ·exact J3 _
      ·exact J3 _
      ·exact J127 _
      ·exact J3 _
      ·exact J126 _
      ·have e2:vs 2=_:=hd 2 (by kernel_rfl)
       have e4:vs 4=_:=hd 4 (by kernel_rfl);rw [e2,e4] at hK ⊢;clear hd;go_wp2_with (go_at_call 90;refine (HG1.out).mono ?_;rintro e W1 ⟨z,rfl,n1,g1⟩)
       exact hK _ _ g1 n1
      ·exact J3 _
      ·exact J3 _
      ·exact J143 _
      ·exact J3 _
      ·exact J133 _
      ·have e8:vs 8=_:=hd 8 (by kernel_rfl)
       have e10:vs 10=_:=hd 10 (by kernel_rfl);rw [e8,e10] at hK ⊢;clear hd;go_wp2_with (go_at_call 90;refine (HG2.out).mono ?_;rintro e W1 ⟨z,rfl,n1,g1⟩)
       exact hK _ _ g1 n1
      ·have e6:vs 6=_:=hd 6 (by kernel_rfl)
       obtain ⟨z11,e11,h11⟩:∃ z,vs 11=z /\ zO W (fun _=>True) 1000000000 (max tw ew) z:=⟨_,rfl,hd 11 (by kernel_rfl)⟩
       have H11:=Lib.hid h11;rw [e6,e11] at hK ⊢;clear h11;clear hd;go_wp2_with (go_at_call 91;refine (plusV (F:=(fun _=>True)) HOW.out H11.out (by have:=HLL.out (ow) (J155 _);omega) (by have:=HLL.out (max tw ew) (J155 _);omega)).mono ?_;rintro e W1 ⟨z,rfl,n1,g1⟩)
       exact J41 _
      ·have e0:vs 0=_:=hd 0 (by kernel_rfl)
       obtain ⟨z5,e5,h5⟩:∃ z,vs 5=z /\ zO W (fun _=>True) 1000000000 (max ts es) z:=⟨_,rfl,hd 5 (by kernel_rfl)⟩
       have H5:=Lib.hid h5;obtain ⟨z12,e12,h12⟩:∃ z,vs 12=z /\ zO W (fun _=>True) 1000000000 (ow+max tw ew) z:=⟨_,rfl,hd 12 (by kernel_rfl)⟩
       have H12:=Lib.hid h12;rw [e0,e5,e12] at hK ⊢;clear h5 h12;clear hd;go_wp2_with (go_at_call 46;refine (zA6 (Ac.zY (l.take i)) (Ac.zT (l.take i)) (max ts es) (ow+max tw ew) W _ _ _ _ HNW.out HMW.out H5.out H12.out (by have:=HLL.out (Ac.zY (l.take i)) (J155 _);omega) (by have:=HLL.out (Ac.zT (l.take i)) (J155 _);omega) (by have:=HLL.out (max ts es) (J155 _);omega) (by have:=HLL.out (ow+max tw ew) (J155 _);omega)).mono ?_;rintro e W1 ⟨z,zz,rfl,n1,n2,g1⟩)
       exact hK _ _ g1 ⟨z,zz,rfl,n1,n2⟩
     ·intro vs W hR0 hF
      have hR:Keeps zA wX W:=((Keeps.refl zA wX).drew).zB hR0;obtain ⟨z1,z2,e13,n1,n2⟩:=(hF 13 (by decide):∃ z1 z2,vs 13=.agg #[z1,z2] /\ zO W (fun _=>True) 1000000000 (Ac.zY (l.take i)+(max ts es)) z1 /\ zO W (fun _=>True) 1000000000 (Ac.zT (l.take i)+(ow+max tw ew)) z2);have N8:=Lib.hid n1;have M8:=Lib.hid n2;obtain ⟨p11,r11,rfl,_⟩:=n1;obtain ⟨p12,r12,rfl,_⟩:=n2;simp only [zJ,List.getElem?_cons_zero,List.getElem?_cons_succ,Option.bind_some,Option.bind,Act.put,List.setIfInBounds_toArray,List.set_cons_zero,List.set_cons_succ,List.drop_succ_cons,List.drop_zero];rw [e13];clear hF e13;generalize vs 0=y0;generalize vs 1=y1;generalize vs 2=y2;generalize vs 3=y3;generalize vs 4=y4;generalize vs 5=y5;generalize vs 6=y6;generalize vs 7=y7;generalize vs 8=y8;generalize vs 9=y9;generalize vs 10=y10;generalize vs 11=y11;generalize vs 12=y12;have C8:Hid (Cnt W b3 (.slice a1 l1 c1) (.slice a2 l2 c2)):=CX.out.zD hR;have K8:Hid (Keeps (fun k=>k=b3) w2 W):=KX.out.trans hR (fun _ _ h=>h.elim);clear hR hR0;generalize (zw 1000000000 (Ac.zY (l.take i)+(max ts es))).length=q11 at N8 ⊢;generalize (zw 1000000000 (Ac.zT (l.take i)+(ow+max tw ew))).length=q12 at M8 ⊢;exact J144 _
   ·obtain ⟨cn,rfl,hcn⟩:=HCN.out
    have HCN2:=Lib.hid hcn;clear HCN hcn;have HTK2:Hid (Ac.zY (l.take (i+1))=Ac.zY (l.take i)+(ts*cn)):=by show _=_;rw [TKS.out];simp
    have HTK3:Hid (Ac.zT (l.take (i+1))=Ac.zT (l.take i)+(ow+(tw+1)*cn)):=by show _=_;rw [TKW.out];simp
    have HP2:Hid (Ac.zY (l.take i)+(ts*cn) <= Ac.zT l):=by show _ <= _;have h:=PTS.out;have h2:=HST.out.2.2;refine Nat.le_trans ?_ h2;simpa using h
    have HP3:Hid (Ac.zT (l.take i)+(ow+(tw+1)*cn) <= Ac.zT l):=by show _ <= _;have h:=PTW.out;simpa using h
    clear TKS TKW PTS PTW HEE;go_upto_region 16 with (go_at_call 45;refine (HTT.out _ G7.out).mono ?_;rintro e w8 ⟨u1,u2,rfl,n1,n2,g8⟩;have U1:=Lib.hid n1;have U2:=Lib.hid n2;obtain ⟨p1,r1,rfl,_⟩:=n1;generalize (zw 1000000000 (ts)).length=q1 at U1 ⊢;obtain ⟨p2,r2,rfl,_⟩:=n2;generalize (zw 1000000000 (tw)).length=q2 at U2 ⊢;have G8:=Lib.hid g8;clear g8 t0 t1 y0 y1 y2 y3 y4 y5 y6 y7 y8 y9)
    obtain ⟨b10,hb10⟩:=eX w8.heap.size;have hc10:Cnt (w8.alloc (.cells #[.slice p1 q1 r1, .slice p2 q2 r2] 53)) b10 (.slice p1 q1 r1) (.slice p2 q2 r2):=by rw [hb10];exact Cnt.zG (heap_alloc_new w8 _)
    have hkX:Keeps zA w8 (w8.alloc (.cells #[.slice p1 q1 r1, .slice p2 q2 r2] 53)):=(Keeps.refl _ _).alloc _;rw [<- hb10];generalize w8.alloc (.cells #[.slice p1 q1 r1, .slice p2 q2 r2] 53)=wX at hc10 hkX ⊢;have Y10:=Lib.hid hc10;have hk:=G8.out.zB hkX;have CX:=Lib.hid (C7.out.zD hk);have NX:=Lib.hid (N7.out.zD hk);have MX:=Lib.hid (M7.out.zD hk);have OX:=Lib.hid (OW.out.zD hk);have OXN:=Lib.hid (ON7.out.zD hk);have RX:=Lib.hid (R7.out.keeps hk (fun h=>h));have UX1:=Lib.hid (U1.out.zD hkX);have UX2:=Lib.hid (U2.out.zD hkX);have KX:Hid (Keeps (fun k=>k=b3) w2 wX):=K7.out.trans hk (fun _ _ h=>h.elim);clear hc10 hkX hk hb10 C7 N7 M7 OW ON7 K7 R7 U1 U2
    refine ze 16 (by kernel_rfl) (by kernel_rfl) (Keeps zA) (Keeps.refl zA) (fun a b c h h'=>Keeps.zB h h') (zA3 [some (.agg #[.slice a1 l1 c1, .slice a2 l2 c2]),some (.pointer (some ⟨b10,0,none⟩)),some (.slice p1 q1 r1),some (.pointer (some ⟨b6,7,none⟩)),some (.int .i64 cn),none,some z7,some (.pointer (some ⟨b10,1,none⟩)),some (.slice p2 q2 r2),some z4,none,some (.pointer (some ⟨b6,7,none⟩)),some (.int .i64 cn)] (fun j v W=>match j with
     | 5=>zO W (fun _=>True) 1000000000 (ts*cn) v
     | 10=>zO W (fun _=>True) 1000000000 (tw+1) v
     | 13=>zO W (fun _=>True) 1000000000 ((tw+1)*cn) v
     | 14=>zO W (fun _=>True) 1000000000 (ow+(tw+1)*cn) v
     | _=>∃ z1 z2,v=.agg #[z1,z2] /\ zO W (fun _=>True) 1000000000 (Ac.zY (l.take i)+(ts*cn)) z1 /\ zO W (fun _=>True) 1000000000 (Ac.zT (l.take i)+(ow+(tw+1)*cn)) z2)) (zA3.st (fun j v W W' h hk=>by
     revert h
     split
     ·exact fun h=>h.zD hk
     ·exact fun h=>h.zD hk
     ·exact fun h=>h.zD hk
     ·exact fun h=>h.zD hk
     ·rintro ⟨z1,z2,e,h1,h2⟩;exact ⟨z1,z2,e,h1.zD hk,h2.zD hk⟩)) ?_ ?_
    ·intro q oo hq ho vs W Q' hR0 hd hK
     have hR:Keeps zA wX W:=((Keeps.refl zA wX).drew).zB hR0;obtain ⟨t0,t1⟩:=(CX.out.zD hR).row.two;obtain ⟨t80,t81⟩:=(Y10.out.zD hR).row.two;obtain ⟨y0,y1,y2,y3,y4,y5,y6,y7,y8,y9⟩:=(RX.out.keeps hR (fun h=>h)).ten;have HOW:=Lib.hid (OX.out.zD hR);have HONE:=Lib.hid (OXN.out.zD hR);have HNW:=Lib.hid (NX.out.zD hR);have HMW:=Lib.hid (MX.out.zD hR);have HU1:=Lib.hid (UX1.out.zD hR);have HU2:=Lib.hid (UX2.out.zD hR);clear hR hR0;rcases (show q=0 \/ q=1 \/ q=2 \/ q=3 \/ q=4 \/ q=5 \/ q=6 \/ q=7 \/ q=8 \/ q=9 \/ q=10 \/ q=11 \/ q=12 \/ q=13 \/ q=14 \/ q=15 by omega) with rfl | rfl | rfl | rfl | rfl | rfl | rfl | rfl | rfl | rfl | rfl | rfl | rfl | rfl | rfl | rfl
     all_goals (simp only [List.getElem?_cons_zero,List.getElem?_cons_succ,Option.some.injEq] at ho;subst ho;simp only [zJ,List.getElem?_cons_zero,List.getElem?_cons_succ,Option.bind_some,Option.bind,Act.put,List.setIfInBounds_toArray,List.set_cons_zero,List.set_cons_succ] at hK ⊢;clear hq)
     ·exact J3 _
     ·exact J3 _
     ·exact J127 _
     ·exact J3 _
     ·exact J126 _
     ·have e2:vs 2=_:=hd 2 (by kernel_rfl)
      have e4:vs 4=_:=hd 4 (by kernel_rfl);rw [e2,e4] at hK ⊢;clear hd;go_wp2_with (go_at_call 92;refine (zLw HU1.out (J186 _) HCN2.out).mono ?_;rintro e W1 ⟨z,rfl,n1,g1⟩)
      exact J41 _
     ·exact J3 _
     ·exact J3 _
     ·exact J143 _
     ·exact J3 _
     ·have e8:vs 8=_:=hd 8 (by kernel_rfl)
      have e9:vs 9=_:=hd 9 (by kernel_rfl);rw [e8,e9] at hK ⊢;clear hd;go_wp2_with (go_at_call 91;refine (plusV (F:=(fun _=>True)) HU2.out HONE.out (J206 _) (J185 _)).mono ?_;rintro e W1 ⟨z,rfl,n1,g1⟩)
      exact J41 _
     ·exact J3 _
     ·have e11:vs 11=_:=hd 11 (by kernel_rfl)
      rw [e11] at hK ⊢;exact J3 _
     ·obtain ⟨z10,e10,h10⟩:∃ z,vs 10=z /\ zO W (fun _=>True) 1000000000 (tw+1) z:=⟨_,rfl,hd 10 (by kernel_rfl)⟩
      have H10:=Lib.hid h10;have e12:vs 12=_:=hd 12 (by kernel_rfl);rw [e10,e12] at hK ⊢;clear h10;clear hd;go_wp2_with (go_at_call 92;refine (zLw H10.out (by have:=HTL.out (tw+1) (by omega);omega) HCN2.out).mono ?_;rintro e W1 ⟨z,rfl,n1,g1⟩)
      exact J41 _
     ·have e6:vs 6=_:=hd 6 (by kernel_rfl)
      obtain ⟨z13,e13,h13⟩:∃ z,vs 13=z /\ zO W (fun _=>True) 1000000000 ((tw+1)*cn) z:=⟨_,rfl,hd 13 (by kernel_rfl)⟩
      have H13:=Lib.hid h13;rw [e6,e13] at hK ⊢;clear h13;clear hd;go_wp2_with (go_at_call 91;refine (plusV (F:=(fun _=>True)) HOW.out H13.out (by have:=HLL.out (ow) (J155 _);omega) (by have:=HLL.out ((tw+1)*cn) (J155 _);omega)).mono ?_;rintro e W1 ⟨z,rfl,n1,g1⟩)
      exact J41 _
     ·have e0:vs 0=_:=hd 0 (by kernel_rfl)
      obtain ⟨z5,e5,h5⟩:∃ z,vs 5=z /\ zO W (fun _=>True) 1000000000 (ts*cn) z:=⟨_,rfl,hd 5 (by kernel_rfl)⟩
      have H5:=Lib.hid h5;obtain ⟨z14,e14,h14⟩:∃ z,vs 14=z /\ zO W (fun _=>True) 1000000000 (ow+(tw+1)*cn) z:=⟨_,rfl,hd 14 (by kernel_rfl)⟩
      have H14:=Lib.hid h14;rw [e0,e5,e14] at hK ⊢;clear h5 h14;clear hd;go_wp2_with (go_at_call 46;refine (zA6 (Ac.zY (l.take i)) (Ac.zT (l.take i)) (ts*cn) (ow+(tw+1)*cn) W _ _ _ _ HNW.out HMW.out H5.out H14.out (by have:=HLL.out (Ac.zY (l.take i)) (J155 _);omega) (by have:=HLL.out (Ac.zT (l.take i)) (J155 _);omega) (by have:=HLL.out (ts*cn) (J155 _);omega) (by have:=HLL.out (ow+(tw+1)*cn) (J155 _);omega)).mono ?_;rintro e W1 ⟨z,zz,rfl,n1,n2,g1⟩)
      exact hK _ _ g1 ⟨z,zz,rfl,n1,n2⟩
    ·intro vs W hR0 hF
     have hR:Keeps zA wX W:=((Keeps.refl zA wX).drew).zB hR0;obtain ⟨z1,z2,e15,n1,n2⟩:=(hF 15 (by decide):∃ z1 z2,vs 15=.agg #[z1,z2] /\ zO W (fun _=>True) 1000000000 (Ac.zY (l.take i)+(ts*cn)) z1 /\ zO W (fun _=>True) 1000000000 (Ac.zT (l.take i)+(ow+(tw+1)*cn)) z2);have N8:=Lib.hid n1;have M8:=Lib.hid n2;obtain ⟨p11,r11,rfl,_⟩:=n1;obtain ⟨p12,r12,rfl,_⟩:=n2;simp only [zJ,List.getElem?_cons_zero,List.getElem?_cons_succ,Option.bind_some,Option.bind,Act.put,List.setIfInBounds_toArray,List.set_cons_zero,List.set_cons_succ,List.drop_succ_cons,List.drop_zero];rw [e15];clear hF e15;generalize vs 0=y0;generalize vs 1=y1;generalize vs 2=y2;generalize vs 3=y3;generalize vs 4=y4;generalize vs 5=y5;generalize vs 6=y6;generalize vs 7=y7;generalize vs 8=y8;generalize vs 9=y9;generalize vs 10=y10;generalize vs 11=y11;generalize vs 12=y12;generalize vs 13=y13;generalize vs 14=y14;have C8:Hid (Cnt W b3 (.slice a1 l1 c1) (.slice a2 l2 c2)):=CX.out.zD hR;have K8:Hid (Keeps (fun k=>k=b3) w2 W):=KX.out.trans hR (fun _ _ h=>h.elim);clear hR hR0;generalize (zw 1000000000 (Ac.zY (l.take i)+(ts*cn))).length=q11 at N8 ⊢;generalize (zw 1000000000 (Ac.zT (l.take i)+(ow+(tw+1)*cn))).length=q12 at M8 ⊢;exact J144 _
   ·have HTK2:Hid (Ac.zY (l.take (i+1))=Ac.zY (l.take i)+(1)):=by show _=_;rw [TKS.out];simp [k1,k10,k11]
    have HTK3:Hid (Ac.zT (l.take (i+1))=Ac.zT (l.take i)+(ow)):=by show _=_;rw [TKW.out];simp [k1,k10,k11]
    have HP2:Hid (Ac.zY (l.take i)+(1) <= Ac.zT l):=by show _ <= _;have h:=PTS.out;have h2:=HST.out.2.2;refine Nat.le_trans ?_ h2;simpa [k1,k10,k11] using h
    have HP3:Hid (Ac.zT (l.take i)+(ow) <= Ac.zT l):=by show _ <= _;have h:=PTW.out;simpa [k1,k10,k11] using h
    have kb1:(k==1)=false:=by simpa using k1
    have kb10:(k==10)=false:=by simpa using k10
    have kb11:(k==11)=false:=by simpa using k11
    clear TKS TKW PTS PTW HTT HEE HCN;go_upto_region 17 with (go_at_call 46;refine (zA6 (Ac.zY (l.take i)) (Ac.zT (l.take i)) (1) (ow) w7 _ _ _ _ N7.out M7.out ON7.out OW.out (by have:=HLL.out (Ac.zY (l.take i)) (J155 _);omega) (by have:=HLL.out (Ac.zT (l.take i)) (J155 _);omega) (J185 _) (by have:=HLL.out (ow) (J155 _);omega)).mono ?_;rintro e w8 ⟨u1,u2,rfl,n1,n2,g8⟩;have N8:=Lib.hid n1;have M8:=Lib.hid n2;obtain ⟨p1,r1,rfl,_⟩:=n1;generalize (zw 1000000000 (Ac.zY (l.take i)+(1))).length=q1 at N8 ⊢;obtain ⟨p2,r2,rfl,_⟩:=n2;generalize (zw 1000000000 (Ac.zT (l.take i)+(ow))).length=q2 at M8 ⊢;have C8:=Lib.hid (C7.out.zD g8);have K8:Hid (Keeps (fun k=>k=b3) w2 w8):=K7.out.trans g8 (fun _ _ h=>h.elim);clear g8 t0 t1 y0 y1 y2 y3 y4 y5 y6 y7 y8 y9;obtain ⟨t0,t1⟩:=C8.out.row.two;have f0:=C8.out.row.free (k:=0) (by simp);have f1:=C8.out.row.free (k:=1) (by simp))
    exact J27 _
  ·obtain rfl:i=l.length:=by omega
   have h1:=HN.out;have h2:=HM.out;rw [List.take_length] at h1 h2;have HE1:=Lib.hid h1;have HE2:=Lib.hid h2;clear h1 h2 HN HM;obtain ⟨t0,t1⟩:=HC.out.row.two;have C2r:Hid (Cnt wr b2 (.slice none 0 0) (.slice none 0 0)):=C2.out.keeps HK.out (fun e=>HS.out.2.2 e);obtain ⟨u0,u1⟩:=C2r.out.row.two;have f0:=C2r.out.row.free (k:=0) (by simp);have f1:=C2r.out.row.free (k:=1) (by simp);go_wp2_with fail
   obtain ⟨hrow,hks⟩:=C2r.out.put (a1:=a1) (l1:=l1) (c1:=c1) (a2:=a2) (l2:=l2) (c2:=c2);generalize (wr.setCell ⟨b2,0,none⟩ (.slice a1 l1 c1)).setCell ⟨b2,1,none⟩ (.slice a2 l2 c2)=wE at hrow hks ⊢;refine bodyPost_ret (v:=.agg #[.slice a1 l1 c1, .slice a2 l2 c2]) (by simp [results,Tryz.results45,go_sem,hrow.row.cell (k:=0) rfl,hrow.row.cell (k:=1) rfl]) rfl ?_
   exact J89 _
theorem zMJ (l:List Ac):zCK l:=by
 have key:∀ x:Ac,zCK x.thn /\ zCK x.els:=fun x=>Ac.ind (P:=fun x=>zCK x.thn /\ zCK x.els) (fun k r o x c t e h1 h2=>⟨zDr t h1,zDr e h2⟩) x
 exact zDr l (fun y _=>key y)
end Go.Proofs.YtoapgjjepiopbaaGreatDoor
