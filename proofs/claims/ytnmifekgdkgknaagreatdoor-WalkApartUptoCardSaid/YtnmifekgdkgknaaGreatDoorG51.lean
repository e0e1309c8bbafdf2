/- Layer G: texts joined. -/
import Derived.Test.YtnmifekgdkgknaaGreatDoorG48
import Derived.Test.YtnmifekgdkgknaaGreatDoorG50
import Derived.Test.YtnmifekgdkgknaaGreatDoorG45
set_option linter.unusedVariables false
set_option linter.unusedSimpArgs false
set_option linter.unnecessarySimpa false
namespace Go.Proofs.YtnmifekgdkgknaaGreatDoor
open Go.RowKit
theorem intsIn_src {w:World} {p:Option Addr} {n c:Nat} {xs:List Int} (h:SrcAt w (.slice p n c) n (ints xs)) (hn:xs.length=n):IntsIn w p n (fun k=>xs.getD k 0):=by
 subst hn;obtain ⟨ad,cap,e,hc⟩:=h.ints;cases e;intro W hk j hj
 obtain ⟨g,o,e,c⟩:=hc j hj;exact ⟨g,o,e,hk.cell (p:=⟨g,_,none⟩) (fun h=>h) c⟩
structure StIn (w:World) (m:WMa) (nc no nt:Nat) (a1 a2 a3 a4:Option Addr) (c1 c2 c3 c4:Nat):Prop where
 lc:m.cells.length=nc
 lo:m.owners.length=no
 lt:m.ths.length=nt
 i1:IntsIn w a1 nc (fun k=>m.cells.getD k 0)
 i2:IntsIn w a2 no (fun k=>m.owners.getD k 0)
 i3:IntsIn w a3 nt (fun k=>(m.get k).st)
 i4:ActsIn w a4 nt (actM m)
 src:StaSrc w (.slice a1 nc c1) (.slice a2 no c2) (.slice a3 nt c3) (.slice a4 nt c4) m.cells m.owners (stsN m m.ths.length) (nextN m m.ths.length)
theorem StaOut.stIn {S:Nat -> Prop} {w w' w2:World} {m:WMa} {nc no nt c1 c2 c3 c4:Nat} {a1 a2 a3 a4:Option Addr} (h:StaOut w m (.slice a1 nc c1) (.slice a2 no c2) (.slice a3 nt c3) (.slice a4 nt c4) w') (hk:Keeps S w' w2) (hS:∀ k,w.heap.size <= k -> ¬ S k) (lc:m.cells.length=nc) (lo:m.owners.length=no) (lt:m.ths.length=nt) :
 StIn w2 m nc no nt a1 a2 a3 a4 c1 c2 c3 c4:=by
 have s1:=(h.cells.keeps hk hS).src;have s2:=(h.owners.keeps hk hS).src;have s3:=(h.sts.keeps hk hS).src;have s4:=(h.next.keeps hk hS).src;have l3:(stsN m m.ths.length).length=m.ths.length:=by simp [stsN]
 have l4:(nextN m m.ths.length).length=m.ths.length:=by simp [nextN]
 have t3:SrcAt w2 (.slice a3 nt c3) (stsN m m.ths.length).length (ints (stsN m m.ths.length)):=by rw [l3];exact s3
 have t4:SrcAt w2 (.slice a4 nt c4) (nextN m m.ths.length).length ((nextN m m.ths.length).flatMap actC):=by rw [l4];exact s4
 refine ⟨lc,lo,lt,(by rw [lc] at s1;exact intsIn_src s1 lc),(by rw [lo] at s2;exact intsIn_src s2 lo),fun W hw j hj=>?_,fun W hw j hj=>?_,s1,s2,t3,t4⟩
 ·obtain ⟨ad,cap,e,hc⟩:=t3.ints
  cases e;have hj':j < m.ths.length:=by rw [lt];exact hj
  obtain ⟨g,o,e,c⟩:=hc j (by rw [l3];exact hj');refine ⟨g,o,e,?_⟩
  rw [hw.cell (p:=⟨g,_,none⟩) (fun h=>h) c];congr 2
  simp [stsN,WMa.get,List.getD,hj',List.getElem?_take]
 ·obtain ⟨ad,cap,e,hc⟩:=t4.acts
  cases e;have hj':j < m.ths.length:=by rw [lt];exact hj
  obtain ⟨g,o,e,c,c'⟩:=hc j (actM m j) (by simp [nextN,hj']);exact ⟨g,o,e,hw.cell (p:=⟨g,_,none⟩) (fun h=>h) c,hw.cell (p:=⟨g,_,none⟩) (fun h=>h) c'⟩
theorem apart_any {w:World} {m m':WMa} {x:Evt} {nc no nt c1 c2 c3 c4 d1 d2 d3 d4:Nat} {a1 a2 a3 a4 b1 b2 b3 b4:Option Addr} (ha:Apart m m' x) (l1:nc <= 1000) (l2:no <= 1000) (l3:nt <= 1000) (hs:StIn w m nc no nt a1 a2 a3 a4 c1 c2 c3 c4) (ht:StIn w m' nc no nt b1 b2 b3 b4 d1 d2 d3 d4) :
 Calls Tryz.prog 27 #[.agg #[.slice a1 nc c1, .slice a2 no c2, .slice a3 nt c3, .slice a4 nt c4], .agg #[.slice b1 nc d1, .slice b2 no d2, .slice b3 nt d3, .slice b4 nt d4],evV x] w fun e w'=>e=.returned (.bool true) /\ Keeps NoBlk w w':=by
 have h1:∀ k,k < nc -> m.cells.getD k 0=m'.cells.getD k 0 \/ (((x.kind==2)=true \/ (x.kind==3)=true) /\ (k:Int)=x.obj):=fun k hk=>(ha.cells k (by rw [hs.lc];exact hk)).imp (fun h=>h) (fun h=>⟨h.1.imp (fun e=>by rw [e];rfl) (fun e=>by rw [e];rfl),h.2⟩)
 have h2:∀ k,k < no -> m.owners.getD k 0=m'.owners.getD k 0 \/ (((x.kind==4)=true \/ (x.kind==5)=true) /\ (k:Int)=x.obj):=fun k hk=>(ha.owners k (by rw [hs.lo];exact hk)).imp (fun h=>h) (fun h=>⟨h.1.imp (fun e=>by rw [e];rfl) (fun e=>by rw [e];rfl),h.2⟩)
 have h3:∀ k,k < nt -> ((m.get k).st=(m'.get k).st /\ actM m k=actM m' k) \/ (k:Int)=x.thread \/ ((x.kind==6)=true /\ x.bad=0 /\ (k:Int)=x.obj):=fun k hk=>(ha.ths k (by rw [hs.lt];exact hk)).imp (fun h=>h) (fun h=>h.imp (fun h=>h) (fun h=>⟨by rw [h.1];rfl,h.2⟩))
 have go:∀ b2 b3 b4 b5 b6:Bool,(x.kind==2)=b2 -> (x.kind==3)=b3 -> (x.kind==4)=b4 -> (x.kind==5)=b5 -> (x.kind==6)=b6 -> _:=fun q2 q3 q4 q5 q6 e2 e3 e4 e5 e6 (hb:(q2,q3,q4,q5,q6) ∈ [(true,false,false,false,false),(false,true,false,false,false),(false,false,true,false,false),(false,false,false,true,false),(false,false,false,false,false)]) =>
  apart_no q2 q3 q4 q5 q6 x l1 l2 l3 e2 e3 e4 e5 e6 hb hs.i1 hs.i2 hs.i3 hs.i4 ht.i1 ht.i2 ht.i3 ht.i4 (by rw [<- e2,<- e3];exact h1) (by rw [<- e4,<- e5];exact h2) (by rw [<- e6];exact h3) (c1:=c1) (c2:=c2) (c3:=c3) (c4:=c4) (d1:=d1) (d2:=d2) (d3:=d3) (d4:=d4)
 by_cases k6:x.kind=6
 ·exact apart_st false false false false true x l1 l2 l3 (by rw [k6];rfl) (by rw [k6];rfl) (by rw [k6];rfl) (by rw [k6];rfl) (by rw [k6];rfl) rfl hs.i1 hs.i2 hs.i3 hs.i4 ht.i1 ht.i2 ht.i3 ht.i4 (by rw [k6] at h1;exact h1) (by rw [k6] at h2;exact h2) (by rw [k6] at h3;exact h3)
 ·by_cases k2:x.kind=2
  ·exact go true false false false false (by rw [k2];rfl) (by rw [k2];rfl) (by rw [k2];rfl) (by rw [k2];rfl) (by rw [k2];rfl) (by simp)
  ·by_cases k3:x.kind=3
   ·exact go false true false false false (by rw [k3];rfl) (by rw [k3];rfl) (by rw [k3];rfl) (by rw [k3];rfl) (by rw [k3];rfl) (by simp)
   ·by_cases k4:x.kind=4
    ·exact go false false true false false (by rw [k4];rfl) (by rw [k4];rfl) (by rw [k4];rfl) (by rw [k4];rfl) (by rw [k4];rfl) (by simp)
    ·by_cases k5:x.kind=5
     ·exact go false false false true false (by rw [k5];rfl) (by rw [k5];rfl) (by rw [k5];rfl) (by rw [k5];rfl) (by rw [k5];rfl) (by simp)
     ·exact go false false false false false (beq_false_of_ne k2) (beq_false_of_ne k3) (beq_false_of_ne k4) (beq_false_of_ne k5) (beq_false_of_ne k6) (by simp)
section
variable {cs:List Int} {mu:Int} {bs:List Bd} {w:World} {F:Nat -> Prop} {uca uta:Option Addr} {ucc utc:Nat}
theorem UnIn.rright (h:UnIn w F cs bs uca uta):Calls Tryz.prog 25 #[.agg #[.slice uca cs.length ucc, .int .i64 mu, .slice uta bs.length utc]] w fun e w'=>e=.returned (.bool (rightU ⟨cs,mu,bs⟩)) /\ Keeps NoBlk w w' :=
 refRight_any cs mu bs w F uca uta ucc utc h.nums h.bds h.low h.sz h.l1 h.l2
set_option maxRecDepth 8000 in
set_option maxHeartbeats 4000000 in
theorem apartLaw_no (h:UnIn w F cs bs uca uta) (rv:Value) (hr:newR ⟨cs,mu,bs⟩ ≠ 0):Calls Tryz.prog 5 #[.agg #[.slice uca cs.length ucc, .int .i64 mu, .slice uta bs.length utc],rv] w fun e w'=>e=.returned (.bool true) /\ Keeps NoBlk w w':=by
 have hb:(newR ⟨cs,mu,bs⟩ != 0)=true:=bne_iff_ne.2 hr;have HNO:Hid (∀ W,Keeps NoBlk w W -> Calls Tryz.prog 13 #[.agg #[.slice uca cs.length ucc, .int .i64 mu, .slice uta bs.length utc]] W fun e w'=>e=.returned (.tuple #[.pointer none, .int .i64 (newR ⟨cs,mu,bs⟩)]) /\ Keeps NoBlk W w'):=fun W hk=>(h.keeps0 hk).newNo hr
 have HRR:Hid (∀ W,Keeps NoBlk w W -> Calls Tryz.prog 25 #[.agg #[.slice uca cs.length ucc, .int .i64 mu, .slice uta bs.length utc]] W fun e w'=>e=.returned (.bool (rightU ⟨cs,mu,bs⟩)) /\ Keeps NoBlk W w'):=fun W hk=>(h.keeps0 hk).rright
 generalize newR ⟨cs,mu,bs⟩=rr at hb HNO;generalize rightU ⟨cs,mu,bs⟩=ri at HRR;clear h hr;go_enter Tryz.func5,Tryz.ntmps5
 go_upto_region 1 with fail
 obtain ⟨b1,w1,e1,e2,R1,K1,_⟩:=newRow w [.slice uca cs.length ucc, .int .i64 mu, .slice uta bs.length utc] 25;try rw [e1]
 try rw [e2]
 have y1:=R1.all3;have k1:=keep0 w1;have HK1:=Lib.hid K1;clear e1 e2 R1 K1;have HS:=Lib.hid (shown_any w1)
 go_wp2_with (first
  | (go_at_call 10;refine HS.out.mono ?_;rintro e w2 ⟨rfl,k2⟩;have HK2:=Lib.hid k2;clear HS)
  | (go_at_call 25;refine (HRR.out _ (HK1.out.trans0 HK2.out)).mono ?_;rintro e w3 ⟨rfl,k3⟩;have k3:=k2.trans0 k3;have HK3:Hid (Keeps NoBlk w w3):=HK1.out.trans0 k3)
  | (go_at_call 13;refine (HNO.out _ HK3.out).mono ?_;rintro e w4 ⟨rfl,k4⟩;have HK4:=Lib.hid k4;clear k4))
 go_ret
 exact ⟨rfl,HK3.out.trans0 HK4.out⟩
set_option maxRecDepth 8000 in
set_option maxHeartbeats 8000000 in
theorem apartLaw_ok (h:UnIn w F cs bs uca uta) (ra:Option Addr) (rc:Nat) (xs:List Int) (hx:SrcAt w (.slice ra xs.length rc) xs.length (ints xs)) (hr:newR ⟨cs,mu,bs⟩=0):Calls Tryz.prog 5 #[.agg #[.slice uca cs.length ucc, .int .i64 mu, .slice uta bs.length utc], .slice ra xs.length rc] w fun e w'=>e=.returned (.bool true) /\ Keeps NoBlk w w':=by
 have hR:=newR_right hr;have HNW:Hid (∀ W,Keeps NoBlk w W -> Calls Tryz.prog 13 #[.agg #[.slice uca cs.length ucc, .int .i64 mu, .slice uta bs.length utc]] W fun e w'=>∃ b,e=.returned (.tuple #[.pointer (some ⟨b,0,none⟩), .int .i64 0]) /\ Mach (fun q=>q < W.heap.size) w' b ⟨cs,mu,bs⟩ (newM ⟨cs,mu,bs⟩) /\ Keeps NoBlk W w'):=fun W hk=>(h.keeps0 hk).newOk hr
 have HRR:Hid (∀ W,Keeps NoBlk w W -> Calls Tryz.prog 25 #[.agg #[.slice uca cs.length ucc, .int .i64 mu, .slice uta bs.length utc]] W fun e w'=>e=.returned (.bool true) /\ Keeps NoBlk W w'):=fun W hk=>by
  have g:=(h.keeps0 hk).rright (mu:=mu) (ucc:=ucc) (utc:=utc);rw [hR] at g;exact g
 obtain ⟨u,hu⟩:∃ u:Un,u=⟨cs,mu,bs⟩:=⟨_,rfl⟩
 have HL8:Hid (u.cells.length <= 1000 /\ u.mutexes.toNat <= 1000 /\ u.threads.length <= 1000):=by
  have:=rightU_all hR
  rw [<- hu] at this;exact ⟨by omega,by omega,by omega⟩
 rw [<- hu] at HNW;obtain ⟨nc,hnc⟩:∃ z,z=u.cells.length:=⟨_,rfl⟩
 obtain ⟨no,hno⟩:∃ z,z=u.mutexes.toNat:=⟨_,rfl⟩
 obtain ⟨nt,hnt⟩:∃ z,z=u.threads.length:=⟨_,rfl⟩
 have HLEN:Hid (∀ m:WMa,m.ok u -> m.cells.length=nc /\ m.owners.length=no /\ m.ths.length=nt):=fun m hm=>⟨hm.cells.trans hnc.symm,hm.owners.trans hno.symm,hm.ths.trans hnt.symm⟩
 rw [<- hnc,<- hno,<- hnt] at HL8;have HX:=Lib.hid hx;clear h hx hr hR hu hnc hno hnt;go_enter Tryz.func5,Tryz.ntmps5
 go_upto_region 1 with fail
 obtain ⟨b1,w1,e1,e2,R1,K1,_⟩:=newRow w [.slice uca cs.length ucc, .int .i64 mu, .slice uta bs.length utc] 25;try rw [e1]
 try rw [e2]
 have y1:=R1.all3;have k1:=keep0 w1;have HK1:=Lib.hid K1;clear e1 e2 R1 K1;have HS:=Lib.hid (shown_any w1)
 go_upto_region 8 with (first
  | (go_at_call 10;refine HS.out.mono ?_;rintro e w2 ⟨rfl,k2⟩;have HK2:=Lib.hid k2;clear HS)
  | (go_at_call 25;refine (HRR.out _ (HK1.out.trans0 HK2.out)).mono ?_;rintro e w3 ⟨rfl,k3⟩;have k3:=k2.trans0 k3;have HK3:Hid (Keeps NoBlk w w3):=HK1.out.trans0 k3)
  | (go_at_call 13;refine (HNW.out _ HK3.out).mono ?_;rintro e w4 ⟨b,rfl,hm,k4⟩;have HK4:Hid (Keeps NoBlk w w4):=HK3.out.trans0 k4;have HM:=Lib.hid hm;clear hm k4))
 obtain ⟨g0,hg0⟩:∃ g,g=w3.heap.size:=⟨_,rfl⟩
 have M4:Hid (Mach (NB g0 []) w4 b u (newM u)):=by
  refine HM.out.mono (fun q hq=>?_)
  rcases hq with h | h
  ·rw [<- hg0];exact h
  ·cases h
 have HG0:Hid (w.heap.size <= g0):=by rw [hg0];exact HK3.out.size
 have HXC:Hid (∀ W,Keeps (fun q=>g0 <= q) w4 W -> ∀ j,j < xs.length -> ∃ g o,ra=some ⟨g,o,none⟩ /\ W.cell? ⟨g,o+j,none⟩=some (.int .i64 (xs.getD j 0))):=fun W hk j hj=>by
  obtain ⟨ad,cap,e,hc⟩:=HX.out.ints;cases e;obtain ⟨g,o,e,c⟩:=hc j hj;have h1:g < w.heap.size:=World.block_lt_of_cell? w _ c;have h2:=HG0.out;exact ⟨g,o,e,hk.cell (p:=⟨g,_,none⟩) (fun h=>by have h:g0 <= g:=h;omega) (HK4.out.cell (p:=⟨g,_,none⟩) (fun h=>h) c)⟩
 clear y1 k1 HM hg0 k2 k3 HK1 HK2 HK3 HX HNW HRR;go_wp2_with fail
 go_loopw [9] (fun i wr=>∃ (k:Nat) (m:WMa),k <= 100 /\ i=.int .i64 k /\ Hid (Mach (NB g0 []) wr b u m) /\ Hid (Keeps (fun q=>g0 <= q) w4 wr)) (fun i _=>100 - (intOf i).toNat)
 case atStart=>exact ⟨0,_,Nat.zero_le _,rfl,M4,Keeps.refl _ _⟩
 case round =>
  obtain ⟨k,m,hk,rfl,HMk,HKk⟩:=hrel;clear M4;by_cases hlt:k < xs.length
  ·have i2:(k:Int) < xs.length:=by omega
   by_cases h100:k < 100
   ·have i3:(k:Int) < 100:=by omega
    have i1:(0:Int) <= k:=by omega
    have HE:=Lib.hid HMk.out.enabled
    have hl8:(enabM m).length <= 1000:=by
     have h1:=enK_len m m.ths.length;rw [enK_all] at h1;have h2:=(HLEN.out m HMk.out.ok).2.2;have h3:=HL8.out.2.2;omega
    go_upto_region 12 with (go_at_call 22;refine HE.out.mono ?_;rintro e w6 ⟨v,rfl,ho,k6,hob⟩;have HSL:=Lib.hid ((FRow.of ho hob).src);have HK6:=Lib.hid k6;clear ho hob k6)
    have M6:=Lib.hid (HMk.out.keeps0 HK6.out);have KK6:Hid (Keeps (fun q=>g0 <= q) w4 w6):=HKk.out.trans HK6.out (fun _ _ h=>h.elim);obtain ⟨gx,ox,ex,cx⟩:=HXC.out w6 KK6.out k hlt;subst ex;obtain ⟨nv,hnv⟩:∃ z,z=xs.getD k 0:=⟨_,rfl⟩
    rw [<- hnv] at cx;obtain ⟨tv,htv⟩:∃ z,z=pickN nv (enabM m):=⟨_,rfl⟩
    have HPK:Hid (Calls Tryz.prog 16 #[.int .i64 nv,v] w6 fun e w'=>e=.returned (.int .i64 tv) /\ Keeps NoBlk w6 w'):=by rw [htv];exact pick_any w6 nv v (enabM m) HSL.out hl8
    clear hnv htv HE HSL hl8;go_upto_region 13 with (go_at_call 16;refine HPK.out.mono ?_;rintro e w7 ⟨rfl,k7⟩;have HK7:=Lib.hid k7;clear k7)
    have M7:=Lib.hid (M6.out.keeps0 HK7.out);have SE:=Lib.hid M7.out.state;have lca:=Lib.hid (HLEN.out m M7.out.ok).1;have loa:=Lib.hid (HLEN.out m M7.out.ok).2.1;have lta:=Lib.hid (HLEN.out m M7.out.ok).2.2;clear cx;go_upto_region 14 with (go_at_call 24;refine SE.out.mono ?_;rintro e w8 ⟨ta1,ta2,c3,c4,rfl,hs⟩;obtain ⟨ta3,ua3,e3⟩:=frow_form hs.sts;obtain ⟨ta4,ua4,e4⟩:=frow_form hs.next;rw [lta.out] at e3 e4;subst e3 e4;rw [lca.out,loa.out] at hs ⊢;have S8:=Lib.hid hs;clear hs)
    obtain ⟨ya,w9,e1,e2,RA,KA,sA⟩:=newRow w8 [.slice ta1 nc nc, .slice ta2 no no, .slice ta3 nt ua3, .slice ta4 nt ua4] 48;rw [e1,e2];have K79:Hid (Keeps NoBlk w7 w9):=S8.out.keeps.trans0 KA;have MF:=Lib.hid (M7.out.fresh K79.out);have HYA:Hid (w7.heap.size <= ya /\ ya < w9.heap.size):=⟨by rw [<- e1];exact S8.out.keeps.size,RA.lt (by simp)⟩;have HRA:=Lib.hid RA;have HKA:=Lib.hid KA;rcases hst:stepM u m tv with ⟨m',⟨xt,xk,xo,xv,xb⟩,f⟩
    have HST:Hid (Calls Tryz.prog 19 #[.pointer (some ⟨b,0,none⟩), .int .i64 tv] w9 fun e w'=>e=.returned (.tuple #[.agg #[.int .i64 xt, .int .i64 xk, .int .i64 xo, .int .i64 xv, .int .i64 xb], .int .i64 f]) /\ Mach (fun q=>NB g0 [] q \/ (w7.heap.size <= q /\ q < w9.heap.size)) w' b u m' /\ Keeps (fun q=>¬ (NB g0 [] q \/ (w7.heap.size <= q /\ q < w9.heap.size))) w9 w'):=by
     have h:=MF.out.step tv;rw [hst] at h;exact h
    have HSE:=Lib.hid hst;clear e1 e2 RA KA sA hst SE;go_upto_region 15 with (go_at_call 19;refine HST.out.mono ?_;rintro e w10 ⟨rfl,hm,hkk⟩;have M10:=Lib.hid hm;have HK10:=Lib.hid hkk;clear hm hkk)
    obtain ⟨yx,w11,e1,e2,RX,KX,sX⟩:=newRow w10 [.int .i64 xt, .int .i64 xk, .int .i64 xo, .int .i64 xv, .int .i64 xb] 40;rw [e1,e2];have M11:=Lib.hid (M10.out.keeps0 KX);have HRX:=Lib.hid RX;have HKX:=Lib.hid KX;have HRA11:=Lib.hid ((HRA.out.keeps HK10.out (fun h=>h (.inr HYA.out))).keeps KX (fun h=>h))
    have HK811:Hid (Keeps (fun q=>q < w7.heap.size) w8 w11):=((HKA.out.mono (fun _ _ h=>h.elim)).trans (HK10.out.mono (fun q hq hn=>by
     have hq':¬ (w7.heap.size <= q /\ q < w9.heap.size):=fun h=>hn (.inr h)
     omega)) (fun _ _ h=>h)).trans KX (fun _ _ h=>h.elim)
    have SE:=Lib.hid M11.out.state;have lcb:=Lib.hid (HLEN.out m' M11.out.ok).1;have lob:=Lib.hid (HLEN.out m' M11.out.ok).2.1;have ltb:=Lib.hid (HLEN.out m' M11.out.ok).2.2;clear e1 e2 RX KX sX HRA HKA;go_upto_region 16 with (go_at_call 24;refine SE.out.mono ?_;rintro e w12 ⟨tb1,tb2,c3,c4,rfl,hs⟩;obtain ⟨tb3,ub3,e3⟩:=frow_form hs.sts;obtain ⟨tb4,ub4,e4⟩:=frow_form hs.next;rw [ltb.out] at e3 e4;subst e3 e4;rw [lcb.out,lob.out] at hs ⊢;have S12:=Lib.hid hs;clear hs)
    obtain ⟨yb,w13,e1,e2,RB,KB,sB⟩:=newRow w12 [.slice tb1 nc nc, .slice tb2 no no, .slice tb3 nt ub3, .slice tb4 nt ub4] 48;rw [e1,e2];have K1113:Hid (Keeps NoBlk w11 w13):=S12.out.keeps.trans0 KB;have HA:Hid (∀ W,Keeps NoBlk w13 W -> StIn W m nc no nt ta1 ta2 ta3 ta4 nc no ua3 ua4):=fun W hq=>S8.out.stIn (S:=fun q=>q < w7.heap.size) (HK811.out.trans (K1113.out.trans0 hq) (fun _ _ h=>h.elim)) (fun q hq e=>by have e':q < w7.heap.size:=e;omega) lca.out loa.out lta.out
    have HB:Hid (∀ W,Keeps NoBlk w13 W -> StIn W m' nc no nt tb1 tb2 tb3 tb4 nc no ub3 ub4):=fun W hq=>S12.out.stIn (S:=NoBlk) (KB.trans0 hq) (fun _ _ h=>h) lcb.out lob.out ltb.out
    have M13:=Lib.hid (M11.out.keeps0 K1113.out);have yA:=(HRA11.out.keeps K1113.out (fun h=>h)).all4;have yX:=(HRX.out.keeps K1113.out (fun h=>h)).five;have yB:=RB.all4;have k13:=keep0 w13
    have HKE:Hid (∀ W,Keeps NoBlk w13 W -> Keeps (fun q=>g0 <= q) w4 W):=fun W hq=>by
     have h1:Keeps (fun q=>g0 <= q) w4 w9:=(KK6.out.trans HK7.out (fun _ _ h=>h.elim)).trans K79.out (fun _ _ h=>h.elim)
     have h2:Keeps (fun q=>g0 <= q) w9 w10:=HK10.out.mono (fun q _ hn=>by
      have hn':¬ q < g0:=fun h=>hn (.inl (.inl h))
      show g0 <= q
      omega)
     exact ((h1.trans h2 (fun _ _ h=>h)).trans HKX.out (fun _ _ h=>h.elim)).trans (K1113.out.trans0 hq) (fun _ _ h=>h.elim)
    have HME:Hid (∀ W,Keeps NoBlk w13 W -> Mach (NB g0 []) W b u m'):=fun W hq=>(M13.out.keeps0 hq).mono (fun q h=>.inl h)
    clear e1 e2 RB KB sB SE HMk HKk;by_cases hf:f=0
    ·have hfb:(f != 0)=false:=by rw [hf];rfl
     have h0:refM m tv=0:=by
      by_cases h:refM m tv=0
      ·exact h
      ·have e:=HSE.out
       unfold stepM at e;rw [if_neg h] at e;simp only [Prod.mk.injEq] at e;exact e.2.2.trans hf
     have hap:=stepM_apart M7.out.right M7.out.ok h0;rw [HSE.out] at hap;obtain ⟨hap,hth⟩:=hap;have hth:xt=tv:=hth;subst hth
     have HAP:Hid (∀ W,Keeps NoBlk w13 W -> Calls Tryz.prog 27 #[.agg #[.slice ta1 nc nc, .slice ta2 no no, .slice ta3 nt ua3, .slice ta4 nt ua4], .agg #[.slice tb1 nc nc, .slice tb2 no no, .slice tb3 nt ub3, .slice tb4 nt ub4], .agg #[.int .i64 xt, .int .i64 xk, .int .i64 xo, .int .i64 xv, .int .i64 xb]] W fun e w'=>e=.returned (.bool true) /\ Keeps NoBlk W w'):=fun W hq=>by
      have h:=apart_any (x:=⟨xt,xk,xo,xv,xb⟩) hap HL8.out.1 HL8.out.2.1 HL8.out.2.2 (HA.out W hq) (HB.out W hq);exact h
     have hs:(xt != xt)=false:=by simp
     clear hap h0 hf HA HB HSE;go_wp2_with (go_at_call 27;refine (HAP.out _ k13).mono ?_;rintro e w14 ⟨rfl,k14⟩;have HK14:=Lib.hid k14)
     exact ⟨⟨k+1,m',by omega,by go_num,HME.out _ HK14.out,HKE.out _ HK14.out⟩,by simp [intOf];omega⟩
    ·have hfb:(f != 0)=true:=bne_iff_ne.2 hf
     have h0:refM m tv ≠ 0:=fun h=>by
      have e:=HSE.out;unfold stepM at e;rw [if_pos h] at e;simp only [Prod.mk.injEq] at e;exact hf e.2.2.symm
     have e:=HSE.out;unfold stepM at e;rw [if_neg h0] at e;simp only [Prod.mk.injEq,Evt.zero,Evt.mk.injEq] at e;obtain ⟨rfl,⟨rfl,rfl,rfl,rfl,rfl⟩,_⟩:=e;have HSM:Hid (∀ W,Keeps NoBlk w13 W -> Calls Tryz.prog 26 #[.agg #[.slice ta1 nc nc, .slice ta2 no no, .slice ta3 nt ua3, .slice ta4 nt ua4], .agg #[.slice tb1 nc nc, .slice tb2 no no, .slice tb3 nt ub3, .slice tb4 nt ub4]] W fun e w'=>e=.returned (.bool true) /\ Keeps NoBlk W w'):=fun W hq=>sameState_any W _ _ _ _ _ _ _ _ m.cells m.owners (stsN m m.ths.length) (nextN m m.ths.length) (HA.out W hq).src (HB.out W hq).src (by rw [lca.out];exact HL8.out.1) (by rw [loa.out];exact HL8.out.2.1) (by have:=HL8.out.2.2;simp [stsN];rw [lta.out];exact this) (by have:=HL8.out.2.2;simp [nextN];rw [lta.out];exact this)
     clear h0 hf HA HB HSE;go_wp2_with (go_at_call 26;refine (HSM.out _ k13).mono ?_;rintro e w14 ⟨rfl,k14⟩;have HK14:=Lib.hid k14)
     exact ⟨⟨k+1,m,by omega,by go_num,HME.out _ HK14.out,HKE.out _ HK14.out⟩,by simp [intOf];omega⟩
   ·obtain rfl:k=100:=by omega
    clear h100 hk;go_wp2_with fail
    go_ret
    exact ⟨rfl,HK4.out.trans HKk.out (fun q hq e=>by have e':g0 <= q:=e;have:=HG0.out;omega)⟩
  ·have q2:(k < xs.length)=False:=eq_false hlt
   have q3:decide ((k:Int) < (xs.length:Int))=false:=decide_eq_false (by omega);clear hk;go_wp2_with fail
   go_ret
   exact ⟨rfl,HK4.out.trans HKk.out (fun q hq e=>by have e':g0 <= q:=e;have:=HG0.out;omega)⟩
theorem apartLaw_any (h:UnIn w F cs bs uca uta) (ra:Option Addr) (rc:Nat) (xs:List Int) (hx:SrcAt w (.slice ra xs.length rc) xs.length (ints xs)) (hl:xs.length <= 1048576):Calls Tryz.prog 5 #[.agg #[.slice uca cs.length ucc, .int .i64 mu, .slice uta bs.length utc], .slice ra xs.length rc] w fun e w'=>e=.returned (.bool true) /\ Keeps NoBlk w w':=by
 by_cases hr:newR ⟨cs,mu,bs⟩=0
 ·exact apartLaw_ok h ra rc xs hx hr
 ·exact apartLaw_no h _ hr
end
end Go.Proofs.YtnmifekgdkgknaaGreatDoor
