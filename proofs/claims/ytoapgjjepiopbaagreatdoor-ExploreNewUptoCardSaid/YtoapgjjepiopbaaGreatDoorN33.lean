/- Layer N: texts joined. -/
import Derived.Test.YtoapgjjepiopbaaGreatDoorN26
set_option linter.all false
set_option maxHeartbeats 4000000
set_option maxRecDepth 8000
namespace Go.Proofs.YtoapgjjepiopbaaGreatDoor
open Go.RowKit
theorem J149 (P:Prop) (h:P:=by
 have e3:vs 3=_:=hd 3 (by kernel_rfl);have e4:vs 4=_:=hd 4 (by kernel_rfl);rw [e3,e4] at hK ⊢;exact J3 _):P:=h
theorem zG8 (cs:List Int) (mu:Int) (bs:List Bd) (rs:List Nat) (w:World) (F N:Nat -> Prop) (uca uta a0 a1 a2 a3:Option Addr) (ucc utc n0 n1 n2 c0 c1 c2 c3:Nat)
 (hcs:zAn w F cs uca) (hbd:zBa w F bs uta) (hn0:zX w N (.slice a0 n0 c0) n0) (hn1:zX w N (.slice a1 n1 c1) n1) (hn2:zX w N (.slice a2 n2 c2) n2) (hrg:zDc w N rs a3)
 (e0:n0=cs.length) (e1:(n1:Int)=mu) (e2:n2=bs.length) (e3:rs.length=bs.length) (e4:∀ i (hi:i < rs.length) (hj:i < bs.length),(rs[i]:Int)=bs[i].regs) (hN:∀ k,N k -> k < w.heap.size) (hF:∀ k,F k -> k < w.heap.size)
 (m0:cs.length <= 1000) (m1:n1 <= 1000) (m2:bs.length <= 1000) (hsz:∀ i (hi:i < bs.length),Ac.szL bs[i].acts < 1000000000) :
 Calls Tryz.prog 44 #[.agg #[.slice uca cs.length ucc, .int .i64 mu, .slice uta bs.length utc], .agg #[.slice a0 n0 c0, .slice a1 n1 c1, .slice a2 n2 c2, .slice a3 rs.length c3]] w fun e w'=>∃ pca pcc pma pmc pta ptc,e=.returned (.agg #[.slice pca cs.length pcc, .slice pma n1 pmc, .slice pta bs.length ptc]) /\ zBo w' (Since w.heap.size w') cs pca /\ zX w' (Since w.heap.size w') (.slice pma n1 pmc) n1 /\ zAP w' (Since w.heap.size w') xNm (bs.map fun b=>Ac.zQ ⟨cs,mu,bs⟩ b.regs b.acts) pta /\ Keeps zA w w':=by
 have HCS:=Lib.hid hcs;have HBD:=Lib.hid hbd;have HN0:=Lib.hid hn0;have HN1:=Lib.hid hn1;have HN2:=Lib.hid hn2;have HRG:=Lib.hid hrg;have HE:Hid (n0=cs.length /\ (n1:Int)=mu /\ n2=bs.length /\ rs.length=bs.length):=⟨e0,e1,e2,e3⟩;have HE4:=Lib.hid e4;have HNs:=Lib.hid hN;have HFs:=Lib.hid hF;have HSZ:=Lib.hid hsz;have M1:=Lib.hid m1;have M2:=Lib.hid m2;obtain ⟨j0,hj0,hz0,hz1,hz2⟩:=info_parts zKS;obtain ⟨j3,hj3,hy0,hy1,hy2⟩:=info_parts zE3;obtain ⟨Q,hQ⟩:=eX (α:=Ending -> World -> Prop) (fun e w'=>∃ pca pcc pma pmc pta ptc,e=.returned (.agg #[.slice pca cs.length pcc, .slice pma n1 pmc, .slice pta bs.length ptc]) /\ zBo w' (Since w.heap.size w') cs pca /\ zX w' (Since w.heap.size w') (.slice pma n1 pmc) n1 /\ zAP w' (Since w.heap.size w') xNm (bs.map fun b=>Ac.zQ ⟨cs,mu,bs⟩ b.regs b.acts) pta /\ Keeps zA w w');have HQ:=Lib.hid hQ;rw [<- hQ];clear hcs hbd hn0 hn1 hn2 hrg e0 e1 e2 e3 e4 hN hF hsz hQ m1;go_enter Tryz.func44,Tryz.ntmps44
 go_upto_region 2 with fail
 obtain ⟨b2,hb2⟩:=eX w.heap.size;obtain ⟨b3,hb3⟩:=eX (w.heap.size+1);obtain ⟨b4,hb4⟩:=eX (w.heap.size+1+1);obtain ⟨b5,hb5⟩:=eX (w.heap.size+1+1+1);rw [<- hb5,<- hb4,<- hb3,<- hb2];obtain ⟨wA,hwA⟩:=eX (w.alloc (.cells #[.slice uca cs.length ucc, .int .i64 mu, .slice uta bs.length utc] 25));obtain ⟨wB,hwB⟩:=eX (wA.alloc (.cells #[.slice a0 n0 c0, .slice a1 n1 c1, .slice a2 n2 c2, .slice a3 rs.length c3] 97));obtain ⟨wC,hwC⟩:=eX (wB.alloc (.cells #[.slice none 0 0, .slice none 0 0, .slice none 0 0] 102));obtain ⟨w1,hw1⟩:=eX (wC.alloc (.cells #[.slice none 0 0, .slice none 0 0, .slice none 0 0] 102));rw [<- hwA,<- hwB,<- hwC,<- hw1];have kA:Keeps zA w wA:=J173 _;have kB:Keeps zA wA wB:=by rw [hwB];exact (Keeps.refl _ _).alloc _
 have kC:Keeps zA wB wC:=by rw [hwC];exact (Keeps.refl _ _).alloc _
 have k1:Keeps zA wC w1:=J180 _;have sA:wA.heap.size=w.heap.size+1:=by rw [hwA];simp
 have sB:wB.heap.size=w.heap.size+1+1:=by rw [hwB];simp [sA]
 have sC:wC.heap.size=w.heap.size+1+1+1:=by rw [hwC];simp [sB]
 have s1:w1.heap.size=w.heap.size+1+1+1+1:=by rw [hw1];simp [sC]
 have r2:zC wA b2 [.slice uca cs.length ucc, .int .i64 mu, .slice uta bs.length utc]:=by rw [hb2,hwA];exact zC.zG (heap_alloc_new w _)
 have r3:zC wB b3 [.slice a0 n0 c0, .slice a1 n1 c1, .slice a2 n2 c2, .slice a3 rs.length c3]:=by rw [hb3,<- sA,hwB];exact zC.zG (heap_alloc_new wA _)
 have r4:zC wC b4 [.slice none 0 0, .slice none 0 0, .slice none 0 0]:=by rw [hb4,<- sB,hwC];exact zC.zG (heap_alloc_new wB _)
 have r5:zC w1 b5 [.slice none 0 0, .slice none 0 0, .slice none 0 0]:=by rw [hb5,<- sC,hw1];exact zC.zG (heap_alloc_new wC _)
 have R2:Hid (zC w1 b2 [.slice uca cs.length ucc, .int .i64 mu, .slice uta bs.length utc]):=r2.keeps (kB.zB (kC.zB k1)) (fun h=>h);have R3:Hid (zC w1 b3 [.slice a0 n0 c0, .slice a1 n1 c1, .slice a2 n2 c2, .slice a3 rs.length c3]):=r3.keeps (kC.zB k1) (fun h=>h);have R4:Hid (zC w1 b4 [.slice none 0 0, .slice none 0 0, .slice none 0 0]):=r4.keeps k1 (fun h=>h);have R5:=Lib.hid r5;have K1:Hid (Keeps zA w w1):=kA.zB (kB.zB (kC.zB k1));have HS:Hid (w.heap.size <= b2 /\ w.heap.size <= b3 /\ w.heap.size <= b4 /\ w.heap.size <= b5 /\ b2 < w1.heap.size /\ b3 < w1.heap.size /\ b4 < w1.heap.size /\ b5 < w1.heap.size /\ b2 ≠ b5 /\ b3 ≠ b5 /\ b4 ≠ b5):=⟨by omega,by omega,by omega,by omega,by omega,by omega,by omega,by omega,by omega,by omega,by omega⟩;clear hwA hwB hwC hw1 kA kB kC k1 sA sB sC s1 r2 r3 r4 r5 hb2 hb3 hb4 hb5;have ne2:Hid (b2 ≠ b5):=HS.out.2.2.2.2.2.2.2.2.1;have ne3:Hid (b3 ≠ b5):=HS.out.2.2.2.2.2.2.2.2.2.1;have ne4:Hid (b4 ≠ b5):=HS.out.2.2.2.2.2.2.2.2.2.2;have hFb:Hid (∀ q,F q -> ¬ (fun q=>q=b5) q):=fun q hq e=>by have e':q=b5:=e;have:=HFs.out q hq;have:=HS.out.2.2.2.1;omega
 have hNb:Hid (∀ q,N q -> ¬ (fun q=>q=b5) q):=fun q hq e=>by exact J192 _
 have CS1:Hid (zAn w1 F cs uca):=HCS.out.keeps K1.out (fun _ _ h=>h);have BD1:Hid (zBa w1 F bs uta):=HBD.out.keeps K1.out (fun _ _ h=>h);have N01:Hid (zX w1 N (.slice a0 n0 c0) n0):=HN0.out.keeps K1.out (fun _ _ h=>h);have N11:Hid (zX w1 N (.slice a1 n1 c1) n1):=HN1.out.keeps K1.out (fun _ _ h=>h);have N21:Hid (zX w1 N (.slice a2 n2 c2) n2):=HN2.out.keeps K1.out (fun _ _ h=>h);have RG1:Hid (zDc w1 N rs a3):=HRG.out.keeps K1.out (fun _ _ h=>h);obtain ⟨B,hB⟩:=eX w1.heap.size;have HBE:Hid (B=w1.heap.size /\ b2 < B /\ b3 < B /\ b4 < B /\ b5 < B /\ w.heap.size <= B):=⟨hB,by have:=HS.out;omega,by have:=HS.out;omega,by have:=HS.out;omega,by have:=HS.out;omega,by have:=K1.out.size;omega⟩;clear hB HCS HBD HN0 HN1 HN2 HRG;obtain ⟨x20,x21,x22⟩:=R2.out.three;go_upto_region 3 with fail
 clear x20 x21 x22;go_loopw [14] (fun iv wr=>∃ (i:Nat) (da:Option Addr) (dc:Nat) (css:List (List Value)),i <= cs.length /\ iv=.int .i64 i /\ Hid (zC wr b5 [.slice da i dc, .slice none 0 0, .slice none 0 0]) /\ Hid (Acc zFZ (fun _=>False) B 2 182 wr (.slice da i dc) (cs.take i) css) /\ Hid (Keeps (fun q=>q=b5) w1 wr)) (fun iv _=>cs.length - (intOf iv).toNat)
 case atStart=>exact ⟨0,none,0,[],Nat.zero_le _,rfl,R5,Acc.nil w1,Keeps.refl _ _⟩
 case round =>
  obtain ⟨i,da,dc,css,hi,rfl,RB,HA,HK⟩:=hrel;by_cases hlt:i < cs.length
  ·have i1:(0:Int) <= i:=by omega
   have i2:(i:Int) < cs.length:=by omega
   have i4:(i:Int) < n0:=by have:=HE.out.1;omega
   obtain ⟨g,o,q1,hg,d0⟩:=(CS1.out.keeps HK.out hFb.out) i hlt;subst q1;obtain ⟨g0,o0,q2,hg0,d1⟩:=(N01.out.keeps HK.out hNb.out).at (i:=i) (by have:=HE.out.1;omega);subst q2;obtain ⟨x,hx⟩:=eX (cs[i]);have HX:=Lib.hid hx;rw [<- hx] at d0;clear hx hg hg0;go_upto_region 5 with fail
   clear d0;refine ze 10 (by kernel_rfl) (by kernel_rfl) (Keeps zA) (Keeps.refl zA) (fun a b c h h'=>Keeps.zB h h') (zA3 [some (.pointer (some ⟨b5,0,none⟩)),some (.slice da i dc),some (.pointer (some ⟨b3,0,none⟩)),some (.slice (some ⟨g0,o0,none⟩) n0 c0),some (.int .i64 i),some (.pointer (some ⟨g0,o0+i,none⟩)),some (.string xNm),some (.int .i64 x),some (.agg #[.string xNm, .int .i64 x])] (fun _ v W=>∃ b,v=.slice (some ⟨b,0,none⟩) 1 1 /\ zC W b [.string xNm, .int .i64 x])) (zA3.st (fun j v W W' h hk=>by obtain ⟨b,e,h1⟩:=h;exact ⟨b,e,h1.keeps hk (fun h=>h)⟩)) ?_ ?_
   ·intro q oo hq ho vs W Q' hR0 hd hK
    have hR:Keeps zA wr W:=((Keeps.refl zA wr).drew).zB hR0;obtain ⟨y30,y31,y32,y33⟩:=((R3.out.keeps HK.out (fun e=>ne3.out e)).keeps hR (fun h=>h)).four;obtain ⟨y50,y51,y52⟩:=(RB.out.keeps hR (fun h=>h)).three;have d1':=hR.cell (p:=⟨g0,o0+i,none⟩) (fun h=>h) d1;clear hR hR0 d1;rcases (show q=0 \/ q=1 \/ q=2 \/ q=3 \/ q=4 \/ q=5 \/ q=6 \/ q=7 \/ q=8 \/ q=9 by omega) with rfl | rfl | rfl | rfl | rfl | rfl | rfl | rfl | rfl | rfl
    all_goals (simp only [List.getElem?_cons_zero,List.getElem?_cons_succ,Option.some.injEq] at ho;subst ho;simp only [zJ,List.getElem?_cons_zero,List.getElem?_cons_succ,Option.bind_some,Option.bind,Act.put,List.setIfInBounds_toArray,List.set_cons_zero,List.set_cons_succ] at hK ⊢;clear hq)
    ·exact J3 _
    ·exact J117 _
    ·exact J3 _
    ·exact J124 _
    ·exact J3 _
    ·exact J149 _
    ·exact J142 _
    ·exact J3 _
    ·exact J148 _
    ·have e8:vs 8=_:=hd 8 (by kernel_rfl)
     rw [e8] at hK ⊢;exact J102 _
   ·intro vs W hR0 hF
    have hR:Keeps zA wr W:=((Keeps.refl zA wr).drew).zB hR0;have HKW:=Lib.hid hR;have e1:vs 1=_:=hF 1 (by decide);obtain ⟨gs,e9,hgs⟩:=(hF 9 (by decide):∃ b,vs 9=.slice (some ⟨b,0,none⟩) 1 1 /\ zC W b [.string xNm, .int .i64 x]);have HGS:=Lib.hid hgs;simp only [zJ,List.getElem?_cons_zero,List.getElem?_cons_succ,Option.bind_some,Option.bind,Act.put,List.setIfInBounds_toArray,List.set_cons_zero,List.set_cons_succ,List.drop_succ_cons,List.drop_zero];rw [e1,e9];clear hF e1 e9;generalize vs 0=y0;generalize vs 2=y2;generalize vs 3=y3;generalize vs 4=y4;generalize vs 5=y5;generalize vs 6=y6;generalize vs 7=y7;generalize vs 8=y8;clear hR hR0 hgs d1;have HAW:Hid (Acc zFZ (fun _=>False) B 2 182 W (.slice da i dc) (cs.take i) css):=HA.out.zD zMe HKW.out;have HLEN:Hid ((cs.take i).length=i):=by show _=_;rw [List.length_take];omega
    have RBW:Hid (zC W b5 [.slice da i dc, .slice none 0 0, .slice none 0 0]):=RB.out.keeps HKW.out (fun h=>h);have hOB:Hid (∀ q,(Value.slice da i dc).ownBlock=some q -> B <= q):=HA.out.2.2.1;have i3:i+1 <= 1000000000:=by omega
    go_upto_region 6 with (at_builtin;refine zI _ (by rfl) _ _ 99 (by rfl) 0 182 j0 _ 2 24 Tryz.underlying99 hj0 hz0 hz1 hz2 rfl (by decide) (.slice da i dc) i css.flatten (by rfl) (J176 _) (.slice (some ⟨gs,0,none⟩) 1 1) 1 [.string xNm, .int .i64 x] (by rfl) (zC.src HGS.out) rfl (J174 _) (by unfold maxLen;omega) (by omega) (Nat.zero_le _) ?_;intro da2 dc2 w4 ha;have HAO:=Lib.hid ha;have k4:=zi.keeps ha (Keeps.refl (fun q=>(Value.slice da i dc).ownBlock=some q) W) (fun q e _=>e);have r4:=RBW.out.keeps k4 (fun e=>by have:=hOB.out b5 e;have:=HBE.out;omega);have z0:=r4.cell (k:=0) (v:=.slice da i dc) rfl;have f0:=r4.free (k:=0) (by simp);have R4W:=Lib.hid r4;have K4W:=Lib.hid k4;clear ha k4 r4)
    have hBW:B <= W.heap.size:=J188 _;have hset:Keeps (fun q=>q=b5) w4 (w4.setCell ⟨b5,0,none⟩ (.slice da2 (i+1) dc2)):=(Keeps.refl (fun q=>q=b5) w4).setCell (p:=⟨b5,0,none⟩) (fun _=>rfl) _
    have hpush:Acc zFZ (fun _=>False) B 2 182 (w4.setCell ⟨b5,0,none⟩ (.slice da2 (i+1) dc2)) (.slice da2 (i+1) dc2) (cs.take (i+1)) (css++[[.string xNm, .int .i64 x]]):=by
     have h1:=HAW.out.push zMe (fun k hk=>hk.elim) hBW (x:=x) (cs:=[.string xNm, .int .i64 x]) rfl (by decide) (ad:=da2) (cap:=dc2) (w':=w4) (J200 _);rw [HLEN.out] at h1;have e:cs.take (i+1)=cs.take i++[x]:=by rw [take_at hlt,HX.out]
     rw [e];exact h1.keeps zMe hset (fun k hk=>⟨by have e':k=b5:=hk;have:=HBE.out;omega,fun h=>h⟩)
    have hrow:zC (w4.setCell ⟨b5,0,none⟩ (.slice da2 (i+1) dc2)) b5 [.slice da2 (i+1) dc2, .slice none 0 0, .slice none 0 0]:=R4W.out.set 0 (by simp) _
    have hkeep:Keeps (fun q=>q=b5) w1 (w4.setCell ⟨b5,0,none⟩ (.slice da2 (i+1) dc2)) :=
     (((HK.out.trans HKW.out (fun _ _ h=>h.elim)).trans K4W.out (fun q hq e=>by exact J196 _)).trans hset (fun _ _ h=>h))
    have HPU:=Lib.hid hpush;have HRO:=Lib.hid hrow;have HKE:=Lib.hid hkeep;clear hpush hrow hkeep hset hBW z0 f0;go_wp2_with fail
    go_roundw
    case rel=>exact ⟨i+1,da2,dc2,css++[[.string xNm, .int .i64 x]],by omega,by go_num,HRO,HPU,HKE⟩
    case measure=>simp [intOf];omega
  ·obtain rfl:i=cs.length:=by omega
   have hA:=HA.out;rw [List.take_length] at hA;have CLR:Hid (zBo wr (Since B wr) cs da):=hA.cls;clear hA HA;obtain ⟨y30,y31,y32,y33⟩:=(R3.out.keeps HK.out (fun e=>ne3.out e)).four;have hsrc:Hid (zU wr (.slice a1 n1 c1) n1 (xs n1)):=(N11.out.keeps HK.out hNb.out).src;go_upto_region 7 with fail
   go_upto_region 8 with (first
    | (go_at_call 87;refine (zKv _ _ n1 hsrc.out M1.out).mono ?_;rintro e w6 ⟨ma,mc,rfl,ho,g6,hb6⟩;have HO6:=Lib.hid ho;have G6:=Lib.hid g6;have B6:=Lib.hid hb6;clear ho g6 hb6 y30 y31 y32 y33)
    | (go_at_call 86;refine (zLK _ _ _ _ _ HO6.out).mono ?_;rintro e w7 ⟨rfl,ew⟩;have EW:=Lib.hid ew;have r6:=RB.out.keeps G6.out (fun h=>h);rw [<- ew] at r6;have u1:=r6.cell (k:=1) (v:=.slice none 0 0) rfl;have f1:=r6.free (k:=1) (by simp);have R6:=Lib.hid r6;clear r6 ew))
   have ew:=EW.out;subst ew;have hset:Keeps (fun q=>q=b5) w7 (w7.setCell ⟨b5,1,none⟩ (.slice ma n1 n1)):=(Keeps.refl (fun q=>q=b5) w7).setCell (p:=⟨b5,1,none⟩) (fun _=>rfl) _;have hrow:zC (w7.setCell ⟨b5,1,none⟩ (.slice ma n1 n1)) b5 [.slice da cs.length dc, .slice ma n1 n1, .slice none 0 0]:=R6.out.set 1 (by simp) _;have K8:Hid (Keeps (fun q=>q=b5) w1 (w7.setCell ⟨b5,1,none⟩ (.slice ma n1 n1))):=(HK.out.trans G6.out (fun _ _ h=>h.elim)).trans hset (fun _ _ h=>h);obtain ⟨B7,hB7⟩:=eX ((w7.setCell ⟨b5,1,none⟩ (.slice ma n1 n1)).heap.size);have hs7:(w7.setCell ⟨b5,1,none⟩ (.slice ma n1 n1)).heap.size=w7.heap.size:=by simp
   have HB7:Hid (B7=w7.heap.size /\ B <= B7):=⟨by omega,by have:=G6.out.size;have:=HK.out.size;have:=HBE.out.1;omega⟩;have CL8:Hid (zBo (w7.setCell ⟨b5,1,none⟩ (.slice ma n1 n1)) (fun k=>B <= k /\ k < B7) cs da):=((CLR.out.keeps G6.out (fun _ _ h=>h)).keeps hset (fun k hk e=>by have e':k=b5:=e;have:=HBE.out;have:=hk.1;omega)).mono (fun k hk=>⟨hk.1,by have:=hk.2;have:=G6.out.size;have:=HB7.out;omega⟩)
   have MS8:Hid (zX (w7.setCell ⟨b5,1,none⟩ (.slice ma n1 n1)) (fun k=>B <= k /\ k < B7) (.slice ma n1 n1) n1):=by
    have h0:zX w7 (fun k=>B <= k /\ k < B7) (.slice ma n1 mc) n1:=zX.zAM HO6.out rfl (fun kb e=>⟨by have:=B6.out kb e;have:=HK.out.size;have:=HBE.out.1;omega,by have:=zS HO6.out e;have:=HB7.out;omega⟩);have h1:=h0.keeps hset (fun k hk e=>by have e':k=b5:=e;have:=HBE.out;have:=hk.1;omega);obtain ⟨ad,cap,e,h2⟩:=h1;have e':ma=ad:=by injection e
    subst e';exact ⟨_,_,rfl,h2⟩
   have EB7:Hid (B7=(w7.setCell ⟨b5,1,none⟩ (.slice ma n1 n1)).heap.size):=hB7;have R8:=Lib.hid hrow;generalize w7.setCell ⟨b5,1,none⟩ (.slice ma n1 n1)=w8 at K8 CL8 MS8 R8 EB7 ⊢;clear hset hrow hs7 hB7 u1 f1 EW R6 CLR HB7 HO6 B6 G6 hsrc RB;have HB7:Hid (B <= B7 /\ w1.heap.size <= B7 /\ b5 < B7):=⟨by rw [EB7.out,HBE.out.1];exact K8.out.size,by rw [EB7.out];exact K8.out.size,by have:=K8.out.size;have:=EB7.out;have:=HS.out;omega⟩;obtain ⟨x20,x21,x22⟩:=(R2.out.keeps K8.out (fun e=>ne2.out e)).three;go_upto_region 9 with fail
   clear x20 x21 x22;have HPS:Hid ((bs.map fun b=>Ac.zQ ⟨cs,mu,bs⟩ b.regs b.acts).length=bs.length):=by show _=_;rw [List.length_map]
   have HPI:Hid (∀ (i:Nat) (hi:i < bs.length) (hj:i < (bs.map fun b=>Ac.zQ ⟨cs,mu,bs⟩ b.regs b.acts).length),(bs.map fun b=>Ac.zQ ⟨cs,mu,bs⟩ b.regs b.acts)[i]=Ac.zQ ⟨cs,mu,bs⟩ bs[i].regs bs[i].acts):=fun i hi hj=>by rw [List.getElem_map]
   generalize (bs.map fun b=>Ac.zQ ⟨cs,mu,bs⟩ b.regs b.acts)=ps at HPS HPI HQ;go_loopw [40] (fun iv wr=>∃ (i:Nat) (ea:Option Addr) (ec:Nat) (css:List (List Value)),i <= bs.length /\ iv=.int .i64 i /\ Hid (zC wr b5 [.slice da cs.length dc, .slice ma n1 n1, .slice ea i ec]) /\ Hid (Acc zEY (fun _=>False) B7 2 111 wr (.slice ea i ec) (ps.take i) css) /\ Hid (Keeps (fun q=>q=b5) w8 wr)) (fun iv _=>bs.length - (intOf iv).toNat)
   case atStart=>exact ⟨0,none,0,[],Nat.zero_le _,rfl,R8,Acc.nil w8,Keeps.refl _ _⟩
   case round =>
    clear HK hi;obtain ⟨i,ea,ec,css,hi,rfl,RB,HA,HK⟩:=hrel;have KR:Hid (Keeps (fun q=>q=b5) w1 wr):=K8.out.trans HK.out (fun _ _ h=>h);by_cases hlt:i < bs.length
    ·have i1:(0:Int) <= i:=by omega
     have i2:(i:Int) < bs.length:=by omega
     have i4:(i:Int) < n2:=by have:=HE.out.2.2.1;omega
     have i5:(i:Int) < rs.length:=by have:=HE.out.2.2.2;omega
     have hltr:i < rs.length:=by have:=HE.out.2.2.2;omega
     obtain ⟨g,o,ba,bc,q1,hg,d0,d1,hx⟩:=(BD1.out.keeps KR.out hFb.out) i hlt;subst q1;obtain ⟨g2,o2,q2,hg2,d2⟩:=(N21.out.keeps KR.out hNb.out).at (i:=i) (by have:=HE.out.2.2.1;omega);subst q2;obtain ⟨gr,og,ra,rc,q3,hgr,d3,hnr⟩:=(RG1.out.keeps KR.out hNb.out) i hltr;subst q3;have hE4:=HE4.out i hltr hlt;obtain ⟨p,hp⟩:=eX (Ac.zQ ⟨cs,mu,bs⟩ bs[i].regs bs[i].acts);have HPI2:Hid (∀ (hj:i < ps.length),ps[i]=p):=fun hj=>by rw [hp];exact HPI.out i hlt hj
     obtain ⟨x1,hx1⟩:=eX (bs[i].acts.length);have HPL:Hid (p.length=x1):=by show _=_;rw [hp,hx1,Ac.zBE]
     rw [<- hE4] at hp;have HFw:Hid (∀ k,F k -> k < wr.heap.size):=fun k hk=>Nat.lt_of_lt_of_le (HFs.out k hk) (Nat.le_trans K1.out.size KR.out.size)
     have HNw:Hid (∀ k,N k -> k < wr.heap.size):=fun k hk=>Nat.lt_of_lt_of_le (HNs.out k hk) (Nat.le_trans K1.out.size KR.out.size)
     have HC:Hid (∀ W,Keeps zA wr W -> Calls Tryz.prog 88 #[.agg #[.slice a0 n0 c0, .slice a1 n1 c1, .slice (some ⟨g2,o2,none⟩) n2 c2, .slice ra rs[i] rc], .slice ba x1 bc] W fun e w'=>∃ ad' cap',e=.returned (.slice ad' x1 cap') /\ zm w' (Since W.heap.size w') p ad' /\ Keeps zA W w'):=by
      rw [hp,hx1];exact fun W hk=>zPN bs[i].acts ⟨cs,mu,bs⟩ W F N ba a0 a1 (some ⟨g2,o2,none⟩) ra bc n0 n1 n2 rs[i] c0 c1 c2 rc (hx.keeps hk (fun _ _ h=>h)) ((N01.out.keeps KR.out hNb.out).keeps hk (fun _ _ h=>h)) ((N11.out.keeps KR.out hNb.out).keeps hk (fun _ _ h=>h)) ((N21.out.keeps KR.out hNb.out).keeps hk (fun _ _ h=>h)) (hnr.keeps hk (fun _ _ h=>h)) HE.out.1 HE.out.2.1 HE.out.2.2.1 (fun k h=>Nat.lt_of_lt_of_le (HNw.out k h) hk.size) (fun k h=>Nat.lt_of_lt_of_le (HFw.out k h) hk.size) (HSZ.out i hlt)
     rw [<- hx1] at d1;clear hx hnr hp hx1 hE4 hg hg2 hgr;generalize bs[i].regs=x0 at d0;generalize rs[i]=n3 at d3 HC;go_upto_region 11 with fail
     obtain ⟨b9,hb9⟩:=eX wr.heap.size;have hr9:zC (wr.alloc (.cells #[.int .i64 x0, .slice ba x1 bc] 48)) b9 [.int .i64 x0, .slice ba x1 bc]:=by rw [hb9];exact zC.zG (heap_alloc_new wr _)
     have hk9:Keeps zA wr (wr.alloc (.cells #[.int .i64 x0, .slice ba x1 bc] 48)):=(Keeps.refl _ _).alloc _;have hs9:b9 < (wr.alloc (.cells #[.int .i64 x0, .slice ba x1 bc] 48)).heap.size:=by rw [hb9];simp
     rw [<- hb9];generalize wr.alloc (.cells #[.int .i64 x0, .slice ba x1 bc] 48)=w9 at hr9 hk9 hs9 ⊢;have R9:=Lib.hid hr9;have K9:=Lib.hid hk9;have S9:=Lib.hid hs9;have HB9W:Hid (wr.heap.size=b9):=hb9.symm;clear hr9 hk9 hs9 hb9 d0 d1;refine ze 13 (by kernel_rfl) (by kernel_rfl) (Keeps zA) (Keeps.refl zA) (fun a b c h h'=>Keeps.zB h h') (zA3 [some (.pointer (some ⟨b3,0,none⟩)),some (.slice a0 n0 c0),some (.pointer (some ⟨b3,1,none⟩)),some (.slice a1 n1 c1),some (.pointer (some ⟨b3,2,none⟩)),some (.slice (some ⟨g2,o2,none⟩) n2 c2),some (.pointer (some ⟨b3,3,none⟩)),some (.slice (some ⟨gr,og,none⟩) rs.length c3),some (.int .i64 i),some (.pointer (some ⟨gr,og+i,none⟩)),some (.slice ra n3 rc),some (.agg #[.slice a0 n0 c0, .slice a1 n1 c1, .slice (some ⟨g2,o2,none⟩) n2 c2, .slice ra n3 rc])] (fun _ v W=>∃ b,v=.pointer (some ⟨b,0,none⟩) /\ w9.heap.size <= b /\ b < W.heap.size /\ zC W b [.slice none 0 0, .slice none 0 0, .slice none 0 0, .slice none 0 0])) (zA3.st (fun j v W W' h hk=>by obtain ⟨b,e,h0,h1,h2⟩:=h;exact ⟨b,e,h0,Nat.lt_of_lt_of_le h1 hk.size,h2.keeps hk (fun h=>h)⟩)) ?_ ?_
     ·intro q oo hq ho vs W Q' hR0 hd hK
      have hR:Keeps zA w9 W:=((Keeps.refl zA w9).drew).zB hR0;have hRr:Keeps zA wr W:=K9.out.zB hR;obtain ⟨y30,y31,y32,y33⟩:=((R3.out.keeps KR.out (fun e=>ne3.out e)).keeps hRr (fun h=>h)).four;have d3':=hRr.cell (p:=⟨gr,og+i,none⟩) (fun h=>h) d3;have HB9:Hid (w9.heap.size <= W.heap.size):=hR.size;clear hR hR0 hRr d2 d3;rcases (show q=0 \/ q=1 \/ q=2 \/ q=3 \/ q=4 \/ q=5 \/ q=6 \/ q=7 \/ q=8 \/ q=9 \/ q=10 \/ q=11 \/ q=12 by omega) with rfl | rfl | rfl | rfl | rfl | rfl | rfl | rfl | rfl | rfl | rfl | rfl | rfl
      all_goals (simp only [List.getElem?_cons_zero,List.getElem?_cons_succ,Option.some.injEq] at ho;subst ho;simp only [zJ,List.getElem?_cons_zero,List.getElem?_cons_succ,Option.bind_some,Option.bind,Act.put,List.setIfInBounds_toArray,List.set_cons_zero,List.set_cons_succ] at hK ⊢;clear hq)
      ·exact J3 _
      ·exact J117 _
      ·exact J3 _
      ·exact J124 _
      ·exact J3 _
      ·exact J123 _
      ·exact J3 _
      ·have e6:vs 6=_:=hd 6 (by kernel_rfl)
       rw [e6] at hK ⊢;exact J3 _
      ·exact J3 _
      ·have e7:vs 7=_:=hd 7 (by kernel_rfl)
       have e8:vs 8=_:=hd 8 (by kernel_rfl);rw [e7,e8] at hK ⊢;exact J3 _
      ·exact J133 _
      ·have e1:vs 1=_:=hd 1 (by kernel_rfl)
       have e3:vs 3=_:=hd 3 (by kernel_rfl);have e5:vs 5=_:=hd 5 (by kernel_rfl);have e10:vs 10=_:=hd 10 (by kernel_rfl);rw [e1,e3,e5,e10] at hK ⊢;exact J3 _
      ·clear hd
       go_wp2_with fail
       exact hK _ _ ((Keeps.refl _ _).alloc _) ⟨_,rfl,HB9.out,by simp,zC.zG (heap_alloc_new W _)⟩
     ·intro vs W hR0 hF
      have hR:Keeps zA w9 W:=((Keeps.refl zA w9).drew).zB hR0;have HKW:Hid (Keeps zA wr W):=K9.out.zB hR;have HR9:=Lib.hid hR;have e11:vs 11=_:=hF 11 (by decide);obtain ⟨b10,e12,q1,q2,hz10⟩:=(hF 12 (by decide):∃ b,vs 12=.pointer (some ⟨b,0,none⟩) /\ w9.heap.size <= b /\ b < W.heap.size /\ zC W b [.slice none 0 0, .slice none 0 0, .slice none 0 0, .slice none 0 0]);simp only [zJ,List.getElem?_cons_zero,List.getElem?_cons_succ,Option.bind_some,Option.bind,Act.put,List.setIfInBounds_toArray,List.set_cons_zero,List.set_cons_succ,List.drop_succ_cons,List.drop_zero];rw [e11,e12];clear hF e11 e12;generalize vs 0=y0;generalize vs 1=y1;generalize vs 2=y2;generalize vs 3=y3;generalize vs 4=y4;generalize vs 5=y5;generalize vs 6=y6;generalize vs 7=y7;generalize vs 8=y8;generalize vs 9=y9;generalize vs 10=y10;clear hR hR0;obtain ⟨z0,z1,z2,z3⟩:=hz10.four;have f0:=hz10.free (k:=0) (by simp);have f1:=hz10.free (k:=1) (by simp);have f2:=hz10.free (k:=2) (by simp);have f3:=hz10.free (k:=3) (by simp);have HZ10:=Lib.hid hz10;have HB10:Hid (w9.heap.size <= b10 /\ b10 < W.heap.size):=⟨q1,q2⟩;clear hz10 q1 q2;go_upto_region 12 with fail
      have r10:zC ((((W.setCell ⟨b10,0,none⟩ (.slice a0 n0 c0)).setCell ⟨b10,1,none⟩ (.slice a1 n1 c1)).setCell ⟨b10,2,none⟩ (.slice (some ⟨g2,o2,none⟩) n2 c2)).setCell ⟨b10,3,none⟩ (.slice ra n3 rc)) b10 [.slice a0 n0 c0, .slice a1 n1 c1, .slice (some ⟨g2,o2,none⟩) n2 c2, .slice ra n3 rc]:=(((HZ10.out.set 0 (by simp) _).set 1 (by simp) _).set 2 (by simp) _).set 3 (by simp) _;have k10:Keeps (fun q=>q=b10) W ((((W.setCell ⟨b10,0,none⟩ (.slice a0 n0 c0)).setCell ⟨b10,1,none⟩ (.slice a1 n1 c1)).setCell ⟨b10,2,none⟩ (.slice (some ⟨g2,o2,none⟩) n2 c2)).setCell ⟨b10,3,none⟩ (.slice ra n3 rc)):=((((Keeps.refl (fun q=>q=b10) W).setCell (p:=⟨b10,0,none⟩) (fun _=>rfl) _).setCell (p:=⟨b10,1,none⟩) (fun _=>rfl) _).setCell (p:=⟨b10,2,none⟩) (fun _=>rfl) _).setCell (p:=⟨b10,3,none⟩) (fun _=>rfl) _;generalize (((W.setCell ⟨b10,0,none⟩ (.slice a0 n0 c0)).setCell ⟨b10,1,none⟩ (.slice a1 n1 c1)).setCell ⟨b10,2,none⟩ (.slice (some ⟨g2,o2,none⟩) n2 c2)).setCell ⟨b10,3,none⟩ (.slice ra n3 rc)=wX at r10 k10 ⊢;have R10:=Lib.hid r10;have KX:Hid (Keeps zA wr wX):=HKW.out.trans k10 (fun q hq e=>by have e':q=b10:=e;have:=HB10.out;have:=K9.out.size;omega);have KX9:Hid (Keeps zA w9 wX):=HR9.out.trans k10 (fun q hq e=>by have e':q=b10:=e;have:=HB10.out;omega);have R9X:Hid (zC wX b9 [.int .i64 x0, .slice ba x1 bc]):=R9.out.keeps KX9.out (fun h=>h);clear r10 k10 z0 z1 z2 z3 f0 f1 f2 f3 HZ10 HB10 HR9 HKW R9 K9 S9
      refine ze 13 (by kernel_rfl) (by kernel_rfl) (Keeps zA) (Keeps.refl zA) (fun a b c h h'=>Keeps.zB h h') (zA3 [some (.pointer (some ⟨b5,2,none⟩)),some (.slice ea i ec),some (.pointer (some ⟨b3,2,none⟩)),some (.slice (some ⟨g2,o2,none⟩) n2 c2),some (.int .i64 i),some (.pointer (some ⟨g2,o2+i,none⟩)),some (.string xNm),some (.agg #[.slice a0 n0 c0, .slice a1 n1 c1, .slice (some ⟨g2,o2,none⟩) n2 c2, .slice ra n3 rc]),some (.pointer (some ⟨b9,1,none⟩)),some (.slice ba x1 bc)] (fun j v W=>match j with
       | 10=>∃ ad2 cp2,v=.slice ad2 x1 cp2 /\ zm W (Since wX.heap.size W) p ad2
       | 11=>∃ ad2 cp2,v=.agg #[.string xNm, .slice ad2 x1 cp2] /\ zm W (Since wX.heap.size W) p ad2
       | _=>∃ b ad2 cp2,v=.slice (some ⟨b,0,none⟩) 1 1 /\ zC W b [.string xNm, .slice ad2 x1 cp2] /\ zm W (Since wX.heap.size W) p ad2)) (zA3.st (fun j v W W' h hk=>by
         revert h
         split
         ·exact J38 _
         ·exact J38 _
         ·rintro ⟨b,ad2,cp2,e,h0,h1⟩;exact ⟨b,ad2,cp2,e,h0.keeps hk (fun h=>h),(h1.keeps hk (fun _ _ h=>h)).mono (fun k hk'=>⟨hk'.1,Nat.lt_of_lt_of_le hk'.2 hk.size⟩)⟩)) ?_ ?_
      ·intro q oo hq ho vs W Q' hR0 hd hK
       have hR:Keeps zA wX W:=((Keeps.refl zA wX).drew).zB hR0;have hRr:Keeps zA wr W:=KX.out.zB hR;obtain ⟨y30,y31,y32,y33⟩:=((R3.out.keeps KR.out (fun e=>ne3.out e)).keeps hRr (fun h=>h)).four;obtain ⟨y50,y51,y52⟩:=(RB.out.keeps hRr (fun h=>h)).three;obtain ⟨y90,y91⟩:=(R9X.out.keeps hR (fun h=>h)).two;obtain ⟨y100,y101,y102,y103⟩:=(R10.out.keeps hR (fun h=>h)).four;have d2':=hRr.cell (p:=⟨g2,o2+i,none⟩) (fun h=>h) d2;have HBX:Hid (wX.heap.size <= W.heap.size):=hR.size;have HCW:=Lib.hid (HC.out W hRr);clear hR hR0 hRr d2 d3 HC;rcases (show q=0 \/ q=1 \/ q=2 \/ q=3 \/ q=4 \/ q=5 \/ q=6 \/ q=7 \/ q=8 \/ q=9 \/ q=10 \/ q=11 \/ q=12 by omega) with rfl | rfl | rfl | rfl | rfl | rfl | rfl | rfl | rfl | rfl | rfl | rfl | rfl
       all_goals (simp only [List.getElem?_cons_zero,List.getElem?_cons_succ,Option.some.injEq] at ho;subst ho;simp only [zJ,List.getElem?_cons_zero,List.getElem?_cons_succ,Option.bind_some,Option.bind,Act.put,List.setIfInBounds_toArray,List.set_cons_zero,List.set_cons_succ] at hK ⊢;clear hq)
       ·exact J3 _
       ·exact J117 _
       ·exact J3 _
       ·exact J124 _
       ·exact J3 _
       ·exact J149 _
       ·exact J142 _
       ·exact J3 _
       ·exact J3 _
       ·exact J141 _
       ·have e7:vs 7=_:=hd 7 (by kernel_rfl)
        have e9:vs 9=_:=hd 9 (by kernel_rfl);rw [e7,e9] at hK ⊢;clear hd;go_wp2_with (go_at_call 88;refine ((HCW.out).mono ?_);rintro e W1 ⟨ad2,cp2,rfl,s1,g1⟩)
        exact hK _ _ g1 ⟨ad2,cp2,rfl,s1.mono (fun k hk=>⟨Nat.le_trans HBX.out hk.1,hk.2⟩)⟩
       ·have e6:vs 6=_:=hd 6 (by kernel_rfl)
        obtain ⟨ad2,cp2,e10,h10⟩:=(hd 10 (by kernel_rfl):∃ ad2 cp2,vs 10=.slice ad2 x1 cp2 /\ zm W (Since wX.heap.size W) p ad2);have H10:=Lib.hid h10;rw [e6,e10] at hK ⊢;clear h10;clear hd;go_wp2_with fail
        exact hK _ _ (Keeps.refl _ _) ⟨ad2,cp2,rfl,H10.out⟩
       ·obtain ⟨ad2,cp2,e11,h11⟩:=(hd 11 (by kernel_rfl):∃ ad2 cp2,vs 11=.agg #[.string xNm, .slice ad2 x1 cp2] /\ zm W (Since wX.heap.size W) p ad2)
        have H11:=Lib.hid h11;rw [e11] at hK ⊢;clear h11;clear hd;go_wp2_with fail
        exact hK _ _ ((Keeps.refl _ _).alloc _) ⟨_,ad2,cp2,rfl,zC.zG (heap_alloc_new W _),(H11.out.keeps ((Keeps.refl zA W).alloc _) (fun _ _ h=>h)).mono (fun k hk=>⟨hk.1,by have:=hk.2;simp;omega⟩)⟩
      ·intro vs W2 hR0 hF
       have hR:Keeps zA wX W2:=((Keeps.refl zA wX).drew).zB hR0;have HKW:Hid (Keeps zA wr W2):=KX.out.zB hR;have HRX:=Lib.hid hR;have e1:vs 1=_:=hF 1 (by decide);obtain ⟨gs,ad2,cp2,e12,hgs,hys⟩:=(hF 12 (by decide):∃ b ad2 cp2,vs 12=.slice (some ⟨b,0,none⟩) 1 1 /\ zC W2 b [.string xNm, .slice ad2 x1 cp2] /\ zm W2 (Since wX.heap.size W2) p ad2);have HGS:=Lib.hid hgs;have HYS:=Lib.hid hys;simp only [zJ,List.getElem?_cons_zero,List.getElem?_cons_succ,Option.bind_some,Option.bind,Act.put,List.setIfInBounds_toArray,List.set_cons_zero,List.set_cons_succ,List.drop_succ_cons,List.drop_zero];rw [e1,e12];clear hF e1 e12;generalize vs 0=y0;generalize vs 2=y2;generalize vs 3=y3;generalize vs 4=y4;generalize vs 5=y5;generalize vs 6=y6;generalize vs 7=y7;generalize vs 8=y8;generalize vs 9=y9;generalize vs 10=y10;generalize vs 11=y11;clear hR hR0 hgs hys HC d2 d3;have HAW:Hid (Acc zEY (fun _=>False) B7 2 111 W2 (.slice ea i ec) (ps.take i) css):=HA.out.zD zMN HKW.out;have HLEN:Hid ((ps.take i).length=i):=by show _=_;rw [List.length_take];have:=HPS.out;omega
       have RBW:Hid (zC W2 b5 [.slice da cs.length dc, .slice ma n1 n1, .slice ea i ec]):=RB.out.keeps HKW.out (fun h=>h);have hOB:Hid (∀ q,(Value.slice ea i ec).ownBlock=some q -> B7 <= q):=HA.out.2.2.1;have i3:i+1 <= 1000000000:=by omega
       go_upto_region 13 with (at_builtin;refine zI _ (by rfl) _ _ 100 (by rfl) 0 111 j3 _ 2 40 Tryz.underlying100 hj3 hy0 hy1 hy2 rfl (by decide) (.slice ea i ec) i css.flatten (by rfl) (J176 _) (.slice (some ⟨gs,0,none⟩) 1 1) 1 [.string xNm, .slice ad2 x1 cp2] (by rfl) (zC.src HGS.out) rfl (J174 _) (by unfold maxLen;omega) (by omega) (Nat.zero_le _) ?_;intro da2 dc2 w4 ha;have HAO:=Lib.hid ha;have k4:=zi.keeps ha (Keeps.refl (fun q=>(Value.slice ea i ec).ownBlock=some q) W2) (fun q e _=>e);have r4:=RBW.out.keeps k4 (fun e=>by have:=hOB.out b5 e;have:=HB7.out;omega);have z2:=r4.cell (k:=2) (v:=.slice ea i ec) rfl;have f2:=r4.free (k:=2) (by simp);have R4W:=Lib.hid r4;have K4W:=Lib.hid k4;clear ha k4 r4)
       have hel:zEY W2 (zB6 (fun _=>False) B7 W2 (.slice ea i ec)) p [.string xNm, .slice ad2 x1 cp2]:=by
        have e:x1=p.length:=HPL.out.symm;refine ⟨ad2,cp2,by rw [e],HYS.out.mono (fun k hk=>.inr ⟨?_,hk.2,fun e=>?_⟩)⟩
        ·have h1:=hk.1;have h2:=KX.out.size;have h3:=HK.out.size;have h4:=EB7.out;omega
        ·have h0:k < wr.heap.size:=zS HA.out.2.1 e
         have h1:=hk.1;have h2:=KX.out.size;omega
       have hBW:B7 <= W2.heap.size:=by have h2:=HKW.out.size;have h3:=HK.out.size;have h4:=EB7.out;omega
       have hset:Keeps (fun q=>q=b5) w4 (w4.setCell ⟨b5,2,none⟩ (.slice da2 (i+1) dc2)):=(Keeps.refl (fun q=>q=b5) w4).setCell (p:=⟨b5,2,none⟩) (fun _=>rfl) _
       have hpush:Acc zEY (fun _=>False) B7 2 111 (w4.setCell ⟨b5,2,none⟩ (.slice da2 (i+1) dc2)) (.slice da2 (i+1) dc2) (ps.take (i+1)) (css++[[.string xNm, .slice ad2 x1 cp2]]):=by
        have h1:=HAW.out.push zMN (fun k hk=>hk.elim) hBW hel (by decide) (ad:=da2) (cap:=dc2) (w':=w4) (J200 _);rw [HLEN.out] at h1;have hltp:i < ps.length:=by have:=HPS.out;omega
        have e:ps.take (i+1)=ps.take i++[p]:=by rw [take_at hltp,HPI2.out hltp]
        rw [e];exact h1.keeps zMN hset (fun k hk=>⟨by have e':k=b5:=hk;have:=HB7.out;omega,fun h=>h⟩)
       have hrow:zC (w4.setCell ⟨b5,2,none⟩ (.slice da2 (i+1) dc2)) b5 [.slice da cs.length dc, .slice ma n1 n1, .slice da2 (i+1) dc2]:=R4W.out.set 2 (by simp) _
       have hkeep:Keeps (fun q=>q=b5) w8 (w4.setCell ⟨b5,2,none⟩ (.slice da2 (i+1) dc2)) :=
        (((HK.out.trans HKW.out (fun _ _ h=>h.elim)).trans K4W.out (fun q hq e=>by have:=hOB.out q e;have:=EB7.out;omega)).trans hset (fun _ _ h=>h))
       have HPU:=Lib.hid hpush;have HRO:=Lib.hid hrow;have HKE:=Lib.hid hkeep;clear hpush hrow hkeep hset hel hBW z2 f2;go_wp2_with fail
       go_roundw
       case rel=>exact ⟨i+1,da2,dc2,css++[[.string xNm, .slice ad2 x1 cp2]],by omega,by go_num,HRO,HPU,HKE⟩
       case measure=>simp [intOf];omega
    ·obtain rfl:i=bs.length:=by omega
     have hA:=HA.out;have e:ps.take bs.length=ps:=by rw [<- HPS.out,List.take_length]
     rw [e] at hA;have THR:Hid (zAP wr (Since B7 wr) xNm ps ea):=hA.ths (by have:=HPS.out;omega);clear hA HA;obtain ⟨y50,y51,y52⟩:=RB.out.three;have R4E:Hid (zC wr b4 [.slice none 0 0, .slice none 0 0, .slice none 0 0]):=R4.out.keeps KR.out (fun e=>ne4.out e);obtain ⟨y40,y41,y42⟩:=R4E.out.three;have f40:=R4E.out.free (k:=0) (by simp);have f41:=R4E.out.free (k:=1) (by simp);have f42:=R4E.out.free (k:=2) (by simp);go_wp2_with fail
     have hrow:zC (((wr.setCell ⟨b4,0,none⟩ (.slice da cs.length dc)).setCell ⟨b4,1,none⟩ (.slice ma n1 n1)).setCell ⟨b4,2,none⟩ (.slice ea bs.length ec)) b4 [.slice da cs.length dc, .slice ma n1 n1, .slice ea bs.length ec]:=((R4E.out.set 0 (by simp) _).set 1 (by simp) _).set 2 (by simp) _;have hks:Keeps (fun q=>q=b4) wr (((wr.setCell ⟨b4,0,none⟩ (.slice da cs.length dc)).setCell ⟨b4,1,none⟩ (.slice ma n1 n1)).setCell ⟨b4,2,none⟩ (.slice ea bs.length ec)):=(((Keeps.refl (fun q=>q=b4) wr).setCell (p:=⟨b4,0,none⟩) (fun _=>rfl) _).setCell (p:=⟨b4,1,none⟩) (fun _=>rfl) _).setCell (p:=⟨b4,2,none⟩) (fun _=>rfl) _;generalize ((wr.setCell ⟨b4,0,none⟩ (.slice da cs.length dc)).setCell ⟨b4,1,none⟩ (.slice ma n1 n1)).setCell ⟨b4,2,none⟩ (.slice ea bs.length ec)=wE at hrow hks ⊢;refine bodyPost_ret (v:=.agg #[.slice da cs.length dc, .slice ma n1 n1, .slice ea bs.length ec]) (by simp [results,Tryz.results44,go_sem,hrow.cell (k:=0) rfl,hrow.cell (k:=1) rfl,hrow.cell (k:=2) rfl]) rfl ?_
     rw [HQ.out];have hz:=HBE.out;have hz1:=HB7.out;have hz2:B7 <= wr.heap.size:=by rw [EB7.out];exact HK.out.size
     have hz3:=hks.size;have hb:∀ k,(B <= k /\ k < B7) -> Since w.heap.size wE k:=fun k hk=>⟨by omega,by omega⟩
     refine ⟨da,dc,ma,n1,ea,ec,rfl,?_,?_,?_,?_⟩
     ·exact ((CL8.out.keeps HK.out (fun k hk e=>by have e':k=b5:=e;omega)).keeps hks (fun k hk e=>by have e':k=b4:=e;omega)).mono hb
     ·exact ((MS8.out.keeps HK.out (fun k hk e=>by have e':k=b5:=e;omega)).keeps hks (fun k hk e=>by have e':k=b4:=e;omega)).mono hb
     ·exact (THR.out.keeps hks (fun k hk e=>by have e':k=b4:=e;have:=hk.1;omega)).mono (fun k hk=>⟨by have:=hk.1;omega,by have:=hk.2;omega⟩)
     ·refine ((K1.out.trans KR.out (fun q hq e=>?_):Keeps zA w wr)).trans hks (fun q hq e=>?_)
      ·have e':q=b5:=e;have:=HS.out;omega
      ·have e':q=b4:=e;have:=HS.out;omega
end Go.Proofs.YtoapgjjepiopbaaGreatDoor
