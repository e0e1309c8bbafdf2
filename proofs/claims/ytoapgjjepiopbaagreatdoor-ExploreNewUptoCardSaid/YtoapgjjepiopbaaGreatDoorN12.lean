/- Layer N: texts joined. -/
import Derived.Test.YtoapgjjepiopbaaGreatDoorN06
set_option linter.all false
set_option maxHeartbeats 4000000
set_option maxRecDepth 8000
namespace Go.Proofs.YtoapgjjepiopbaaGreatDoor
open Go.RowKit
theorem J38 (P:Prop) (h:P:=by rintro ⟨ad2,cp2,e,h1⟩;exact ⟨ad2,cp2,e,(h1.keeps hk (fun _ _ h=>h)).mono (fun k hk'=>⟨hk'.1,Nat.lt_of_lt_of_le hk'.2 hk.size⟩)⟩):P:=h
theorem J49 (P:Prop) (h:P:=by
 have H4:=Lib.hid h4;rw [e4] at hK ⊢;clear h4;clear hd;go_wp2_with fail
 exact hK _ _ ((Keeps.refl _ _).alloc _) ⟨_,ad2,cp2,rfl,zC.zG (heap_alloc_new W _),(H4.out.keeps ((Keeps.refl zA W).alloc _) (fun _ _ h=>h)).mono (fun k hk=>⟨hk.1,by have:=hk.2;simp;omega⟩)⟩):P:=h
theorem J157x11 (P:Prop) (h:P:=by rw [hb7];exact zC.zG (heap_alloc_new wr _)):P:=h
theorem J173 (P:Prop) (h:P:=by rw [hwA];exact (Keeps.refl _ _).alloc _):P:=h
theorem J180 (P:Prop) (h:P:=by rw [hw1];exact (Keeps.refl _ _).alloc _):P:=h
theorem J188 (P:Prop) (h:P:=by have h2:=HKW.out.size;have h3:=HK.out.size;have h4:=HBE.out.1;omega):P:=h
theorem J192 (P:Prop) (h:P:=by have e':q=b5:=e;have:=HNs.out q hq;have:=HS.out.2.2.2.1;omega):P:=h
theorem J196 (P:Prop) (h:P:=by have:=hOB.out q e;have:=HBE.out.1;omega):P:=h
theorem zKV:(Tryz.prog.info? 144).map (fun i=>(i.zero,i.size,i.bytes))=some (some (.agg #[.int .i64 0, .int .i64 0, .string zn, .slice none 0 0]),4,56):=by kernel_rfl
theorem Ex.zBE (regs:Int) (l:List Ex):(Ex.zQ regs l).length=l.length:=by rw [Ex.zAL];simp
theorem Ex.zLC (regs k num:Int) (nm:ByteArray) (l:List Ex):Ex.named regs (.mk k num nm l)=.mk k (if k=2 then 0 else num) (if k=2 then (if zV nm then nameAt regs num else zn) else nm) (Ex.zQ regs l):=by simp only [Ex.named]
def Since (B:Nat) (w:World) (k:Nat):Prop:=B <= k /\ k < w.heap.size
def zK4 (x:Ex):Prop:=∀ (w:World) (F N:Nat -> Prop) (ad a0 a1 a2 a3:Option Addr) (cap n0 n1 n2 n3 c0 c1 c2 c3:Nat),zR w F x.args ad -> zX w N (.slice a3 n3 c3) n3 -> (∀ k,N k -> k < w.heap.size) -> (∀ k,F k -> k < w.heap.size) -> x.cnt < 1000000000 →
 Calls Tryz.prog 143 #[.agg #[.slice a0 n0 c0, .slice a1 n1 c1, .slice a2 n2 c2, .slice a3 n3 c3],exV x ad cap] w fun e w'=>∃ ad' cap',e=.returned (exV (x.named n3) ad' cap') /\ zR w' (Since w.heap.size w') (x.named n3).args ad' /\ Keeps zA w w'
theorem zJ2 (k num:Int) (nm:ByteArray) (l:List Ex) (ih:∀ y,y ∈ l -> zK4 y):zK4 (.mk k num nm l):=by
 intro w F N ad a0 a1 a2 a3 cap n0 n1 n2 n3 c0 c1 c2 c3 h hn hNs hFs hb
 have HNs:=Lib.hid hNs;have HFs:=Lib.hid hFs;have HL:Hid (zR w F l ad):=h;have HN:=Lib.hid hn;have IH:=Lib.hid ih;have hl:=Ex.zAY l;have hcn:Ex.cnt (.mk k num nm l)=1+Ex.zM l:=by simp [Ex.cnt]
 rw [hcn] at hb;have hb2:l.length < 1000000000:=by omega
 have HB2:=Lib.hid hb;obtain ⟨num',hnum⟩:=eX ((if k=2 then 0 else num));obtain ⟨nm',hnm⟩:=eX ((if k=2 then (if zV nm then nameAt n3 num else zn) else nm));have hnamed:Ex.named n3 (.mk k num nm l)=.mk k num' nm' (Ex.zQ n3 l):=by rw [Ex.zLC,hnum,hnm]
 have HNM:=Lib.hid hnamed;obtain ⟨j0,hj0,hz0,hz1,hz2⟩:=info_parts zKV
 have HP:Hid (∀ (ad':Option Addr) (cap':Nat) (w':World),zR w' (Since w.heap.size w') (Ex.zQ n3 l) ad' -> Keeps zA w w' →
  ∃ ad'' cap'',Ending.returned (.agg #[.int .i64 k, .int .i64 num', .string nm', .slice ad' l.length cap'])=.returned (exV (Ex.named n3 (.mk k num nm l)) ad'' cap'') /\ zR w' (Since w.heap.size w') (Ex.named n3 (.mk k num nm l)).args ad'' /\ Keeps zA w w'):=by
  intro ad' cap' w' h1 h2
  rw [hnamed];refine ⟨ad',cap',?_,h1,h2⟩
  show _=Ending.returned (.agg #[.int .i64 k, .int .i64 num', .string nm', .slice ad' (Ex.zQ n3 l).length cap'])
  rw [Ex.zBE]
 obtain ⟨Q,hQ⟩:=eX (α:=Ending -> World -> Prop) (fun e w'=>∃ ad' cap',e=.returned (exV (Ex.named n3 (.mk k num nm l)) ad' cap') /\ zR w' (Since w.heap.size w') (Ex.named n3 (.mk k num nm l)).args ad' /\ Keeps zA w w');rw [<- hQ]
 have HPQ:Hid (∀ (ad':Option Addr) (cap':Nat) (w':World),zR w' (Since w.heap.size w') (Ex.zQ n3 l) ad' -> Keeps zA w w' -> Q (Ending.returned (.agg #[.int .i64 k, .int .i64 num', .string nm', .slice ad' l.length cap'])) w'):=by
  rw [hQ];exact HP.out
 clear h hn hNs hFs ih hl hcn hb hnamed HP HNM hQ;show Calls _ _ #[_, .agg #[.int .i64 k, .int .i64 num, .string nm, .slice ad l.length cap]] _ _
 go_enter Tryz.func143,Tryz.ntmps143
 go_upto_region 2 with fail
 obtain ⟨b1,hb1⟩:=eX w.heap.size;obtain ⟨b2,hb2'⟩:=eX (w.heap.size+1);obtain ⟨b4,hb4⟩:=eX (w.heap.size+1+1);obtain ⟨b5,hb5⟩:=eX (w.heap.size+1+1+1);rw [<- hb5,<- hb4,<- hb2',<- hb1];obtain ⟨wA,hwA⟩:=eX (w.alloc (.cells #[.slice a0 n0 c0, .slice a1 n1 c1, .slice a2 n2 c2, .slice a3 n3 c3] 185));obtain ⟨wB,hwB⟩:=eX (wA.alloc (.cells #[.int .i64 k, .int .i64 num, .string nm, .slice ad l.length cap] 144));obtain ⟨wC,hwC⟩:∃ z,z=wB.alloc (.cells #[.int .i64 0, .int .i64 0, .string { data:=#[] }, .slice none 0 0] 144):=⟨_,rfl⟩
 obtain ⟨w1,hw1⟩:=eX (wC.alloc (.cells #[.int .i64 k, .int .i64 num, .string nm, .slice none 0 0] 144));rw [<- hwA,<- hwB,<- hwC,<- hw1];have kA:Keeps zA w wA:=J173 _;have kB:Keeps zA wA wB:=by rw [hwB];exact (Keeps.refl _ _).alloc _
 have kC:Keeps zA wB wC:=by rw [hwC];exact (Keeps.refl _ _).alloc _
 have k1:Keeps zA wC w1:=J180 _;have sA:wA.heap.size=w.heap.size+1:=by rw [hwA];simp
 have sB:wB.heap.size=w.heap.size+1+1:=by rw [hwB];simp [sA]
 have sC:wC.heap.size=w.heap.size+1+1+1:=by rw [hwC];simp [sB]
 have s1:w1.heap.size=w.heap.size+1+1+1+1:=by rw [hw1];simp [sC]
 have r1:zC wA b1 [.slice a0 n0 c0, .slice a1 n1 c1, .slice a2 n2 c2, .slice a3 n3 c3]:=by rw [hb1,hwA];exact zC.zG (heap_alloc_new w _)
 have r2:zC wB b2 [.int .i64 k, .int .i64 num, .string nm, .slice ad l.length cap]:=by rw [hb2',<- sA,hwB];exact zC.zG (heap_alloc_new wA _)
 have r4:zC wC b4 [.int .i64 0, .int .i64 0, .string { data:=#[] }, .slice none 0 0]:=by rw [hb4,<- sB,hwC];exact zC.zG (heap_alloc_new wB _)
 have r5:zC w1 b5 [.int .i64 k, .int .i64 num, .string nm, .slice none 0 0]:=by rw [hb5,<- sC,hw1];exact zC.zG (heap_alloc_new wC _)
 have R1:Hid (zC w1 b1 [.slice a0 n0 c0, .slice a1 n1 c1, .slice a2 n2 c2, .slice a3 n3 c3]):=r1.keeps (kB.zB (kC.zB k1)) (fun h=>h);have R2:Hid (zC w1 b2 [.int .i64 k, .int .i64 num, .string nm, .slice ad l.length cap]):=r2.keeps (kC.zB k1) (fun h=>h);have R4:Hid (zC w1 b4 [.int .i64 0, .int .i64 0, .string { data:=#[] }, .slice none 0 0]):=r4.keeps k1 (fun h=>h);have R5:=Lib.hid r5;have K1:Hid (Keeps zA w w1):=kA.zB (kB.zB (kC.zB k1));have HS:Hid (w.heap.size <= b1 /\ w.heap.size <= b2 /\ w.heap.size <= b4 /\ w.heap.size <= b5 /\ b1 < w1.heap.size /\ b2 < w1.heap.size /\ b4 < w1.heap.size /\ b5 < w1.heap.size /\ b1 ≠ b5 /\ b2 ≠ b5 /\ b4 ≠ b5):=⟨by omega,by omega,by omega,by omega,by omega,by omega,by omega,by omega,by omega,by omega,by omega⟩;clear hwA hwB hwC hw1 kA kB kC k1 sA sB sC s1 r1 r2 r4 r5 hb1 hb2' hb4 hb5;obtain ⟨x10,x11,x12,x13⟩:=R1.out.four;obtain ⟨x20,x21,x22,x23⟩:=R2.out.four;obtain ⟨x50,x51,x52,x53⟩:=R5.out.four;have f51:=R5.out.free (k:=1) (by simp);have f52:=R5.out.free (k:=2) (by simp);have ne1:b1 ≠ b5:=HS.out.2.2.2.2.2.2.2.2.1;have ne2:b2 ≠ b5:=HS.out.2.2.2.2.2.2.2.2.2.1;have ne4:b4 ≠ b5:=HS.out.2.2.2.2.2.2.2.2.2.2;have HNN:Hid (zX w1 N (.slice a3 n3 c3) n3):=HN.out.keeps K1.out (fun _ _ h=>h)
 have HNC:Hid (∀ W,Keeps (fun q=>q=b5) w1 W -> Calls Tryz.prog 145 #[.slice a3 n3 c3, .int .i64 num] W fun e w'=>e=.returned (.string (nameAt n3 num)) /\ Keeps zA W w') :=
  fun W hk=>zFG _ n3 num W (HNN.out.keeps hk (fun q hq e=>by exact J192 _))
 have key:∃ nm'' num'',nm''=nm' /\ num''=num':=⟨_,_,rfl,rfl⟩
 rcases (show ¬ k=2 \/ (k=2 /\ zV nm=true) \/ (k=2 /\ zV nm=false) by cases zV nm <;> simp <;> omega) with hk2 | ⟨hk2,hnn⟩ | ⟨hk2,hnn⟩
 case' inl =>
  rw [if_neg hk2] at hnum hnm;subst hnum hnm;go_upto_region 7 with fail
  obtain ⟨w5,hw5⟩:=eX w1;have HW5:Hid (Keeps (fun q=>q=b5) w1 w5):=by show Keeps _ _ _;rw [hw5];exact Keeps.refl _ _
  have RW5:Hid (zC w5 b5 [.int .i64 k, .int .i64 num', .string nm', .slice none 0 0]):=by show zC _ _ _;rw [hw5];exact R5.out
  rw [<- hw5];clear hw5
 case' inr.inl =>
  rw [if_pos hk2] at hnum hnm;rw [if_pos hnn] at hnm;have hs1:=zAm hnn;subst hnum hnm hk2;have K51:Hid (Keeps (fun q=>q=b5) w1 (w1.setCell ⟨b5,1,none⟩ (.int .i64 0))):=(Keeps.refl (fun q=>q=b5) w1).setCell (p:=⟨b5,1,none⟩) (fun _=>rfl) _;go_upto_region 7 with (go_at_call 145;refine (HNC.out _ K51.out).mono ?_;rintro e w2 ⟨rfl,g0⟩;have g:=K51.out.trans g0 (fun _ _ h=>False.elim h);have r0:=(R5.out.set 1 (by simp) (.int .i64 0)).keeps g0 (fun h=>h);have y2:=r0.cell (k:=2) (v:=.string nm) rfl;have z2:=r0.free (k:=2) (by simp);have G:=Lib.hid g;have RR:=Lib.hid r0;clear g g0 r0)
  have HW5:Hid (Keeps (fun q=>q=b5) w1 (w2.setCell ⟨b5,2,none⟩ (.string (nameAt n3 num)))):=G.out.setCell (p:=⟨b5,2,none⟩) (fun _=>rfl) _;have RW5:Hid (zC (w2.setCell ⟨b5,2,none⟩ (.string (nameAt n3 num))) b5 [.int .i64 2, .int .i64 0, .string (nameAt n3 num), .slice none 0 0]):=RR.out.set 2 (by simp) _;generalize w2.setCell ⟨b5,2,none⟩ (.string (nameAt n3 num))=w5 at HW5 RW5 ⊢;generalize nameAt n3 num=nm' at RW5 HPQ ⊢;clear y2 z2 G RR
 case' inr.inr =>
  rw [if_pos hk2] at hnum hnm;rw [if_neg (by rw [hnn];simp)] at hnm;have hs1:=zAj hnn;have hs2:=zAc hnn;subst hnum hnm hk2;go_upto_region 7 with fail
  have HW5:Hid (Keeps (fun q=>q=b5) w1 ((w1.setCell ⟨b5,1,none⟩ (.int .i64 0)).setCell ⟨b5,2,none⟩ (.string { data:=#[] }))):=((Keeps.refl (fun q=>q=b5) w1).setCell (p:=⟨b5,1,none⟩) (fun _=>rfl) _).setCell (p:=⟨b5,2,none⟩) (fun _=>rfl) _;have RW5:Hid (zC ((w1.setCell ⟨b5,1,none⟩ (.int .i64 0)).setCell ⟨b5,2,none⟩ (.string { data:=#[] })) b5 [.int .i64 2, .int .i64 0,(.string { data:=#[] }), .slice none 0 0]):=(R5.out.set 1 (by simp) _).set 2 (by simp) _;generalize (w1.setCell ⟨b5,1,none⟩ (.int .i64 0)).setCell ⟨b5,2,none⟩ (.string { data:=#[] })=w5 at HW5 RW5 ⊢;have RW6:Hid (zC w5 b5 [.int .i64 2, .int .i64 0, .string zn, .slice none 0 0]):=RW5;clear RW5;have RW5:=RW6;clear RW6
 all_goals (
  have T:∃ kk nn mm,Hid (zC w5 b5 [.int .i64 kk, .int .i64 nn, .string mm, .slice none 0 0]) /\ Hid (∀ (ad':Option Addr) (cap':Nat) (w':World),zR w' (Since w.heap.size w') (Ex.zQ n3 l) ad' -> Keeps zA w w' -> Q (Ending.returned (.agg #[.int .i64 kk, .int .i64 nn, .string mm, .slice ad' l.length cap'])) w'):=⟨_,_,_,RW5,HPQ⟩
  obtain ⟨kk,nn,mm,RX,HPX⟩:=T;have R1X:Hid (zC w5 b1 [.slice a0 n0 c0, .slice a1 n1 c1, .slice a2 n2 c2, .slice a3 n3 c3]):=R1.out.keeps HW5.out (fun e=>ne1 e);have R2X:∃ k0 m0 s0,Hid (zC w5 b2 [.int .i64 k0, .int .i64 m0, .string s0, .slice ad l.length cap]):=⟨_,_,_,R2.out.keeps HW5.out (fun e=>ne2 e)⟩
  obtain ⟨k0,m0,s0,R2X⟩:=R2X;have R4X:Hid (zC w5 b4 [.int .i64 0, .int .i64 0, .string { data:=#[] }, .slice none 0 0]):=R4.out.keeps HW5.out (fun e=>ne4 e);have hFb:Hid (∀ q,F q -> ¬ (fun q=>q=b5) q):=fun q hq e=>by have e':q=b5:=e;have:=HFs.out q hq;have:=HS.out.2.2.2.1;omega
  have hNb:Hid (∀ q,N q -> ¬ (fun q=>q=b5) q):=fun q hq e=>by exact J192 _
  have HL5:Hid (zR w5 F l ad):=((HL.out.keeps K1.out (fun _ _ h=>h)):zR w1 F l ad).keeps HW5.out hFb.out;have HN5:Hid (zX w5 N (.slice a3 n3 c3) n3):=HNN.out.keeps HW5.out hNb.out;have hS5:=HW5.out.size;have K5:Hid (Keeps zA w w5):=K1.out.trans HW5.out (fun q hq e=>by have e':q=b5:=e;have:=HS.out.2.2.2.1;omega);obtain ⟨B,hB⟩:=eX w5.heap.size;have HBE:Hid (B=w5.heap.size /\ b1 < B /\ b2 < B /\ b4 < B /\ b5 < B /\ w.heap.size <= B):=⟨hB,by have:=HS.out;omega,by have:=HS.out;omega,by have:=HS.out;omega,by have:=HS.out;omega,by have:=K5.out.size;omega⟩;have z23:=R2X.out.cell (k:=3) (v:=.slice ad l.length cap) rfl;clear hS5 hB RW5 HPQ HNC HW5 R1 R2 R4 R5 HNN x10 x11 x12 x13 x20 x21 x22 x23 x50 x51 x52 x53 f51 f52 key K1 HL HN;go_wp2_with fail
  go_loopw [32] (fun iv wr=>∃ (i:Nat) (da:Option Addr) (dc:Nat) (css:List (List Value)),i <= l.length /\ iv=.int .i64 i /\ Hid (zC wr b5 [.int .i64 kk, .int .i64 nn, .string mm, .slice da i dc]) /\ Hid (Acc zA5 (fun _=>False) B 4 144 wr (.slice da i dc) (Ex.zQ n3 (l.take i)) css) /\ Hid (Keeps (fun q=>q=b5) w5 wr)) (fun iv _=>l.length - (intOf iv).toNat)
  case atStart=>exact ⟨0,none,0,[],Nat.zero_le _,rfl,RX,Acc.nil w5,Keeps.refl _ _⟩
  case round =>
   obtain ⟨i,da,dc,css,hi,rfl,RB,HA,HK⟩:=hrel;by_cases hlt:i < l.length
   ·have i1:(0:Int) <= i:=by omega
    have i2:(i:Int) < l.length:=by omega
    obtain ⟨g,o,a,c,e1,hg,d0,d1,d2,d3,hx⟩:=(HL5.out.keeps HK.out hFb.out).at hlt;subst e1;have hNr:=HN5.out.keeps HK.out hNb.out;have hsz:w.heap.size <= wr.heap.size:=Nat.le_trans K5.out.size HK.out.size
    have HC:Hid (∀ W,Keeps zA wr W -> Calls Tryz.prog 143 #[.agg #[.slice a0 n0 c0, .slice a1 n1 c1, .slice a2 n2 c2, .slice a3 n3 c3], .agg #[.int .i64 l[i].kind, .int .i64 l[i].num, .string l[i].nm, .slice a l[i].args.length c]] W fun e w'=>∃ ad' cap',e=.returned (exV (l[i].named n3) ad' cap') /\ zR w' (Since W.heap.size w') (l[i].named n3).args ad' /\ Keeps zA W w') :=
     fun W hk=>IH.out _ (List.getElem_mem hlt) W F N a a0 a1 a2 a3 c n0 n1 n2 n3 c0 c1 c2 c3 (hx.keeps hk (fun _ _ h=>h)) (hNr.keeps hk (fun _ _ h=>h)) (fun q hq=>Nat.lt_of_lt_of_le (HNs.out q hq) (Nat.le_trans hsz hk.size)) (fun q hq=>Nat.lt_of_lt_of_le (HFs.out q hq) (Nat.le_trans hsz hk.size)) (by have:=Ex.zBx (List.getElem_mem hlt);have:=HB2.out;omega)
    obtain ⟨y,hy⟩:=eX (l[i].named n3);have HY:=Lib.hid hy;rw [<- hy] at HC;clear hx hNr hsz hy;generalize l[i].kind=x0 at d0 HC;generalize l[i].num=x1 at d1 HC;generalize l[i].nm=x2 at d2 HC;generalize l[i].args.length=x3 at d3 HC;go_upto_region 10 with fail
    obtain ⟨b7,hb7⟩:=eX wr.heap.size;have hr7:zC (wr.alloc (.cells #[.int .i64 x0, .int .i64 x1, .string x2, .slice a x3 c] 144)) b7 [.int .i64 x0, .int .i64 x1, .string x2, .slice a x3 c]:=J157x11 _;have hk7:Keeps zA wr (wr.alloc (.cells #[.int .i64 x0, .int .i64 x1, .string x2, .slice a x3 c] 144)):=(Keeps.refl _ _).alloc _;rw [<- hb7];generalize wr.alloc (.cells #[.int .i64 x0, .int .i64 x1, .string x2, .slice a x3 c] 144)=w7 at hr7 hk7 ⊢;have R7:=Lib.hid hr7;have K7:=Lib.hid hk7;clear hr7 hk7 hb7 d0 d1 d2 d3 z23
    refine ze 6 (by kernel_rfl) (by kernel_rfl) (Keeps zA) (Keeps.refl zA) (fun a b c h h'=>Keeps.zB h h') (zA3 [some (.pointer (some ⟨b5,3,none⟩)),some (.slice da i dc),some (.agg #[.slice a0 n0 c0, .slice a1 n1 c1, .slice a2 n2 c2, .slice a3 n3 c3]),some (.agg #[.int .i64 x0, .int .i64 x1, .string x2, .slice a x3 c])] (fun j v W=>match j with
     | 4=>∃ ad2 cp2,v=.agg #[.int .i64 y.kind, .int .i64 y.num, .string y.nm, .slice ad2 y.args.length cp2] /\ zR W (Since w7.heap.size W) y.args ad2
     | _=>∃ b ad2 cp2,v=.slice (some ⟨b,0,none⟩) 1 1 /\ zC W b [.int .i64 y.kind, .int .i64 y.num, .string y.nm, .slice ad2 y.args.length cp2] /\ zR W (Since w7.heap.size W) y.args ad2)) (zA3.st (fun j v W W' h hk=>by
       revert h
       split
       ·exact J38 _
       ·rintro ⟨b,ad2,cp2,e,h0,h1⟩;exact ⟨b,ad2,cp2,e,h0.keeps hk (fun h=>h),(h1.keeps hk (fun _ _ h=>h)).mono (fun k hk'=>⟨hk'.1,Nat.lt_of_lt_of_le hk'.2 hk.size⟩)⟩)) ?_ ?_
    ·intro q oo hq ho vs W Q' hR0 hd hK
     have hR:Keeps zA w7 W:=((Keeps.refl zA w7).drew).zB hR0;have hRr:Keeps zA wr W:=K7.out.zB hR;obtain ⟨y10,y11,y12,y13⟩:=((R1X.out.keeps HK.out (fun e=>ne1 e)).keeps hRr (fun h=>h)).four;obtain ⟨y50,y51,y52,y53⟩:=(RB.out.keeps hRr (fun h=>h)).four;obtain ⟨y70,y71,y72,y73⟩:=(R7.out.keeps hR (fun h=>h)).four;have HCW:=Lib.hid (HC.out W hRr);clear hRr HC hR0;rcases (show q=0 \/ q=1 \/ q=2 \/ q=3 \/ q=4 \/ q=5 by omega) with rfl | rfl | rfl | rfl | rfl | rfl
     all_goals (simp only [List.getElem?_cons_zero,List.getElem?_cons_succ,Option.some.injEq] at ho;subst ho;simp only [zJ,List.getElem?_cons_zero,List.getElem?_cons_succ,Option.bind_some,Option.bind,Act.put,List.setIfInBounds_toArray,List.set_cons_zero,List.set_cons_succ] at hK ⊢;clear hq)
     ·exact J3 _
     ·exact J117 _
     ·exact J3 _
     ·exact J3 _
     ·have e2:vs 2=_:=hd 2 (by kernel_rfl)
      have e3:vs 3=_:=hd 3 (by kernel_rfl);rw [e2,e3] at hK ⊢;have HB7:Hid (w7.heap.size <= W.heap.size):=hR.size;clear hR;clear hd;go_wp2_with (go_at_call 143;refine (HCW.out.mono ?_);rintro e W1 ⟨ad2,cp2,rfl,s1,g1⟩)
      exact hK _ _ g1 ⟨ad2,cp2,rfl,s1.mono (fun k hk=>⟨Nat.le_trans HB7.out hk.1,hk.2⟩)⟩
     ·obtain ⟨ad2,cp2,e4,h4⟩:=(hd 4 (by kernel_rfl):∃ ad2 cp2,vs 4=.agg #[.int .i64 y.kind, .int .i64 y.num, .string y.nm, .slice ad2 y.args.length cp2] /\ zR W (fun k=>w7.heap.size <= k /\ k < W.heap.size) y.args ad2)
      exact J49 _
    ·intro vs W hR0 hF
     have hR:Keeps zA w7 W:=((Keeps.refl zA w7).drew).zB hR0;have HRW:=Lib.hid hR;have HKW:Hid (Keeps zA wr W):=K7.out.zB hR;have e1:vs 1=_:=hF 1 (by decide);obtain ⟨gs,ad2,cp2,e5,hgs,hys⟩:=(hF 5 (by decide):∃ b ad2 cp2,vs 5=.slice (some ⟨b,0,none⟩) 1 1 /\ zC W b [.int .i64 y.kind, .int .i64 y.num, .string y.nm, .slice ad2 y.args.length cp2] /\ zR W (Since w7.heap.size W) y.args ad2);have HGS:=Lib.hid hgs;have HYS:=Lib.hid hys;simp only [zJ,List.getElem?_cons_zero,List.getElem?_cons_succ,Option.bind_some,Option.bind,Act.put,List.setIfInBounds_toArray,List.set_cons_zero,List.set_cons_succ,List.drop_succ_cons,List.drop_zero];rw [e1,e5];clear hF e1 e5;generalize vs 0=y0;generalize vs 2=y2;generalize vs 3=y3;generalize vs 4=y4;clear hR hR0 hgs hys HC;have HAW:Hid (Acc zA5 (fun _=>False) B 4 144 W (.slice da i dc) (Ex.zQ n3 (l.take i)) css):=HA.out.zD zMV HKW.out;have HLEN:Hid ((Ex.zQ n3 (l.take i)).length=i):=by show _=_;rw [Ex.zBE,List.length_take];omega
     have RBW:Hid (zC W b5 [.int .i64 kk, .int .i64 nn, .string mm, .slice da i dc]):=RB.out.keeps HKW.out (fun h=>h);have hOB:Hid (∀ q,(Value.slice da i dc).ownBlock=some q -> B <= q):=HA.out.2.2.1;have i3:i+1 <= 1000000000:=by omega
     go_upto_region 11 with (at_builtin;refine zI _ (by rfl) _ _ 142 (by rfl) 0 144 j0 _ 4 56 Tryz.underlying142 hj0 hz0 hz1 hz2 rfl (by decide) (.slice da i dc) i css.flatten (by rfl) (J176 _) (.slice (some ⟨gs,0,none⟩) 1 1) 1 [.int .i64 y.kind, .int .i64 y.num, .string y.nm, .slice ad2 y.args.length cp2] (by rfl) (zC.src HGS.out) rfl (J161 _) (by unfold maxLen;omega) (by omega) (Nat.zero_le _) ?_;intro da2 dc2 w4 ha;have HAO:=Lib.hid ha;have k4:=zi.keeps ha (Keeps.refl (fun q=>(Value.slice da i dc).ownBlock=some q) W) (fun q e _=>e);have r4:=RBW.out.keeps k4 (fun e=>by have:=hOB.out b5 e;have:=HBE.out;omega);have z3:=r4.cell (k:=3) (v:=.slice da i dc) rfl;have f3:=r4.free (k:=3) (by simp);have R4W:=Lib.hid r4;have K4W:=Lib.hid k4;clear ha k4 r4)
     have hel:zA5 W (zB6 (fun _=>False) B W (.slice da i dc)) y [.int .i64 y.kind, .int .i64 y.num, .string y.nm, .slice ad2 y.args.length cp2]:=by
      refine zA5.zI4 (HYS.out.mono (fun k hk=>.inr ⟨?_,hk.2,fun e=>?_⟩))
      ·have h1:=hk.1;have h2:=K7.out.size;have h3:=HK.out.size;have h4:=HBE.out.1;omega
      ·have h0:k < wr.heap.size:=zS HA.out.2.1 e
       have h1:=hk.1;have h2:=K7.out.size;omega
     have hBW:B <= W.heap.size:=J188 _;have hset:Keeps (fun q=>q=b5) w4 (w4.setCell ⟨b5,3,none⟩ (.slice da2 (i+1) dc2)):=(Keeps.refl (fun q=>q=b5) w4).setCell (p:=⟨b5,3,none⟩) (fun _=>rfl) _
     have hpush:Acc zA5 (fun _=>False) B 4 144 (w4.setCell ⟨b5,3,none⟩ (.slice da2 (i+1) dc2)) (.slice da2 (i+1) dc2) (Ex.zQ n3 (l.take (i+1))) (css++[[.int .i64 y.kind, .int .i64 y.num, .string y.nm, .slice ad2 y.args.length cp2]]):=by
      have h1:=HAW.out.push zMV (fun k hk=>hk.elim) hBW hel (by decide) (ad:=da2) (cap:=dc2) (w':=w4) (J200 _);rw [HLEN.out] at h1;have e:Ex.zQ n3 (l.take (i+1))=Ex.zQ n3 (l.take i)++[y]:=by rw [Ex.zAL,Ex.zAL,take_at hlt,List.map_append,HY.out];rfl
      rw [e];exact h1.keeps zMV hset (fun k hk=>⟨by have e':k=b5:=hk;have:=HBE.out;omega,fun h=>h⟩)
     have hrow:zC (w4.setCell ⟨b5,3,none⟩ (.slice da2 (i+1) dc2)) b5 [.int .i64 kk, .int .i64 nn, .string mm, .slice da2 (i+1) dc2]:=R4W.out.set 3 (by simp) _
     have hkeep:Keeps (fun q=>q=b5) w5 (w4.setCell ⟨b5,3,none⟩ (.slice da2 (i+1) dc2)) :=
      (((HK.out.trans HKW.out (fun _ _ h=>h.elim)).trans K4W.out (fun q hq e=>by exact J196 _)).trans hset (fun _ _ h=>h))
     have HPU:=Lib.hid hpush;have HRO:=Lib.hid hrow;have HKE:=Lib.hid hkeep;clear hpush hrow hkeep hset hel hBW z3 f3;go_wp2_with fail
     go_roundw
     case rel=>exact ⟨i+1,da2,dc2,css++[[.int .i64 y.kind, .int .i64 y.num, .string y.nm, .slice ad2 y.args.length cp2]],by omega,by go_num,HRO,HPU,HKE⟩
     case measure=>simp [intOf];omega
   ·obtain rfl:i=l.length:=by omega
    obtain ⟨y50,y51,y52,y53⟩:=RB.out.four;have R4E:Hid (zC wr b4 [.int .i64 0, .int .i64 0, .string { data:=#[] }, .slice none 0 0]):=R4X.out.keeps HK.out (fun e=>ne4 e);obtain ⟨y40,y41,y42,y43⟩:=R4E.out.four;have f40:=R4E.out.free (k:=0) (by simp);have f41:=R4E.out.free (k:=1) (by simp);have f42:=R4E.out.free (k:=2) (by simp);have f43:=R4E.out.free (k:=3) (by simp);clear z23;go_wp2_with fail
    have hrow:zC ((((wr.setCell ⟨b4,0,none⟩ (.int .i64 kk)).setCell ⟨b4,1,none⟩ (.int .i64 nn)).setCell ⟨b4,2,none⟩ (.string mm)).setCell ⟨b4,3,none⟩ (.slice da l.length dc)) b4 [.int .i64 kk, .int .i64 nn, .string mm, .slice da l.length dc]:=(((R4E.out.set 0 (by simp) _).set 1 (by simp) _).set 2 (by simp) _).set 3 (by simp) _;have hks:Keeps (fun q=>q=b4) wr ((((wr.setCell ⟨b4,0,none⟩ (.int .i64 kk)).setCell ⟨b4,1,none⟩ (.int .i64 nn)).setCell ⟨b4,2,none⟩ (.string mm)).setCell ⟨b4,3,none⟩ (.slice da l.length dc)):=((((Keeps.refl (fun q=>q=b4) wr).setCell (p:=⟨b4,0,none⟩) (fun _=>rfl) _).setCell (p:=⟨b4,1,none⟩) (fun _=>rfl) _).setCell (p:=⟨b4,2,none⟩) (fun _=>rfl) _).setCell (p:=⟨b4,3,none⟩) (fun _=>rfl) _;generalize (((wr.setCell ⟨b4,0,none⟩ (.int .i64 kk)).setCell ⟨b4,1,none⟩ (.int .i64 nn)).setCell ⟨b4,2,none⟩ (.string mm)).setCell ⟨b4,3,none⟩ (.slice da l.length dc)=wE at hrow hks ⊢;refine bodyPost_ret (v:=.agg #[.int .i64 kk, .int .i64 nn, .string mm, .slice da l.length dc]) (by simp [results,Tryz.results143,go_sem,hrow.cell (k:=0) rfl,hrow.cell (k:=1) rfl,hrow.cell (k:=2) rfl,hrow.cell (k:=3) rfl]) rfl ?_
    refine HPX.out da dc wE ?_ ?_
    ·have hA:=HA.out
     rw [List.take_length] at hA;obtain ⟨h1,h2⟩:=hA.elems zMV (ad:=da) (n:=l.length) (cap:=dc) rfl;have h3:zR wr (fun k=>False \/ (B <= k /\ k < wr.heap.size)) (Ex.zQ n3 l) da:=⟨_,h1,h2⟩;refine (h3.keeps hks (fun k hk e=>?_)).mono (fun k hk=>?_)
     ·have e':k=b4:=e
      rcases hk with hk | hk
      ·exact hk
      ·have:=HBE.out;omega
     ·rcases hk with hk | hk
      ·exact hk.elim
      ·exact ⟨by have:=HBE.out;omega,Nat.lt_of_lt_of_le hk.2 hks.size⟩
    ·refine ((K5.out.trans HK.out (fun q hq e=>?_):Keeps zA w wr)).trans hks (fun q hq e=>?_)
     ·have e':q=b5:=e;have:=HS.out;omega
     ·have e':q=b4:=e;have:=HS.out;omega)
theorem zOd (x:Ex):zK4 x:=Ex.ind (fun k n s l ih=>zJ2 k n s l ih) x
end Go.Proofs.YtoapgjjepiopbaaGreatDoor
