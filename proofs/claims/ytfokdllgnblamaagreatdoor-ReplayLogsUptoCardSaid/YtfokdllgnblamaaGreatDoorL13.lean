/- Layer L: texts joined. -/
import Derived.Test.YtfokdllgnblamaaGreatDoorL06
set_option linter.all false
set_option maxHeartbeats 4000000
set_option maxRecDepth 8000
namespace Go.Proofs.YtfokdllgnblamaaGreatDoor
open Go.RowKit
theorem J35 (P:Prop) (h:P:=by rintro ⟨ad2,cp2,e,h1⟩;exact ⟨ad2,cp2,e,(h1.keeps hk (fun _ _ h=>h)).mono (fun k hk'=>⟨hk'.1,yI hk'.2 hk.size⟩)⟩):P:=h
theorem J43 (P:Prop) (h:P:=by
 by_cases e:j=i
 ·subst e;rw [if_pos rfl];exact hF'
 ·rw [if_neg e]
  rw [uF true (fun h=>e h.symm)] at hl;refine hloc _ _ gs _ _ (fun b hb=>?_) (hst j _ _ _ _ (hF j hj hl) hR')
  have h1:=hL j hj hl b hb;have h2:b ≠ i:=fun e=>by subst e;rw [hun] at h1;cases h1
  exact (if_neg h2).symm):P:=h
theorem J47 (P:Prop) (h:P:=by
 have H4:=yA h4;rw [e4] at hK ⊢;clear h4;clear hd;go_wp2_with fail
 exact hK _ _ ((yB _ _).alloc _) ⟨_,ad2,cp2,rfl,yM (yG W _),(H4.out.keeps ((yB zA W).alloc _) (fun _ _ h=>h)).mono (fun k hk=>⟨hk.1,by have:=hk.2;simp;omega⟩)⟩):P:=h
theorem J100 (P:Prop) (h:P:=by
 have h5:e.on < listed.size:=by rw [inv.size];simp;omega
 exact hL e.on (by omega) (by simpa [h5] using h4) b h3):P:=h
theorem J156x12 (P:Prop) (h:P:=by rw [hb7];exact yM (yG wr _)):P:=h
theorem J174 (P:Prop) (h:P:=by rw [hwA];exact (yB _ _).alloc _):P:=h
theorem J185 (P:Prop) (h:P:=by rw [hw1];exact (yB _ _).alloc _):P:=h
theorem J195 (P:Prop) (h:P:=by have h2:=HKW.out.size;have h3:=HK.out.size;have h4:=HBE.out.1;omega):P:=h
theorem J196 (P:Prop) (h:P:=by have e':q=b5:=e;have:=HNs.out q hq;have:=HS.out.2.2.2.1;omega):P:=h
theorem J200 (P:Prop) (h:P:=by have:=hOB.out q e;have:=HBE.out.1;omega):P:=h
theorem zIE:(Tryz.prog.info? 65).map (fun i=>(i.zero,i.size,i.bytes))=some (some (.agg #[.int .i64 0, .int .i64 0, .string zu, .slice none 0 0]),4,56):=by kernel_rfl
theorem Ex.zBb (regs:Int) (l:List Ex):(Ex.zO regs l).length=l.length:=by rw [Ex.zAX];simp
theorem Ex.zLE (regs k num:Int) (nm:ByteArray) (l:List Ex):Ex.named regs (.mk k num nm l)=.mk k (if k=2 then 0 else num) (if k=2 then (if zW nm then nameAt regs num else zu) else nm) (Ex.zO regs l):=by simp only [Ex.named]
def Since (B:Nat) (w:World) (k:Nat):Prop:=B <= k /\ k < w.heap.size
def zME (x:Ex):Prop:=∀ (w:World) (F N:Nat -> Prop) (ad a0 a1 a2 a3:Option Addr) (cap n0 n1 n2 n3 c0 c1 c2 c3:Nat),zQ w F x.args ad -> zZ w N (.slice a3 n3 c3) n3 -> (∀ k,N k -> k < w.heap.size) -> (∀ k,F k -> k < w.heap.size) -> x.cnt < 1000000000 →
 Calls Tryz.prog 136 #[.agg #[.slice a0 n0 c0, .slice a1 n1 c1, .slice a2 n2 c2, .slice a3 n3 c3],exV x ad cap] w fun e w'=>∃ ad' cap',e=.returned (exV (x.named n3) ad' cap') /\ zQ w' (Since w.heap.size w') (x.named n3).args ad' /\ Keeps zA w w'
theorem zL7 (k num:Int) (nm:ByteArray) (l:List Ex) (ih:∀ y,y ∈ l -> zME y):zME (.mk k num nm l):=by
 intro w F N ad a0 a1 a2 a3 cap n0 n1 n2 n3 c0 c1 c2 c3 h hn hNs hFs hb
 have HNs:=yA hNs;have HFs:=yA hFs;have HL:Hid (zQ w F l ad):=h;have HN:=yA hn;have IH:=yA ih;have hl:=Ex.zAg l;have hcn:Ex.cnt (.mk k num nm l)=1+Ex.zY l:=by simp [Ex.cnt]
 rw [hcn] at hb;have hb2:l.length < 1000000000:=by omega
 have HB2:=yA hb;obtain ⟨num',hnum⟩:∃ z,z=(if k=2 then 0 else num):=⟨_,rfl⟩
 obtain ⟨nm',hnm⟩:∃ z,z=(if k=2 then (if zW nm then nameAt n3 num else zu) else nm):=⟨_,rfl⟩
 have hnamed:Ex.named n3 (.mk k num nm l)=.mk k num' nm' (Ex.zO n3 l):=by rw [Ex.zLE,hnum,hnm]
 have HNM:=yA hnamed;obtain ⟨j0,hj0,hz0,hz1,hz2⟩:=info_parts zIE
 have HP:Hid (∀ (ad':Option Addr) (cap':Nat) (w':World),zQ w' (Since w.heap.size w') (Ex.zO n3 l) ad' -> Keeps zA w w' →
  ∃ ad'' cap'',Ending.returned (.agg #[.int .i64 k, .int .i64 num', .string nm', .slice ad' l.length cap'])=.returned (exV (Ex.named n3 (.mk k num nm l)) ad'' cap'') /\ zQ w' (Since w.heap.size w') (Ex.named n3 (.mk k num nm l)).args ad'' /\ Keeps zA w w'):=by
  intro ad' cap' w' h1 h2
  rw [hnamed];refine ⟨ad',cap',?_,h1,h2⟩
  show _=Ending.returned (.agg #[.int .i64 k, .int .i64 num', .string nm', .slice ad' (Ex.zO n3 l).length cap'])
  rw [Ex.zBb]
 obtain ⟨Q,hQ⟩:∃ Q:Ending -> World -> Prop,Q=fun e w'=>∃ ad' cap',e=.returned (exV (Ex.named n3 (.mk k num nm l)) ad' cap') /\ zQ w' (Since w.heap.size w') (Ex.named n3 (.mk k num nm l)).args ad' /\ Keeps zA w w':=⟨_,rfl⟩
 rw [<- hQ]
 have HPQ:Hid (∀ (ad':Option Addr) (cap':Nat) (w':World),zQ w' (Since w.heap.size w') (Ex.zO n3 l) ad' -> Keeps zA w w' -> Q (Ending.returned (.agg #[.int .i64 k, .int .i64 num', .string nm', .slice ad' l.length cap'])) w'):=by
  rw [hQ];exact HP.out
 clear h hn hNs hFs ih hl hcn hb hnamed HP HNM hQ;show Calls _ _ #[_, .agg #[.int .i64 k, .int .i64 num, .string nm, .slice ad l.length cap]] _ _
 go_enter Tryz.func136,Tryz.ntmps136
 go_upto_region 2 with fail
 obtain ⟨b1,hb1⟩:∃ z,z=w.heap.size:=⟨_,rfl⟩
 obtain ⟨b2,hb2'⟩:∃ z,z=w.heap.size+1:=⟨_,rfl⟩
 obtain ⟨b4,hb4⟩:∃ z,z=w.heap.size+1+1:=⟨_,rfl⟩
 obtain ⟨b5,hb5⟩:∃ z,z=w.heap.size+1+1+1:=⟨_,rfl⟩
 rw [<- hb5,<- hb4,<- hb2',<- hb1];obtain ⟨wA,hwA⟩:∃ z,z=w.alloc (.cells #[.slice a0 n0 c0, .slice a1 n1 c1, .slice a2 n2 c2, .slice a3 n3 c3] 204):=⟨_,rfl⟩
 obtain ⟨wB,hwB⟩:∃ z,z=wA.alloc (.cells #[.int .i64 k, .int .i64 num, .string nm, .slice ad l.length cap] 65):=⟨_,rfl⟩
 obtain ⟨wC,hwC⟩:∃ z,z=wB.alloc (.cells #[.int .i64 0, .int .i64 0, .string { data:=#[] }, .slice none 0 0] 65):=⟨_,rfl⟩
 obtain ⟨w1,hw1⟩:∃ z,z=wC.alloc (.cells #[.int .i64 k, .int .i64 num, .string nm, .slice none 0 0] 65):=⟨_,rfl⟩
 rw [<- hwA,<- hwB,<- hwC,<- hw1];have kA:Keeps zA w wA:=J174 _;have kB:Keeps zA wA wB:=by rw [hwB];exact (yB _ _).alloc _
 have kC:Keeps zA wB wC:=by rw [hwC];exact (yB _ _).alloc _
 have k1:Keeps zA wC w1:=J185 _;have sA:wA.heap.size=w.heap.size+1:=by rw [hwA];simp
 have sB:wB.heap.size=w.heap.size+1+1:=by rw [hwB];simp [sA]
 have sC:wC.heap.size=w.heap.size+1+1+1:=by rw [hwC];simp [sB]
 have s1:w1.heap.size=w.heap.size+1+1+1+1:=by rw [hw1];simp [sC]
 have r1:zC wA b1 [.slice a0 n0 c0, .slice a1 n1 c1, .slice a2 n2 c2, .slice a3 n3 c3]:=by rw [hb1,hwA];exact yM (yG w _)
 have r2:zC wB b2 [.int .i64 k, .int .i64 num, .string nm, .slice ad l.length cap]:=by rw [hb2',<- sA,hwB];exact yM (yG wA _)
 have r4:zC wC b4 [.int .i64 0, .int .i64 0, .string { data:=#[] }, .slice none 0 0]:=by rw [hb4,<- sB,hwC];exact yM (yG wB _)
 have r5:zC w1 b5 [.int .i64 k, .int .i64 num, .string nm, .slice none 0 0]:=by rw [hb5,<- sC,hw1];exact yM (yG wC _)
 have R1:Hid (zC w1 b1 [.slice a0 n0 c0, .slice a1 n1 c1, .slice a2 n2 c2, .slice a3 n3 c3]):=r1.keeps (kB.zB (kC.zB k1)) (fun h=>h);have R2:Hid (zC w1 b2 [.int .i64 k, .int .i64 num, .string nm, .slice ad l.length cap]):=r2.keeps (kC.zB k1) (fun h=>h);have R4:Hid (zC w1 b4 [.int .i64 0, .int .i64 0, .string { data:=#[] }, .slice none 0 0]):=r4.keeps k1 (fun h=>h);have R5:=yA r5;have K1:Hid (Keeps zA w w1):=kA.zB (kB.zB (kC.zB k1));have HS:Hid (w.heap.size <= b1 /\ w.heap.size <= b2 /\ w.heap.size <= b4 /\ w.heap.size <= b5 /\ b1 < w1.heap.size /\ b2 < w1.heap.size /\ b4 < w1.heap.size /\ b5 < w1.heap.size /\ b1 ≠ b5 /\ b2 ≠ b5 /\ b4 ≠ b5):=⟨by omega,by omega,by omega,by omega,by omega,by omega,by omega,by omega,by omega,by omega,by omega⟩;clear hwA hwB hwC hw1 kA kB kC k1 sA sB sC s1 r1 r2 r4 r5 hb1 hb2' hb4 hb5;obtain ⟨x10,x11,x12,x13⟩:=R1.out.four;obtain ⟨x20,x21,x22,x23⟩:=R2.out.four;obtain ⟨x50,x51,x52,x53⟩:=R5.out.four;have f51:=R5.out.free (k:=1) (by simp);have f52:=R5.out.free (k:=2) (by simp);have ne1:b1 ≠ b5:=HS.out.2.2.2.2.2.2.2.2.1;have ne2:b2 ≠ b5:=HS.out.2.2.2.2.2.2.2.2.2.1;have ne4:b4 ≠ b5:=HS.out.2.2.2.2.2.2.2.2.2.2;have HNN:Hid (zZ w1 N (.slice a3 n3 c3) n3):=HN.out.keeps K1.out (fun _ _ h=>h)
 have HNC:Hid (∀ W,Keeps (fun q=>q=b5) w1 W -> Calls Tryz.prog 138 #[.slice a3 n3 c3, .int .i64 num] W fun e w'=>e=.returned (.string (nameAt n3 num)) /\ Keeps zA W w') :=
  fun W hk=>zFa _ n3 num W (HNN.out.keeps hk (fun q hq e=>by exact J196 _))
 have key:∃ nm'' num'',nm''=nm' /\ num''=num':=⟨_,_,rfl,rfl⟩
 rcases (show ¬ k=2 \/ (k=2 /\ zW nm=true) \/ (k=2 /\ zW nm=false) by cases zW nm <;> simp <;> omega) with hk2 | ⟨hk2,hnn⟩ | ⟨hk2,hnn⟩
 case' inl =>
  rw [if_neg hk2] at hnum hnm;subst hnum hnm;go_upto_region 7 with fail
  obtain ⟨w5,hw5⟩:∃ z,z=w1:=⟨_,rfl⟩
  have HW5:Hid (Keeps (fun q=>q=b5) w1 w5):=by show Keeps _ _ _;rw [hw5];exact yB _ _
  have RW5:Hid (zC w5 b5 [.int .i64 k, .int .i64 num', .string nm', .slice none 0 0]):=by show zC _ _ _;rw [hw5];exact R5.out
  rw [<- hw5];clear hw5
 case' inr.inl =>
  rw [if_pos hk2] at hnum hnm;rw [if_pos hnn] at hnm;have hs1:=zA5 hnn;subst hnum hnm hk2;have K51:Hid (Keeps (fun q=>q=b5) w1 (w1.setCell ⟨b5,1,none⟩ (.int .i64 0))):=(yB (fun q=>q=b5) w1).setCell (p:=⟨b5,1,none⟩) (fun _=>rfl) _;go_upto_region 7 with (go_at_call 138;refine (HNC.out _ K51.out).mono ?_;rintro e w2 ⟨rfl,g0⟩;have g:=K51.out.trans g0 (fun _ _ h=>False.elim h);have r0:=(R5.out.set 1 (by simp) (.int .i64 0)).keeps g0 (fun h=>h);have y2:=r0.cell (k:=2) (v:=.string nm) rfl;have z2:=r0.free (k:=2) (by simp);have G:=yA g;have RR:=yA r0;clear g g0 r0)
  have HW5:Hid (Keeps (fun q=>q=b5) w1 (w2.setCell ⟨b5,2,none⟩ (.string (nameAt n3 num)))):=G.out.setCell (p:=⟨b5,2,none⟩) (fun _=>rfl) _;have RW5:Hid (zC (w2.setCell ⟨b5,2,none⟩ (.string (nameAt n3 num))) b5 [.int .i64 2, .int .i64 0, .string (nameAt n3 num), .slice none 0 0]):=RR.out.set 2 (by simp) _;generalize w2.setCell ⟨b5,2,none⟩ (.string (nameAt n3 num))=w5 at HW5 RW5 ⊢;generalize nameAt n3 num=nm' at RW5 HPQ ⊢;clear y2 z2 G RR
 case' inr.inr =>
  rw [if_pos hk2] at hnum hnm;rw [if_neg (by rw [hnn];simp)] at hnm;have hs1:=zA6 hnn;have hs2:=zA2 hnn;subst hnum hnm hk2;go_upto_region 7 with fail
  have HW5:Hid (Keeps (fun q=>q=b5) w1 ((w1.setCell ⟨b5,1,none⟩ (.int .i64 0)).setCell ⟨b5,2,none⟩ (.string { data:=#[] }))):=((yB (fun q=>q=b5) w1).setCell (p:=⟨b5,1,none⟩) (fun _=>rfl) _).setCell (p:=⟨b5,2,none⟩) (fun _=>rfl) _;have RW5:Hid (zC ((w1.setCell ⟨b5,1,none⟩ (.int .i64 0)).setCell ⟨b5,2,none⟩ (.string { data:=#[] })) b5 [.int .i64 2, .int .i64 0,(.string { data:=#[] }), .slice none 0 0]):=(R5.out.set 1 (by simp) _).set 2 (by simp) _;generalize (w1.setCell ⟨b5,1,none⟩ (.int .i64 0)).setCell ⟨b5,2,none⟩ (.string { data:=#[] })=w5 at HW5 RW5 ⊢;have RW6:Hid (zC w5 b5 [.int .i64 2, .int .i64 0, .string zu, .slice none 0 0]):=RW5;clear RW5;have RW5:=RW6;clear RW6
 all_goals (
  have T:∃ kk nn mm,Hid (zC w5 b5 [.int .i64 kk, .int .i64 nn, .string mm, .slice none 0 0]) /\ Hid (∀ (ad':Option Addr) (cap':Nat) (w':World),zQ w' (Since w.heap.size w') (Ex.zO n3 l) ad' -> Keeps zA w w' -> Q (Ending.returned (.agg #[.int .i64 kk, .int .i64 nn, .string mm, .slice ad' l.length cap'])) w'):=⟨_,_,_,RW5,HPQ⟩
  obtain ⟨kk,nn,mm,RX,HPX⟩:=T;have R1X:Hid (zC w5 b1 [.slice a0 n0 c0, .slice a1 n1 c1, .slice a2 n2 c2, .slice a3 n3 c3]):=R1.out.keeps HW5.out (fun e=>ne1 e);have R2X:∃ k0 m0 s0,Hid (zC w5 b2 [.int .i64 k0, .int .i64 m0, .string s0, .slice ad l.length cap]):=⟨_,_,_,R2.out.keeps HW5.out (fun e=>ne2 e)⟩
  obtain ⟨k0,m0,s0,R2X⟩:=R2X;have R4X:Hid (zC w5 b4 [.int .i64 0, .int .i64 0, .string { data:=#[] }, .slice none 0 0]):=R4.out.keeps HW5.out (fun e=>ne4 e);have hFb:Hid (∀ q,F q -> ¬ (fun q=>q=b5) q):=fun q hq e=>by have e':q=b5:=e;have:=HFs.out q hq;have:=HS.out.2.2.2.1;omega
  have hNb:Hid (∀ q,N q -> ¬ (fun q=>q=b5) q):=fun q hq e=>by exact J196 _
  have HL5:Hid (zQ w5 F l ad):=((HL.out.keeps K1.out (fun _ _ h=>h)):zQ w1 F l ad).keeps HW5.out hFb.out;have HN5:Hid (zZ w5 N (.slice a3 n3 c3) n3):=HNN.out.keeps HW5.out hNb.out;have hS5:=HW5.out.size;have K5:Hid (Keeps zA w w5):=K1.out.trans HW5.out (fun q hq e=>by have e':q=b5:=e;have:=HS.out.2.2.2.1;omega);obtain ⟨B,hB⟩:∃ B,B=w5.heap.size:=⟨_,rfl⟩
  have HBE:Hid (B=w5.heap.size /\ b1 < B /\ b2 < B /\ b4 < B /\ b5 < B /\ w.heap.size <= B):=⟨hB,by have:=HS.out;omega,by have:=HS.out;omega,by have:=HS.out;omega,by have:=HS.out;omega,by have:=K5.out.size;omega⟩;have z23:=R2X.out.cell (k:=3) (v:=.slice ad l.length cap) rfl;clear hS5 hB RW5 HPQ HNC HW5 R1 R2 R4 R5 HNN x10 x11 x12 x13 x20 x21 x22 x23 x50 x51 x52 x53 f51 f52 key K1 HL HN;go_wp2_with fail
  go_loopw [32] (fun iv wr=>∃ (i:Nat) (da:Option Addr) (dc:Nat) (css:List (List Value)),i <= l.length /\ iv=.int .i64 i /\ Hid (zC wr b5 [.int .i64 kk, .int .i64 nn, .string mm, .slice da i dc]) /\ Hid (Acc zBC (fun _=>False) B 4 65 wr (.slice da i dc) (Ex.zO n3 (l.take i)) css) /\ Hid (Keeps (fun q=>q=b5) w5 wr)) (fun iv _=>l.length - (intOf iv).toNat)
  case atStart=>exact ⟨0,none,0,[],yH _,rfl,RX,Acc.nil w5,yB _ _⟩
  case round =>
   obtain ⟨i,da,dc,css,hi,rfl,RB,HA,HK⟩:=hrel;by_cases hlt:i < l.length
   ·have i1:(0:Int) <= i:=by omega
    have i2:(i:Int) < l.length:=by omega
    obtain ⟨g,o,a,c,e1,hg,d0,d1,d2,d3,hx⟩:=(HL5.out.keeps HK.out hFb.out).at hlt;subst e1;have hNr:=HN5.out.keeps HK.out hNb.out;have hsz:w.heap.size <= wr.heap.size:=yU K5.out.size HK.out.size
    have HC:Hid (∀ W,Keeps zA wr W -> Calls Tryz.prog 136 #[.agg #[.slice a0 n0 c0, .slice a1 n1 c1, .slice a2 n2 c2, .slice a3 n3 c3], .agg #[.int .i64 l[i].kind, .int .i64 l[i].num, .string l[i].nm, .slice a l[i].args.length c]] W fun e w'=>∃ ad' cap',e=.returned (exV (l[i].named n3) ad' cap') /\ zQ w' (Since W.heap.size w') (l[i].named n3).args ad' /\ Keeps zA W w') :=
     fun W hk=>IH.out _ (yL hlt) W F N a a0 a1 a2 a3 c n0 n1 n2 n3 c0 c1 c2 c3 (hx.keeps hk (fun _ _ h=>h)) (hNr.keeps hk (fun _ _ h=>h)) (fun q hq=>yI (HNs.out q hq) (yU hsz hk.size)) (fun q hq=>yI (HFs.out q hq) (yU hsz hk.size)) (by have:=Ex.zB6 (yL hlt);have:=HB2.out;omega)
    obtain ⟨y,hy⟩:∃ y,y=l[i].named n3:=⟨_,rfl⟩
    have HY:=yA hy;rw [<- hy] at HC;clear hx hNr hsz hy;generalize l[i].kind=x0 at d0 HC;generalize l[i].num=x1 at d1 HC;generalize l[i].nm=x2 at d2 HC;generalize l[i].args.length=x3 at d3 HC;go_upto_region 10 with fail
    obtain ⟨b7,hb7⟩:∃ z,z=wr.heap.size:=⟨_,rfl⟩
    have hr7:zC (wr.alloc (.cells #[.int .i64 x0, .int .i64 x1, .string x2, .slice a x3 c] 65)) b7 [.int .i64 x0, .int .i64 x1, .string x2, .slice a x3 c]:=J156x12 _;have hk7:Keeps zA wr (wr.alloc (.cells #[.int .i64 x0, .int .i64 x1, .string x2, .slice a x3 c] 65)):=(yB _ _).alloc _;rw [<- hb7];generalize wr.alloc (.cells #[.int .i64 x0, .int .i64 x1, .string x2, .slice a x3 c] 65)=w7 at hr7 hk7 ⊢;have R7:=yA hr7;have K7:=yA hk7;clear hr7 hk7 hb7 d0 d1 d2 d3 z23
    refine zP 6 (by kernel_rfl) (by kernel_rfl) (Keeps zA) (yB zA) (fun a b c h h'=>xD h h') (zAp [some (.pointer (some ⟨b5,3,none⟩)),some (.slice da i dc),some (.agg #[.slice a0 n0 c0, .slice a1 n1 c1, .slice a2 n2 c2, .slice a3 n3 c3]),some (.agg #[.int .i64 x0, .int .i64 x1, .string x2, .slice a x3 c])] (fun j v W=>match j with
     | 4=>∃ ad2 cp2,v=.agg #[.int .i64 y.kind, .int .i64 y.num, .string y.nm, .slice ad2 y.args.length cp2] /\ zQ W (Since w7.heap.size W) y.args ad2
     | _=>∃ b ad2 cp2,v=.slice (some ⟨b,0,none⟩) 1 1 /\ zC W b [.int .i64 y.kind, .int .i64 y.num, .string y.nm, .slice ad2 y.args.length cp2] /\ zQ W (Since w7.heap.size W) y.args ad2)) (vO (fun j v W W' h hk=>by
       revert h
       split
       ·exact J35 _
       ·rintro ⟨b,ad2,cp2,e,h0,h1⟩;exact ⟨b,ad2,cp2,e,h0.keeps hk (fun h=>h),(h1.keeps hk (fun _ _ h=>h)).mono (fun k hk'=>⟨hk'.1,yI hk'.2 hk.size⟩)⟩)) ?_ ?_
    ·intro q oo hq ho vs W Q' hR0 hd hK
     have hR:Keeps zA w7 W:=((yB zA w7).drew).zB hR0;have hRr:Keeps zA wr W:=K7.out.zB hR;obtain ⟨y10,y11,y12,y13⟩:=((R1X.out.keeps HK.out (fun e=>ne1 e)).keeps hRr (fun h=>h)).four;obtain ⟨y50,y51,y52,y53⟩:=(RB.out.keeps hRr (fun h=>h)).four;obtain ⟨y70,y71,y72,y73⟩:=(R7.out.keeps hR (fun h=>h)).four;have HCW:=yA (HC.out W hRr);clear hRr HC hR0;rcases (show q=0 \/ q=1 \/ q=2 \/ q=3 \/ q=4 \/ q=5 by omega) with rfl | rfl | rfl | rfl | rfl | rfl
     all_goals (simp only [yC,yD,yP] at ho;subst ho;simp only [zJ,yC,yD,yN,Option.bind,Act.put,yE,yK,yF] at hK ⊢;clear hq)
     ·exact J3 _
     ·exact J115 _
     ·exact J3 _
     ·exact J3 _
     ·have e2:vs 2=_:=hd 2 (by kernel_rfl)
      have e3:vs 3=_:=hd 3 (by kernel_rfl);rw [e2,e3] at hK ⊢;have HB7:Hid (w7.heap.size <= W.heap.size):=hR.size;clear hR;clear hd;go_wp2_with (go_at_call 136;refine (HCW.out.mono ?_);rintro e W1 ⟨ad2,cp2,rfl,s1,g1⟩)
      exact hK _ _ g1 ⟨ad2,cp2,rfl,s1.mono (fun k hk=>⟨yU HB7.out hk.1,hk.2⟩)⟩
     ·obtain ⟨ad2,cp2,e4,h4⟩:=(hd 4 (by kernel_rfl):∃ ad2 cp2,vs 4=.agg #[.int .i64 y.kind, .int .i64 y.num, .string y.nm, .slice ad2 y.args.length cp2] /\ zQ W (fun k=>w7.heap.size <= k /\ k < W.heap.size) y.args ad2)
      exact J47 _
    ·intro vs W hR0 hF
     have hR:Keeps zA w7 W:=((yB zA w7).drew).zB hR0;have HRW:=yA hR;have HKW:Hid (Keeps zA wr W):=K7.out.zB hR;have e1:vs 1=_:=hF 1 (by decide);obtain ⟨gs,ad2,cp2,e5,hgs,hys⟩:=(hF 5 (by decide):∃ b ad2 cp2,vs 5=.slice (some ⟨b,0,none⟩) 1 1 /\ zC W b [.int .i64 y.kind, .int .i64 y.num, .string y.nm, .slice ad2 y.args.length cp2] /\ zQ W (Since w7.heap.size W) y.args ad2);have HGS:=yA hgs;have HYS:=yA hys;simp only [zJ,yC,yD,yN,Option.bind,Act.put,yE,yK,yF,yT,yQ];rw [e1,e5];clear hF e1 e5;generalize vs 0=y0;generalize vs 2=y2;generalize vs 3=y3;generalize vs 4=y4;clear hR hR0 hgs hys HC;have HAW:Hid (Acc zBC (fun _=>False) B 4 65 W (.slice da i dc) (Ex.zO n3 (l.take i)) css):=HA.out.zG zHb HKW.out;have HLEN:Hid ((Ex.zO n3 (l.take i)).length=i):=by show _=_;rw [Ex.zBb,uH];omega
     have RBW:Hid (zC W b5 [.int .i64 kk, .int .i64 nn, .string mm, .slice da i dc]):=RB.out.keeps HKW.out (fun h=>h);have hOB:Hid (∀ q,(Value.slice da i dc).ownBlock=some q -> B <= q):=HA.out.2.2.1;have i3:i+1 <= 1000000000:=by omega
     go_upto_region 11 with (at_builtin;refine zH _ (by rfl) _ _ 63 (by rfl) 0 65 j0 _ 4 56 Tryz.underlying63 hj0 hz0 hz1 hz2 rfl (by decide) (.slice da i dc) i css.flatten (by rfl) (J171 _) (.slice (some ⟨gs,0,none⟩) 1 1) 1 [.int .i64 y.kind, .int .i64 y.num, .string y.nm, .slice ad2 y.args.length cp2] (by rfl) (xN HGS.out) rfl (J154 _) (by unfold maxLen;omega) (by omega) (yH _) ?_;intro da2 dc2 w4 ha;have HAO:=yA ha;have k4:=xS ha (yB (fun q=>(Value.slice da i dc).ownBlock=some q) W) (fun q e _=>e);have r4:=RBW.out.keeps k4 (fun e=>by have:=hOB.out b5 e;have:=HBE.out;omega);have z3:=r4.cell (k:=3) (v:=.slice da i dc) rfl;have f3:=r4.free (k:=3) (by simp);have R4W:=yA r4;have K4W:=yA k4;clear ha k4 r4)
     have hel:zBC W (zBr (fun _=>False) B W (.slice da i dc)) y [.int .i64 y.kind, .int .i64 y.num, .string y.nm, .slice ad2 y.args.length cp2]:=by
      refine zBC.zHd (HYS.out.mono (fun k hk=>.inr ⟨?_,hk.2,fun e=>?_⟩))
      ·have h1:=hk.1;have h2:=K7.out.size;have h3:=HK.out.size;have h4:=HBE.out.1;omega
      ·have h0:k < wr.heap.size:=zM HA.out.2.1 e
       have h1:=hk.1;have h2:=K7.out.size;omega
     have hBW:B <= W.heap.size:=J195 _;have hset:Keeps (fun q=>q=b5) w4 (w4.setCell ⟨b5,3,none⟩ (.slice da2 (i+1) dc2)):=(yB (fun q=>q=b5) w4).setCell (p:=⟨b5,3,none⟩) (fun _=>rfl) _
     have hpush:Acc zBC (fun _=>False) B 4 65 (w4.setCell ⟨b5,3,none⟩ (.slice da2 (i+1) dc2)) (.slice da2 (i+1) dc2) (Ex.zO n3 (l.take (i+1))) (css++[[.int .i64 y.kind, .int .i64 y.num, .string y.nm, .slice ad2 y.args.length cp2]]):=by
      have h1:=HAW.out.push zHb (fun k hk=>hk.elim) hBW hel (by decide) (ad:=da2) (cap:=dc2) (w':=w4) (J181 _);rw [HLEN.out] at h1;have e:Ex.zO n3 (l.take (i+1))=Ex.zO n3 (l.take i)++[y]:=by rw [Ex.zAX,Ex.zAX,take_at hlt,kD,HY.out];rfl
      rw [e];exact h1.keeps zHb hset (fun k hk=>⟨by have e':k=b5:=hk;have:=HBE.out;omega,fun h=>h⟩)
     have hrow:zC (w4.setCell ⟨b5,3,none⟩ (.slice da2 (i+1) dc2)) b5 [.int .i64 kk, .int .i64 nn, .string mm, .slice da2 (i+1) dc2]:=R4W.out.set 3 (by simp) _
     have hkeep:Keeps (fun q=>q=b5) w5 (w4.setCell ⟨b5,3,none⟩ (.slice da2 (i+1) dc2)) :=
      (((HK.out.trans HKW.out (fun _ _ h=>h.elim)).trans K4W.out (fun q hq e=>by exact J200 _)).trans hset (fun _ _ h=>h))
     have HPU:=yA hpush;have HRO:=yA hrow;have HKE:=yA hkeep;clear hpush hrow hkeep hset hel hBW z3 f3;go_wp2_with fail
     go_roundw
     case rel=>exact ⟨i+1,da2,dc2,css++[[.int .i64 y.kind, .int .i64 y.num, .string y.nm, .slice ad2 y.args.length cp2]],by omega,by go_num,HRO,HPU,HKE⟩
     case measure=>simp [intOf];omega
   ·obtain rfl:i=l.length:=by omega
    obtain ⟨y50,y51,y52,y53⟩:=RB.out.four;have R4E:Hid (zC wr b4 [.int .i64 0, .int .i64 0, .string { data:=#[] }, .slice none 0 0]):=R4X.out.keeps HK.out (fun e=>ne4 e);obtain ⟨y40,y41,y42,y43⟩:=R4E.out.four;have f40:=R4E.out.free (k:=0) (by simp);have f41:=R4E.out.free (k:=1) (by simp);have f42:=R4E.out.free (k:=2) (by simp);have f43:=R4E.out.free (k:=3) (by simp);clear z23;go_wp2_with fail
    have hrow:zC ((((wr.setCell ⟨b4,0,none⟩ (.int .i64 kk)).setCell ⟨b4,1,none⟩ (.int .i64 nn)).setCell ⟨b4,2,none⟩ (.string mm)).setCell ⟨b4,3,none⟩ (.slice da l.length dc)) b4 [.int .i64 kk, .int .i64 nn, .string mm, .slice da l.length dc]:=(((R4E.out.set 0 (by simp) _).set 1 (by simp) _).set 2 (by simp) _).set 3 (by simp) _;have hks:Keeps (fun q=>q=b4) wr ((((wr.setCell ⟨b4,0,none⟩ (.int .i64 kk)).setCell ⟨b4,1,none⟩ (.int .i64 nn)).setCell ⟨b4,2,none⟩ (.string mm)).setCell ⟨b4,3,none⟩ (.slice da l.length dc)):=((((yB (fun q=>q=b4) wr).setCell (p:=⟨b4,0,none⟩) (fun _=>rfl) _).setCell (p:=⟨b4,1,none⟩) (fun _=>rfl) _).setCell (p:=⟨b4,2,none⟩) (fun _=>rfl) _).setCell (p:=⟨b4,3,none⟩) (fun _=>rfl) _;generalize (((wr.setCell ⟨b4,0,none⟩ (.int .i64 kk)).setCell ⟨b4,1,none⟩ (.int .i64 nn)).setCell ⟨b4,2,none⟩ (.string mm)).setCell ⟨b4,3,none⟩ (.slice da l.length dc)=wE at hrow hks ⊢;refine xM (v:=.agg #[.int .i64 kk, .int .i64 nn, .string mm, .slice da l.length dc]) (by simp [results,Tryz.results136,go_sem,hrow.cell (k:=0) rfl,hrow.cell (k:=1) rfl,hrow.cell (k:=2) rfl,hrow.cell (k:=3) rfl]) rfl ?_
    refine HPX.out da dc wE ?_ ?_
    ·have hA:=HA.out
     rw [xJ] at hA;obtain ⟨h1,h2⟩:=hA.elems zHb (ad:=da) (n:=l.length) (cap:=dc) rfl;have h3:zQ wr (fun k=>False \/ (B <= k /\ k < wr.heap.size)) (Ex.zO n3 l) da:=⟨_,h1,h2⟩;refine (h3.keeps hks (fun k hk e=>?_)).mono (fun k hk=>?_)
     ·have e':k=b4:=e
      rcases hk with hk | hk
      ·exact hk
      ·have:=HBE.out;omega
     ·rcases hk with hk | hk
      ·exact hk.elim
      ·exact ⟨by have:=HBE.out;omega,yI hk.2 hks.size⟩
    ·refine ((K5.out.trans HK.out (fun q hq e=>?_):Keeps zA w wr)).trans hks (fun q hq e=>?_)
     ·have e':q=b5:=e;have:=HS.out;omega
     ·have e':q=b4:=e;have:=HS.out;omega)
theorem zOW (x:Ex):zME x:=Ex.ind (fun k n s l ih=>zL7 k n s l ih) x
def zFv (gs:Nat -> Nat × Nat) (i:Nat) (p:Nat × Nat) (j:Nat):Nat × Nat:=if j=i then p else gs j
def zMw (md:Region.Mode) (l:List Oper) (n:Nat) (D:Nat -> List Nat):Bool :=
 (List.range n).all fun i=>((l[i]?).map fun o=>(D i).all fun a=>decide (a=i) || o.after.any fun e=>Region.binds md e&&(D e.on).contains a).getD true
section
variable {P:Program}
theorem zB1 {id:Nat} {Q:Exit -> Act -> World -> Prop} {a:Act} {w:World} {l:List Oper} (n:Nat) (hm:P.follows .mixedOrders=true) (hB:zGp .any l n=true) (D:Nat -> List Nat) (hDB:zMw .any l n D=true)
 (R:World -> World -> Prop) (hrefl:∀ w,R w w) (htrans:∀ a b c,R a b -> R b c -> R a c) (hsz:∀ a b,R a b -> a.heap.size <= b.heap.size) (F:Nat -> Value -> (Nat -> Nat × Nat) -> World -> Prop) (hst:∀ j v gs W W',F j v gs W -> R W W' -> F j v gs W') (hloc:∀ j v gs gs' W,(∀ a,a ∈ D j -> gs a=gs' a) -> F j v gs W -> F j v gs' W)
 (hstep:∀ i o,i < n -> l[i]?=some o -> ∀ (vs:Nat -> Value) (gs:Nat -> Nat × Nat) (W:World) (Q':Exit -> Act -> World -> Prop),R w.drew W -> (∀ j,(o.after.any fun e=>Region.binds .any e&&decide (e.on=j))=true -> F j (vs j) gs W) →
   (∀ v W',R W W' -> F i v (zFv gs i (W.heap.size,W'.heap.size)) W' -> Q' .normal ((zJ l vs a n).put o.dst v) W') -> wpList P l.toArray Q' [o] (zJ l vs a n) W)
 (htail:∀ (vs:Nat -> Value) (gs:Nat -> Nat × Nat) (W:World),R w.drew W -> (∀ j,j < n -> F j (vs j) gs W) -> (∀ j,j < n -> (gs j).2 <= W.heap.size) -> (∀ i j,i < n -> j < n -> i ≠ j -> (gs i).2 <= (gs j).1 \/ (gs j).2 <= (gs i).1) -> wpList P l.toArray Q (l.drop n) (zJ l vs a n) W):(Code.region id l.toArray true).wp P Q a w:=by
 simp only [zGp,yR,yS,yZ,xR] at hB;obtain ⟨⟨⟨⟨⟨hn,hs⟩,hc⟩,hback⟩,hdis⟩,hseq⟩:=hB
 have key:∀ (f:Nat) (listed:Array Bool) (vs:Nat -> Value) (gs:Nat -> Nat × Nat) (W:World),HeadInv .any l.toArray n listed -> zBh listed n=f -> R w.drew W -> (∀ j,j < n -> listed.getD j true=true -> F j (vs j) gs W) -> (∀ j,j < n -> listed.getD j true=true -> ∀ a,a ∈ D j -> listed.getD a true=true) -> (∀ j,j < n -> listed.getD j true=true -> (gs j).2 <= W.heap.size) -> (∀ i j,i < n -> j < n -> i ≠ j -> listed.getD i true=true -> listed.getD j true=true -> (gs i).2 <= (gs j).1 \/ (gs j).2 <= (gs i).1) →
  wpAny P .any l.toArray Q (f+(l.length - n)) listed (zJ l vs a n) W:=by
  intro f
  induction f with
  | zero =>
    intro listed vs gs W inv hcnt hR hF hL hG hD
    have hall:=zB0 n hcnt
    have he:listed=zk n (l.length - n):=by
     exact J9 _
    have h1:=htail vs gs W hR (fun j hj=>hF j hj (hall j hj)) (fun j hj=>hG j hj (hall j hj)) (fun i j hi hj hne=>hD i j hi hj hne (hall i hi) (hall j hj));have hdl:(l.drop n).length=l.length - n:=by simp
    have:=wpAny_of_seq (P:=P) (md:=.any) (ops:=l.toArray) (Q':=Q) (l.drop n) n listed (zJ l vs a n) W (fun j=>by simp [kS]) (by rw [hdl,he];exact hseq) h1
    rw [hdl] at this;rw [xC];exact this
  | succ f ih =>
    intro listed vs gs W inv hcnt hR hF hL hG hD
    obtain ⟨i0,hi0,hu0,hb0⟩:=zBI n (by omega:zBh listed n ≠ 0)
    have hr0:i0 ∈ Region.ready .any l.toArray listed:=by
     exact J12 _
    rw [show f+1+(l.length - n)=(f+(l.length - n))+1 by omega];refine ⟨fun h0=>by exact J180 _,fun i hi=>?_⟩
    have hin:i < n:=by
     exact J92 _
    have hun:=(vA.1 hi).1;obtain ⟨_,o,ho,hafter⟩:=vA.1 hi;have ho':l[i]?=some o:=by simpa using ho
    refine zBu ho (hstep i o hin ho' vs gs W _ hR (fun j hj=>?_) (fun v W' hR' hF'=>?_))
    ·exact J10 _
    ·have hd:o.dst=(l[i]?).bind (·.dst):=by rw [ho'];rfl
     show wpAny P .any l.toArray Q (f+(l.length - n)) (listed.setIfInBounds i true) ((zJ l vs a n).put o.dst v) W'
     rw [hd,zBK v n vs hin (hdis n (by omega)) (fun m hm=>hdis m (by omega))];have hne0:∀ j,j < n -> listed.getD j true=true -> j ≠ i:=fun j hj hl e=>by subst e;rw [hun] at hl;cases hl
     refine ih _ _ (zFv gs i (W.heap.size,W'.heap.size)) _ (inv.set hi hin) ?_ (htrans _ _ _ hR hR') (fun j hj hl=>?_) (fun j hj hl b hb=>?_) (fun j hj hl=>?_) (fun i1 j1 hi1 hj1 hne hl1 hl2=>?_)
     ·exact J61 _
     ·exact J43 _
     ·by_cases eb:b=i
      ·subst eb
       by_cases hs2:b < listed.size
       ·simp [hs2]
       ·simp [hs2]
      ·rw [uF true (fun h=>eb h.symm)]
       by_cases e:j=i
       ·subst e
        have h1:=yZ.1 hDB j (xR.2 hin);simp only [ho',vB,kM,yZ] at h1;have h2:=h1 b hb;simp only [vX,yS,Array.any_eq_true',yR,List.contains_iff_mem] at h2;rcases h2 with h2 | ⟨e,he,hbe,h3⟩
        ·exact absurd h2 eb
        ·have h4:=hafter e he hbe
         have hle:e.on < j:=by
          have h1:=yZ.1 hback j (xR.2 hin);simp only [ho',vB,kM,uV] at h1;have h2:=h1 e he;simpa only [hbe,Bool.not_true,Bool.false_or,yS] using h2
         exact J100 _
       ·rw [uF true (fun h=>e h.symm)] at hl
        exact hL j hj hl b hb
     ·by_cases e:j=i
      ·subst e;unfold zFv;rw [if_pos rfl];exact yV _
      ·rw [uF true (fun h=>e h.symm)] at hl
       unfold zFv;rw [if_neg e];exact yU (hG j hj hl) (hsz _ _ hR')
     ·by_cases e1:i1=i
      ·subst e1
       have e2:¬ j1=i1:=fun h=>hne h.symm
       rw [uF true hne] at hl2;unfold zFv;rw [if_pos rfl,if_neg e2];exact .inr (hG j1 hj1 hl2)
      ·rw [uF true (fun h=>e1 h.symm)] at hl1
       by_cases e2:j1=i
       ·subst e2
        unfold zFv;rw [if_pos rfl,if_neg e1];exact .inl (hG i1 hi1 hl1)
       ·rw [uF true (fun h=>e2 h.symm)] at hl2
        unfold zFv;rw [if_neg e1,if_neg e2];exact hD i1 j1 hi1 hj1 hne hl1 hl2
 refine wp_region_any hm ?_
 have inv0:HeadInv .any l.toArray n (Array.replicate l.toArray.size false) :=
  ⟨by simp,fun j oj _ hl=>(J183 _),fun t _ ht=>getD_in (by simpa using ht) (vL _ _)⟩
 have hcn:∀ m,m <= l.length -> zBh (Array.replicate l.toArray.size false) m=m:=by
  exact J25 _
 have hno:∀ j,j < n -> (Array.replicate l.toArray.size false).getD j true=true -> False:=fun j hj hl=>by
  have h1:j < l.length:=by omega
  have:(Array.replicate l.toArray.size false).getD j true=false:=by simp [h1]
  rw [this] at hl;cases hl
 have:=key n (Array.replicate l.toArray.size false) (slotsOf l a) (fun _=>(0,0)) w.drew inv0 (hcn n (by omega)) (hrefl _) (fun j hj hl=>(hno j hj hl).elim) (fun j hj hl=>(hno j hj hl).elim) (fun j hj hl=>(hno j hj hl).elim) (fun i j hi hj _ hl _=>(hno i hi hl).elim)
 rw [zBk l a n,show n+(l.length - n)=l.toArray.size by simp;omega] at this;exact this
end
end Go.Proofs.YtfokdllgnblamaaGreatDoor
