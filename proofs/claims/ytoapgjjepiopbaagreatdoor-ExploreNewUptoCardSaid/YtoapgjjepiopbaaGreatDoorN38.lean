/- Layer N: texts joined. -/
import Derived.Test.YtoapgjjepiopbaaGreatDoorN37
set_option linter.all false
set_option maxHeartbeats 8000000
set_option maxRecDepth 8000
namespace Go.Proofs.YtoapgjjepiopbaaGreatDoor
open Go.RowKit
theorem J30 (P:Prop) (h:P:=by
 clear hd;have hz:=HRW.size;go_wp2_with fail
 exact hK _ _ ((Keeps.refl _ _).alloc _) ⟨_,rfl,hz,zC.zG (heap_alloc_new _ _)⟩):P:=h
theorem J34 (P:Prop) (h:P:=by
 clear hd;go_wp2_with fail
 exact hK _ _ ((Keeps.refl zA W).alloc _) ⟨_,rfl,zC.zG (heap_alloc_new W _)⟩):P:=h
theorem zIb (w:World) (g n cap:Nat) (hn:n <= cap) (hm:cap <= maxLen) :
 Calls Tryz.prog 72 #[.slice (some ⟨g,0,none⟩) n cap] w fun e w'=>e=.returned (.slice (some ⟨g,0,none⟩) n n) /\ w'=w:=by
 have h1:(0:Int) <= n:=by omega
 have h2:(n:Int) <= cap:=by omega
 have h3:(cap:Int) <= 9223372036854775807:=by unfold maxLen at hm;omega
 go_enter Tryz.func72,Tryz.ntmps72
 go_wp2
 go_ret
 exact ⟨by simp,rfl⟩
theorem zHe:(Tryz.prog.info? 161).map (fun i=>(i.zero,i.size,i.bytes))=some (some (.agg #[.int .i64 0, .slice none 0 0]),2,32):=by kernel_rfl
def LwF (B nc:Nat) (cs:List Int) (mu:Int) (j:Nat) (v:Value) (W:World):Prop :=
 match j with
 | 2=>∃ ad cap,v=.slice ad nc cap /\ W.ownsRow 0 3 1 v nc (ints cs)
 | 3=>∃ ad,v=.slice ad nc nc
 | 6=>∃ ad,v=.agg #[.slice ad nc nc, .int .i64 mu, .slice none 0 0]
 | 7=>∃ z,v=.pointer (some ⟨z,0,none⟩) /\ B <= z /\ zC W z [.slice none 0 0, .int .i64 0, .slice none 0 0]
 | _=>True
theorem LwF.st {B nc:Nat} {cs:List Int} {mu:Int} (j:Nat) (v:Value) (W W':World) (h:LwF B nc cs mu j v W) (hk:Keeps zA W W'):LwF B nc cs mu j v W':=by
 unfold LwF at *;split at h
 case h_1=>obtain ⟨ad,cap,e,h1⟩:=h;exact ⟨ad,cap,e,zF h1 hk (fun _ _ h=>h)⟩
 case h_4=>obtain ⟨z,e,h1,h2⟩:=h;exact ⟨z,e,h1,h2.keeps hk (fun h=>h)⟩
 all_goals first | exact h | trivial
theorem zJm (b:Nat) (ad:Option Addr) (cap:Nat) (d:Int) (w:World):Calls Tryz.prog 70 #[.pointer (some ⟨b,0,none⟩), .slice ad 0 cap, .int .i64 d] w fun e w'=>e=.returned (.tuple #[]) /\ Keeps zA w w':=by
 go_enter Tryz.func70,Tryz.ntmps70
 go_wp2_with fail
 go_loopw [10] (fun iv wr=>iv=.int .i64 0 /\ wr=w) (fun _ _=>0)
 case atStart=>exact ⟨rfl,rfl⟩
 case round =>
  obtain ⟨rfl,hw⟩:=hrel;subst hw;go_wp2_with fail
  go_returns
  exact ⟨rfl,Keeps.refl _ _⟩
theorem zOR (l:List Ac) (u:Un) (regs:Int) (b:Nat) (rg:Int) (F:Nat -> Prop) (w:World) (d:Int) (ad:Option Addr) (cap:Nat) (h:zBG w b rg rg (.slice none 0 0) []) (hL:zAG w F l ad) (hF:zAt w b (.slice none 0 0) F) (hm:Ac.zq u regs l=true) (hn:2*Ac.zM l < 999999) :
 Calls Tryz.prog 70 #[.pointer (some ⟨b,0,none⟩), .slice ad l.length cap, .int .i64 d] w fun e w'=>∃ v' mo l',e=.returned (.tuple #[]) /\ l'.length <= 2*Ac.zM l /\ zBG w' b rg mo v' l' /\ zK w b (.slice none 0 0) w' v' /\ (l=[] -> mo=rg /\ l'=[]):=by
 by_cases hl:l=[]
 ·subst hl
  refine (zJm b ad cap d w).mono ?_
  rintro e w' ⟨he,hk⟩
  exact ⟨_,rg,[],he,Nat.zero_le _,h.keeps hk (fun h=>h) (fun _ _ h=>h),zK.refl.post hk,fun _=>⟨rfl,rfl⟩⟩
 ·refine (zMd l u regs b rg F w _ 0 d ad cap ⟨rg,[],h,rfl⟩ hL hF hm (by omega)).mono ?_
  rintro e w' ⟨v',n',he,_,h2,⟨mo,l',hc,rfl⟩,hr⟩
  exact ⟨v',mo,l',he,by omega,hc,hr,fun e=>absurd e hl⟩
theorem zKa {cs:List Int} {mu:Int} {bs:List Bd} {w:World} {F:Nat -> Prop} {uca uta:Option Addr} (ucc utc:Nat) (h:zCN w F cs bs uca uta) (hr:zu ⟨cs,mu,bs⟩=true) :
 Calls Tryz.prog 32 #[.agg #[.slice uca cs.length ucc, .int .i64 mu, .slice uta bs.length utc]] w fun e w'=>∃ ca ta tc,e=.returned (.tuple #[.agg #[.slice ca cs.length cs.length, .int .i64 mu, .slice ta bs.length tc], .int .i64 0]) /\ Keeps zA w w' /\ (∀ rg,bs=[⟨rg,[]⟩] -> ∃ gI,zU w' (.slice ta 1 tc) 1 [.int .i64 rg, .slice (some ⟨gI,0,none⟩) 1 1] /\ zU w' (.slice (some ⟨gI,0,none⟩) 1 1) 1 [.int .i64 29, .int .i64 0, .int .i64 0, .int .i64 0]):=by
 have hri:=zCp hr;have h8:bs.length <= 8:=hri.2.1;have hc8:cs.length <= 8:=hri.2.2.1;have HA:Hid (∀ i (hi:i < bs.length),Ac.zq ⟨cs,mu,bs⟩ bs[i].regs bs[i].acts=true /\ Ac.zM bs[i].acts <= 500):=fun i hi=>⟨(hri.2.2.2.2.2 _ (List.getElem_mem hi)).2.2.1,zFV hr (List.getElem_mem hi)⟩
 obtain ⟨nc,hnc⟩:=eX cs.length;obtain ⟨nb,hnb⟩:=eX bs.length;have HNC:=Lib.hid hnc;have HNB:=Lib.hid hnb
 have HRT:Hid (∀ W,Keeps zA w W -> Calls Tryz.prog 16 #[.agg #[.slice uca nc ucc, .int .i64 mu, .slice uta nb utc]] W fun e w'=>e=.returned (.bool true) /\ Keeps zA W w'):=fun W hk=>by
  have h0:=h.zD hk;have:=zDE cs mu bs W F uca uta ucc utc h0.nums h0.bds h0.low h0.kinds h0.sz h0.l1 h0.l2
  rw [hr] at this;rw [hnc,hnb];exact this
 have HCL:Hid (∀ W,Keeps zA w W -> Calls Tryz.prog 59 #[.slice uca nc ucc] W (zB3 3 1 W nc (ints cs))):=fun W hk=>by
  rw [hnc];exact zCm W _ cs (zAn.src (h.nums.keeps hk (fun _ _ h=>h))) (by omega)
 have HU:=Lib.hid h;have h8':nb <= 8:=by omega
 obtain ⟨j0,hj0,hy0,hy1,hy2⟩:=info_parts zHe;rw [<- hnc,<- hnb];clear h hr hri h8 hc8 hnc hnb;go_enter Tryz.func32,Tryz.ntmps32
 go_upto_region 1 with fail
 obtain ⟨b1,w1,e1,e2,R1,K1,S1⟩:=newRow w [.slice uca nc ucc, .int .i64 mu, .slice uta nb utc] 25;rw [e1,e2];obtain ⟨b2,w2,e3,e4,R2,K2,_⟩:=newRow w1 [.slice none 0 0, .int .i64 0, .slice none 0 0] 78;rw [<- S1.out,e3,e4];have HB2:Hid (w.heap.size <= b2 /\ b1 < b2):=⟨by rw [<- e3];exact K1.size,by rw [<- e3];exact R1.lt (by simp)⟩;have HR1:=Lib.hid (R1.keeps K2 (fun h=>h));have HR2:=Lib.hid R2;have HK2:Hid (Keeps zA w w2):=K1.zB K2;have y:=HR1.out.zAo;have k2:=zH w2;clear e1 e2 e3 e4 R1 R2 K1 K2 S1;go_upto_region 3 with (go_at_call 16;refine (HRT.out _ HK2.out).mono ?_;rintro e w3 ⟨rfl,g3⟩;have HK3:=Lib.hid g3;clear g3 y k2)
 replace HCL:Hid (∀ W,Keeps zA w3 W -> Calls Tryz.prog 59 #[.slice uca nc ucc] W (zB3 3 1 W nc (ints cs))):=fun W hk=>HCL.out W ((HK2.out.zB HK3.out).zB hk)
 have HR1':=Lib.hid (HR1.out.keeps HK3.out (fun h=>h));have HR2':=Lib.hid (HR2.out.keeps HK3.out (fun h=>h));have HK3':Hid (Keeps zA w w3):=HK2.out.zB HK3.out;have y:=HR1'.out.zAo;clear HR1 HR2 HK2 HK3;refine zAs 8 (by kernel_rfl) [some ((.pointer (some ⟨b1,0,none⟩))),some (.slice uca nc ucc),none,none,some ((.pointer (some ⟨b1,1,none⟩))),some (.int .i64 mu),none,none] rfl (LwF w3.heap.size nc cs mu) LwF.st ?_ ?_
 ·refine ⟨?_,?_,?_,?_,?_,?_,?_,?_,trivial⟩ <;> (intro vs gs W Q' hR hd hK;have HRW:Keeps zA w3 W:=((zH w3).drew).zB hR;simp only [zA1,zAg,zBQ,zJ,tz,Option.bind,Act.put] at hd hK ⊢;try simp only [hd] at hK ⊢)
  all_goals try (try clear hd;go_wp2_with (fail);first | exact hK _ _ (Keeps.refl _ _) rfl)
  ·clear hd
   go_wp2_with (go_at_call 59;refine (HCL.out _ HRW).mono ?_;rintro e W1 ⟨ad,cap,rfl,g1,g2,g3⟩)
   exact hK _ _ g2 ⟨ad,cap,rfl,g1⟩
  ·obtain ⟨ad,cap,e4,h1⟩:∃ ad cap,vs 2=.slice ad nc cap /\ W.ownsRow 0 3 1 (vs 2) nc (ints cs):=by simpa [LwF] using hd
   clear hd;rw [e4] at hK h1 ⊢;have HCN:Hid (∀ W',W'=W -> Calls Tryz.prog 69 #[.slice ad nc cap] W' fun e w'=>e=.returned (.slice ad nc nc) /\ w'=W'):=fun W' h=>by subst h;exact zEg _ ad _ cap cs (by rw [HNC.out] at h1 ⊢;exact h1)
   clear h1;go_wp2_with (go_at_call 69;refine (HCN.out _ rfl).mono ?_;rintro e W1 ⟨rfl,rfl⟩)
   exact hK _ _ (Keeps.refl _ _) ⟨ad,rfl⟩
  ·obtain ⟨ad,e4⟩:∃ ad,vs 3=.slice ad nc nc:=by simpa [LwF] using hd.1
   clear hd;rw [e4] at hK ⊢;go_wp2_with fail
   exact hK _ _ (Keeps.refl _ _) ⟨ad,rfl⟩
  ·exact J30 _
 ·intro vs W hR hFF
  have HRW:Keeps zA w3 W:=((zH w3).drew).zB hR;obtain ⟨ad,e6⟩:=(hFF 6 (by decide):∃ ad,vs 6=.agg #[.slice ad nc nc, .int .i64 mu, .slice none 0 0]);obtain ⟨z,e7,hz,rz⟩:=(hFF 7 (by decide):∃ z,vs 7=.pointer (some ⟨z,0,none⟩) /\ w3.heap.size <= z /\ zC W z [.slice none 0 0, .int .i64 0, .slice none 0 0]);simp only [zJ,tz,Option.bind,Act.put];rw [e6,e7];have HZ:Hid (w3.heap.size <= z /\ b2 < w3.heap.size):=⟨hz,HR2'.out.lt (by simp)⟩;have c0:=rz.cell (k:=0) rfl;have c1:=rz.cell (k:=1) rfl;have c2:=rz.cell (k:=2) rfl;have f0:=rz.free (k:=0) (by simp);have f1:=rz.free (k:=1) (by simp);have f2:=rz.free (k:=2) (by simp);have HRZ:=Lib.hid rz;have HKW:=Lib.hid HRW;clear hFF e6 e7 hR HRW rz hz;go_upto_region 4 with fail
  have r4:=((HRZ.out.set 0 (by simp) (.slice ad nc nc)).set 1 (by simp) (.int .i64 mu)).set 2 (by simp) (.slice none 0 0);have k4:Keeps (fun q=>q=z) W (((W.setCell ⟨z,0,none⟩ (.slice ad nc nc)).setCell ⟨z,1,none⟩ (.int .i64 mu)).setCell ⟨z,2,none⟩ (.slice none 0 0)):=(((Keeps.refl (fun q=>q=z) W).setCell (p:=⟨z,0,none⟩) (fun _=>rfl) _).setCell (p:=⟨z,1,none⟩) (fun _=>rfl) _).setCell (p:=⟨z,2,none⟩) (fun _=>rfl) _;have r4:zC (((W.setCell ⟨z,0,none⟩ (.slice ad nc nc)).setCell ⟨z,1,none⟩ (.int .i64 mu)).setCell ⟨z,2,none⟩ (.slice none 0 0)) z [.slice ad nc nc, .int .i64 mu, .slice none 0 0]:=r4;generalize ((W.setCell ⟨z,0,none⟩ (.slice ad nc nc)).setCell ⟨z,1,none⟩ (.int .i64 mu)).setCell ⟨z,2,none⟩ (.slice none 0 0)=w4 at r4 k4 ⊢;have HR4:=Lib.hid r4;have HK4:Hid (Keeps zA w3 w4):=HKW.out.trans k4 (fun q hq e=>by have e':q=z:=e;have:=HZ.out.1;omega);have HK04:Hid (Keeps zA w w4):=HK3'.out.zB HK4.out;have HR24:=Lib.hid (HR2'.out.keeps HK4.out (fun h=>h));have y:=(HR1'.out.keeps HK4.out (fun h=>h)).zAo;have k5:=zH w4;clear r4 k4 c0 c1 c2 f0 f1 f2;go_wp2_with fail
  clear y k5;go_loopw [22] (fun iv wr=>∃ (i:Nat) (ta:Option Addr) (tc:Nat) (L:List Value),i <= nb /\ iv=.int .i64 i /\ Hid (zC wr z [.slice ad nc nc, .int .i64 mu, .slice ta i tc] /\ wr.ownsRow 0 161 2 (.slice ta i tc) i L /\ (∀ q,(Value.slice ta i tc).ownBlock=some q -> q ≠ z /\ w4.heap.size <= q) /\ zC wr b2 [.slice none 0 0, .int .i64 0, .slice none 0 0] /\ Keeps zA w wr /\ w4.heap.size <= wr.heap.size) /\ Hid (i=1 -> ∀ rg,bs=[⟨rg,[]⟩] -> ∃ gI,zU wr (.slice ta 1 tc) 1 [.int .i64 rg, .slice (some ⟨gI,0,none⟩) 1 1] /\ zU wr (.slice (some ⟨gI,0,none⟩) 1 1) 1 [.int .i64 29, .int .i64 0, .int .i64 0, .int .i64 0] /\ w4.heap.size <= gI)) (fun iv _=>nb - (intOf iv).toNat)
  case atStart=>exact ⟨0,none,0,[],Nat.zero_le _,rfl,⟨HR4.out,World.ownsRow_nil _ _ _ _,fun q e=>by exact J152 _,HR24.out,HK04.out,Nat.le_refl _⟩,fun h=>absurd h (by decide)⟩
  case round =>
   obtain ⟨i,ta,tc,L,hi,rfl,HP,HX⟩:=hrel;by_cases hlt:i < nb
   ·have i1:(0:Int) <= i:=by omega
    have i2:(i:Int) < nb:=by omega
    have hlt':i < bs.length:=by have:=HNB.out;omega
    have HUR:=HU.out.zD HP.out.2.2.2.2.1;obtain ⟨g,o,ba,bc,e1,hg,c0,c1,hxa⟩:=HUR.bds i hlt';subst e1;have hA:=HA.out i hlt';have HBI:Hid (∀ rg,bs=[⟨rg,[]⟩] -> bs[i].regs=rg /\ bs[i].acts=[]):=fun rg e=>by (cases e;have h0:i=0:=(by simpa using hlt');subst h0;exact ⟨rfl,rfl⟩)
    generalize bs[i].regs=rg at c0 hA HBI;generalize bs[i].acts=l at c1 hxa hA HBI;obtain ⟨nl,hnl⟩:=eX l.length;have HNL:=Lib.hid hnl;rw [<- hnl] at c1;have hbW:z < wr.heap.size:=HP.out.1.lt (by simp);have hb2W:b2 < wr.heap.size:=HP.out.2.2.2.1.lt (by simp);have HBW:Hid (z < wr.heap.size /\ b2 < wr.heap.size):=⟨hbW,hb2W⟩;have HLX:Hid (zAG wr F l ba /\ (∀ k,F k -> k < wr.heap.size) /\ Ac.zq ⟨cs,mu,bs⟩ rg l=true /\ Ac.zM l <= 500):=⟨hxa,HUR.low,hA⟩;clear HUR hxa hA hnl hg hbW hb2W;go_upto_region 7 with fail
    obtain ⟨b6,w6,e1,e2,R6,K6,_⟩:=newRow wr [.int .i64 rg, .slice ba nl bc] 48;try rw [e1]
    try rw [e2]
    have y6:=R6.all2;have k6:=zH w6;have HR6:=Lib.hid R6;have HK6:=Lib.hid K6;clear e1 e2 R6 K6 c0 c1;go_upto_region 8 with fail
    obtain ⟨b7,w7,e1,e2,R7,K7,_⟩:=newRow w6 [.int .i64 rg, .int .i64 rg, .slice none 0 0] 154;try rw [e1]
    try rw [e2]
    have HB7:Hid (wr.heap.size <= b7 /\ b7=w6.heap.size):=⟨by rw [<- e1];exact HK6.out.size,e1.symm⟩;have HC7:Hid (zBG w7 b7 rg rg (.slice none 0 0) []):=⟨R7,World.ownsRow_nil _ _ _ _,fun q e=>by exact J152 _,none,0,rfl⟩;have HK7:Hid (Keeps zA wr w7):=HK6.out.zB K7;have y6:=(HR6.out.keeps K7 (fun h=>h)).all2;have k7:=zH w7
    have HCA:Hid (Calls Tryz.prog 70 #[.pointer (some ⟨b7,0,none⟩), .slice ba nl bc, .int .i64 0] w7 fun e w'=>∃ v' mo l',e=.returned (.tuple #[]) /\ l'.length <= 2*Ac.zM l /\ zBG w' b7 rg mo v' l' /\ zK w7 b7 (.slice none 0 0) w' v' /\ (l=[] -> mo=rg /\ l'=[])):=by
     show Calls _ _ _ _ _
     rw [HNL.out]
     exact zOR l ⟨cs,mu,bs⟩ rg b7 rg F w7 0 ba bc HC7.out (HLX.out.1.keeps HK7.out (fun _ _ h=>h)) (fun q hq=>⟨Nat.lt_of_lt_of_le (HLX.out.2.1 q hq) HK7.out.size,fun e=>by
      have h1:=HLX.out.2.1 q hq;have h2:=HB7.out.1;rcases e with e | e
      ·omega
      ·simp [Value.ownBlock] at e⟩) HLX.out.2.2.1 (by have:=HLX.out.2.2.2;omega)
    clear e1 e2 R7 K7 k6;go_upto_region 9 with (go_at_call 70;refine HCA.out.mono ?_;rintro e w8 ⟨v8,mo,l8,rfl,h8a,h8b,h8c,h8d⟩;have H8:Hid (l8.length <= 1000 /\ zBG w8 b7 rg mo v8 l8 /\ zK w7 b7 (.slice none 0 0) w8 v8 /\ (l=[] -> mo=rg /\ l8=[])):=⟨by have:=HLX.out.2.2.2;omega,h8b,h8c,h8d⟩;clear h8a h8b h8c h8d y6 k7)
    go_upto_region 10 with (go_at_call 71;refine (zHL H8.out.2.1 ⟨_,_,_,_⟩ [] none 0 ⟨none,0,rfl,fun h=>absurd rfl h⟩ (by have:=H8.out.1;omega) (H8.out.2.1.row.lt (by simp)) (fun g o e=>by cases e) (by decide)).mono ?_;rintro e w9 ⟨v9,rfl,h9a,h9b,h9c⟩;have H9:Hid (zBG w9 b7 rg mo v9 (l8++[⟨29,0,0,0⟩]) /\ zK w7 b7 (.slice none 0 0) w9 v9):=⟨h9a,zK.trans (HC7.out.row.lt (by simp)) H8.out.2.2.1 ⟨h9b,h9c⟩⟩;clear h9a h9b h9c)
    obtain ⟨gI,nI,cI,hv9,hcI,hgI⟩:∃ gI nI cI,v9=.slice (some ⟨gI,0,none⟩) nI cI /\ (nI <= cI /\ cI <= maxLen) /\ Hid (nI=l8.length+1 /\ zC w9 gI ((l8++[(⟨29,0,0,0⟩:LIn)]).flatMap LIn.cells) /\ gI ≠ b7 /\ w7.heap.size <= gI):=by
     obtain ⟨la,lc,hf⟩:=H9.out.1.form;rw [List.length_append] at hf;have ho:=H9.out.1.own;rw [hf,List.length_append] at ho;rcases ho.2 with ⟨e,_⟩ | ⟨gI,cap,cur,e,_,_,h1,h2,_⟩
     ·simp at e
     ·simp only [Value.slice.injEq] at e
      obtain ⟨rfl,h3,rfl⟩:=e;refine ⟨gI,_,lc,hf,⟨h1,h2⟩,rfl,zC.zAM ho,H9.out.1.ne gI (by rw [hf];rfl),?_⟩
      rcases H9.out.2.own gI (by rw [hf];rfl) with h | h
      ·exact J66 _
      ·exact h
    subst hv9
    have HM9:Hid (∀ q,q < w7.heap.size -> q ≠ b7 -> ¬ Mine b7 (.slice none 0 0) q):=fun q h1 h2 e=>by
     rcases e with e | e
     ·exact h2 e
     ·simp [Value.ownBlock] at e
    have HZ7:Hid (z < w7.heap.size /\ z ≠ b7 /\ b2 ≠ b7 /\ b2 < w7.heap.size /\ b7 < w7.heap.size):=by have h1:=HBW.out;have h2:=HB7.out.1;have h3:=HK7.out.size;exact ⟨by omega,by omega,by omega,by omega,HC7.out.row.lt (by simp)⟩
    have HK79:=H9.out.2.keeps;have HRZ9:=Lib.hid ((HP.out.1.keeps HK7.out (fun h=>h)).keeps HK79 (HM9.out z HZ7.out.1 HZ7.out.2.1));have HR29:=Lib.hid ((HP.out.2.2.2.1.keeps HK7.out (fun h=>h)).keeps HK79 (HM9.out b2 HZ7.out.2.2.2.1 HZ7.out.2.2.1))
    have HOW9:Hid (w9.ownsRow 0 161 2 (.slice ta i tc) i L):=zF (zF HP.out.2.1 HK7.out (fun _ _ h=>h)) HK79 (fun q e=>by
     have h1:q < wr.heap.size:=zS HP.out.2.1 e;have h2:=HB7.out.1;have h3:=HK7.out.size;exact HM9.out q (by omega) (by omega))
    have HK9:Hid (Keeps zA wr w9):=HK7.out.trans HK79 (fun q hq e=>by
     have h2:=HB7.out.1;rcases e with e | e
     ·omega
     ·simp [Value.ownBlock] at e)
    have yz:=HRZ9.out.zAo;have yb:=H9.out.1.row.zAo;have hi8:i < 8:=by omega
    have HP3:=Lib.hid HP.out.2.2.1;have HPO:Hid (wr.ownsRow 0 161 2 (.slice ta i tc) i L):=HP.out.2.1;have HP5:=Lib.hid HP.out.2.2.2.2;clear HK79 HP;refine zAs 13 (by kernel_rfl) [some ((.pointer (some ⟨z,2,none⟩))),some (.slice ta i tc),some ((.pointer (some ⟨b7,0,none⟩))),some ((.pointer (some ⟨b7,0,none⟩))),some ((.pointer (some ⟨b7,1,none⟩))),some (.int .i64 mo),some ((.pointer (some ⟨b7,0,none⟩))),some ((.pointer (some ⟨b7,0,none⟩))),some ((.pointer (some ⟨b7,2,none⟩))),some (.slice (some ⟨gI,0,none⟩) nI cI),some (.slice (some ⟨gI,0,none⟩) nI nI),some (.agg #[.int .i64 mo, .slice (some ⟨gI,0,none⟩) nI nI]),none] rfl (fun j v W=>∃ g,v=.slice (some ⟨g,0,none⟩) 1 1 /\ zC W g [.int .i64 mo, .slice (some ⟨gI,0,none⟩) nI nI]) (fun j v W W' h hk=>by exact J165 _) ?_ ?_
    ·refine ⟨?_,?_,?_,?_,?_,?_,?_,?_,?_,?_,?_,?_,?_,trivial⟩ <;> (intro vs gs W Q' hR hd hK;have HRW:Keeps zA w9 W:=((zH w9).drew).zB hR;simp only [zA1,zAg,zBQ,zJ,tz,Option.bind,Act.put] at hd hK ⊢;try simp only [hd] at hK ⊢)
     all_goals try (try clear hd;go_wp2_with (go_at_call 72;refine (zIb _ gI nI cI hcI.1 hcI.2).mono ?_;rintro e W1 ⟨rfl,rfl⟩);first | exact hK _ _ (Keeps.refl _ _) rfl)
     ·exact J34 _
    ·intro vs W hR hFF
     have HRW:Keeps zA w9 W:=((zH w9).drew).zB hR;obtain ⟨g12,e12,rg12⟩:=(hFF 12 (by decide):∃ g,vs 12=.slice (some ⟨g,0,none⟩) 1 1 /\ zC W g [.int .i64 mo, .slice (some ⟨gI,0,none⟩) nI nI]);have e0:vs 0=_:=hFF 0 (by decide);have e1:vs 1=_:=hFF 1 (by decide);simp only [zJ,tz,Option.bind,Act.put];rw [e0,e1,e12];have HRG:=Lib.hid rg12;have HKW9:=Lib.hid HRW;have HBW9:=Lib.hid (HRZ9.out.keeps HRW (fun h=>h));have HOWW:=Lib.hid (zF HOW9.out HRW (fun _ _ h=>h));clear hFF e0 e1 e12 rg12 hR HRW yz yb;go_upto_region 11 with (at_builtin;refine zI _ (by rfl) _ _ 76 (by rfl) 0 161 j0 _ 2 32 Tryz.underlying76 hj0 hy0 hy1 hy2 rfl (by decide) (.slice ta i tc) i L (by rfl) HOWW.out (.slice (some ⟨g12,0,none⟩) 1 1) 1 [.int .i64 mo, .slice (some ⟨gI,0,none⟩) nI nI] (by rfl) (zC.src HRG.out) rfl (by simp [Value.oneCell']) (by unfold maxLen;omega) (by omega) (Nat.zero_le _) ?_;intro ta2 tc2 w10 hout;have HO:=Lib.hid hout;have zr:=HBW9.out.keeps (zi.keeps hout (Keeps.refl (fun q=>(Value.slice ta i tc).ownBlock=some q) _) (fun q e _=>e)) (fun e=>(HP3.out z e).1 rfl);have zc:=zr.cell (k:=2) rfl;have zf:=zr.free (k:=2) (by simp);have HZR:=Lib.hid zr;clear hout zr)
     have hrow:=HZR.out.set 2 (by simp) (.slice ta2 (i+1) tc2);have kS:Keeps (fun q=>q=z) w10 (w10.setCell ⟨z,2,none⟩ (.slice ta2 (i+1) tc2)):=(Keeps.refl (fun q=>q=z) w10).setCell (p:=⟨z,2,none⟩) (fun _=>rfl) _;have hrow:zC (w10.setCell ⟨z,2,none⟩ (.slice ta2 (i+1) tc2)) z [.slice ad nc nc, .int .i64 mu, .slice ta2 (i+1) tc2]:=hrow;generalize w10.setCell ⟨z,2,none⟩ (.slice ta2 (i+1) tc2)=w11 at hrow kS ⊢;have kA:Keeps (fun q=>(Value.slice ta i tc).ownBlock=some q) W w10:=zi.keeps HO.out (Keeps.refl _ _) (fun q e _=>e)
     have hnew:∀ q,(Value.slice ta2 (i+1) tc2).ownBlock=some q -> q ≠ z /\ w4.heap.size <= q:=fun q e=>by
      rcases HO.out.2.2 q e with g | g
      ·exact HP3.out q g
      ·have h1:=HKW9.out.size
       have h2:=HK9.out.size;have h3:=HP5.out.2;have h4:=HRZ9.out.lt (by simp);exact J47 _
     have HFIN:Hid (zC w11 z [.slice ad nc nc, .int .i64 mu, .slice ta2 (i+1) tc2] /\ w11.ownsRow 0 161 2 (.slice ta2 (i+1) tc2) (i+1) (L++[.int .i64 mo, .slice (some ⟨gI,0,none⟩) nI nI]) /\ (∀ q,(Value.slice ta2 (i+1) tc2).ownBlock=some q -> q ≠ z /\ w4.heap.size <= q) /\ zC w11 b2 [.slice none 0 0, .int .i64 0, .slice none 0 0] /\ Keeps zA w w11 /\ w4.heap.size <= w11.heap.size):=by
      have hz:=HZ.out;have h42:=HK04.out.size;have h34:=HK4.out.size;have h03:=HK3'.out.size;refine ⟨hrow,zF HO.out.1 kS (fun q e e2=>(hnew q e).1 e2),hnew,((HR29.out.keeps HKW9.out (fun h=>h)).keeps kA (fun e=>by have:=(HP3.out b2 e).2;omega)).keeps kS (fun e=>by have e':b2=z:=e;omega),?_,?_⟩
      ·exact (((HP5.out.1.zB HK9.out).zB HKW9.out).trans kA (fun q hq e=>by have:=(HP3.out q e).2;omega)).trans kS (fun q hq e=>by have e':q=z:=e;omega)
      ·have h1:=HKW9.out.size
       have h2:=HK9.out.size;have h3:=HP5.out.2;have h4:=kA.size;have h5:=kS.size;omega
     have HXN:Hid (i+1=1 -> ∀ rg,bs=[⟨rg,[]⟩] -> ∃ gI,zU w11 (.slice ta2 1 tc2) 1 [.int .i64 rg, .slice (some ⟨gI,0,none⟩) 1 1] /\ zU w11 (.slice (some ⟨gI,0,none⟩) 1 1) 1 [.int .i64 29, .int .i64 0, .int .i64 0, .int .i64 0] /\ w4.heap.size <= gI):=fun hi1 rg' e=>by
      obtain ⟨er,el⟩:=HBI rg' e;obtain ⟨em,el8⟩:=H8.out.2.2.2 el;have h0:i=0:=by omega
      have hn1:nI=1:=by rw [hgI.out.1,el8];rfl
      have hL:L=[]:=List.eq_nil_of_length_eq_zero (by have:=HOW9.out.1;rw [h0] at this;simpa using this);have ho:=HFIN.out.2.1;have hg:=hgI.out.2.1;rw [h0,hL,List.nil_append,em,er,hn1] at ho;rw [el8,List.nil_append] at hg;have hz:=HZ7.out;have h42:=HP5.out.2;refine ⟨gI,(zBL.of (B:=0) ho (fun _ _=>Nat.zero_le _)).src,zC.src (((hg.keeps HKW9.out (fun h=>h)).keeps kA (fun e=>?_)).keeps kS (fun e=>by have e':gI=z:=e;have:=hgI.out.2.2.2;omega)),?_⟩
      ·have h1:gI < wr.heap.size:=by have:=zS HPO.out e;omega
       have h2:=hgI.out.2.2.2;have h3:=HK7.out.size;omega
      ·have h2:=hgI.out.2.2.2
       have h3:=HK7.out.size;omega
     clear hrow kS kA zc zf hnew;go_wp2_with fail
     exact ⟨⟨i+1,ta2,tc2,_,by omega,by go_num,HFIN.out,HXN.out⟩,by simp [intOf];omega⟩
   ·obtain rfl:i=nb:=by omega
    have y:=HP.out.1.zAo;have kz:=zH wr;have hb:=HP.out.2.2.2.1;have c0:=hb.cell (k:=0) rfl;have c1:=hb.cell (k:=1) rfl;have c2:=hb.cell (k:=2) rfl;have g0:=hb.free (k:=0) (by decide);have g1:=hb.free (k:=1) (by decide);have g2:=hb.free (k:=2) (by decide);have HBR:=Lib.hid hb;clear hb;go_wp2_with fail
    have hrow:zC (((wr.setCell ⟨b2,0,none⟩ (.slice ad nc nc)).setCell ⟨b2,1,none⟩ (.int .i64 mu)).setCell ⟨b2,2,none⟩ (.slice ta i tc)) b2 [.slice ad nc nc, .int .i64 mu, .slice ta i tc]:=((HBR.out.set 0 (by simp) _).set 1 (by simp) _).set 2 (by simp) _
    have hks:Keeps (fun q=>q=b2) wr (((wr.setCell ⟨b2,0,none⟩ (.slice ad nc nc)).setCell ⟨b2,1,none⟩ (.int .i64 mu)).setCell ⟨b2,2,none⟩ (.slice ta i tc)) :=
     (((Keeps.refl (fun q=>q=b2) wr).setCell (p:=⟨b2,0,none⟩) (fun _=>rfl) _).setCell (p:=⟨b2,1,none⟩) (fun _=>rfl) _).setCell (p:=⟨b2,2,none⟩) (fun _=>rfl) _
    generalize ((wr.setCell ⟨b2,0,none⟩ (.slice ad nc nc)).setCell ⟨b2,1,none⟩ (.int .i64 mu)).setCell ⟨b2,2,none⟩ (.slice ta i tc)=wE at hrow hks ⊢;refine bodyPost_ret (v:=.tuple #[.agg #[.slice ad nc nc, .int .i64 mu, .slice ta i tc], .int .i64 0]) (by simp [results,Tryz.results32,go_sem,hrow.cell (k:=0) rfl,hrow.cell (k:=1) rfl,hrow.cell (k:=2) rfl]) rfl ?_
    have hz:=HZ.out;have h34:=HK4.out.size;refine ⟨ad,ta,tc,rfl,HP.out.2.2.2.2.1.trans hks (fun q hq e=>by have e':q=b2:=e;have:=HB2.out.1;omega),fun rg e=>?_⟩
    have hn1:i=1:=by rw [HNB.out,e];rfl
    obtain ⟨gI,s1,s2,s3⟩:=HX.out hn1 rg e;rw [hn1] at HP;exact ⟨gI,s1.keeps hks (fun q e1 e2=>by have e':q=b2:=e2;have:=(HP.out.2.2.1 q e1).2;omega),s2.keeps hks (fun q e1 e2=>by have e':q=b2:=e2;simp [Value.ownBlock] at e1;omega)⟩
end Go.Proofs.YtoapgjjepiopbaaGreatDoor
