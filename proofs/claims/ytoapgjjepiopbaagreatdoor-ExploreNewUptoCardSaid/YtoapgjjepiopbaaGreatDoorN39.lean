/- Layer N: texts joined. -/
import Derived.Test.YtoapgjjepiopbaaGreatDoorN28
import Derived.Test.YtoapgjjepiopbaaGreatDoorN38
set_option linter.all false
set_option maxHeartbeats 8000000
set_option maxRecDepth 8000
namespace Go.Proofs.YtoapgjjepiopbaaGreatDoor
open Go.RowKit
theorem J12 (P:Prop) (h:P:=by
 go_enter Tryz.func128,Tryz.ntmps128
 go_wp2_with fail
 go_ret3
 exact ⟨zAy.of _ _ _,Keeps.refl _ _⟩):P:=h
theorem zU.zPQ {w:World} {v:Value} {l:List LIn} (h:zU w v l.length (l.flatMap LIn.cells)):∃ ad cap,v=.slice ad l.length cap /\ ∀ k x,l[k]?=some x -> ∃ g o,ad=some ⟨g,o,none⟩ /\ w.cell? ⟨g,o+k*4,none⟩=some (.int .i64 x.op) /\ w.cell? ⟨g,o+k*4+1,none⟩=some (.int .i64 x.a) /\ w.cell? ⟨g,o+k*4+2,none⟩=some (.int .i64 x.b) /\ w.cell? ⟨g,o+k*4+3,none⟩=some (.int .i64 x.c):=by
 obtain ⟨ad,cap,e,h1⟩:=h;refine ⟨ad,cap,e,fun k x hx=>?_⟩
 have hk:=(List.getElem?_eq_some_iff.1 hx).1;obtain ⟨g,o,e1,h2⟩:=h1 (by omega);have hc:∀ j,j < 4 -> ∀ u,x.cells[j]?=some u -> w.cell? ⟨g,o+(k*4+j),none⟩=some u:=fun j hj u hu=>h2 (k*4+j) u (by rw [zAu _ 4 zBb l k j hj,hx];exact hu)
 exact ⟨g,o,e1,hc 0 (by decide) _ rfl,by rw [Nat.add_assoc];exact hc 1 (by decide) _ rfl,by rw [Nat.add_assoc];exact hc 2 (by decide) _ rfl,by rw [Nat.add_assoc];exact hc 3 (by decide) _ rfl⟩
def zAy (e:Ending):Prop:=∃ a b c:Bool,e=.returned (.tuple #[.bool a, .bool b, .bool c])
theorem zAy.of (a b c:Bool):zAy (.returned (.tuple #[.bool a, .bool b, .bool c])):=⟨a,b,c,rfl⟩
theorem zKB (k:Int) (w:World):Calls Tryz.prog 128 #[.int .i64 k] w fun e w'=>zAy e /\ Keeps zA w w':=by
 by_cases h1:k=1
 ·subst h1
  exact J12 _
 have kb1:(k==1)=false:=by simpa using h1
 by_cases h19:k=19
 ·subst h19
  exact J12 _
 have kb19:(k==19)=false:=by simpa using h19
 by_cases h20:k=20
 ·subst h20
  exact J12 _
 have kb20:(k==20)=false:=by simpa using h20
 by_cases h21:k=21
 ·subst h21
  exact J12 _
 have kb21:(k==21)=false:=by simpa using h21
 by_cases h28:k=28
 ·subst h28
  exact J12 _
 have kb28:(k==28)=false:=by simpa using h28
 by_cases h2:k=2
 ·subst h2
  exact J12 _
 have kb2:(k==2)=false:=by simpa using h2
 by_cases h3:k=3
 ·subst h3
  exact J12 _
 have kb3:(k==3)=false:=by simpa using h3
 by_cases h4:k=4
 ·subst h4
  exact J12 _
 have kb4:(k==4)=false:=by simpa using h4
 by_cases h22:k=22
 ·subst h22
  exact J12 _
 have kb22:(k==22)=false:=by simpa using h22
 by_cases h23:k=23
 ·subst h23
  exact J12 _
 have kb23:(k==23)=false:=by simpa using h23
 clear h1 h19 h20 h21 h28 h2 h3 h4 h22 h23;by_cases h5:5 <= k
 ·by_cases h6:k <= 17
  ·exact J12 _
  ·exact J12 _
 ·exact J12 _
theorem zFe (l:List LIn) (w:World) (la:Option Addr) (lc:Nat) (m:Int) (h:zU w (.slice la l.length lc) l.length (l.flatMap LIn.cells)) (hl:l.length < 1000000) :
 Calls Tryz.prog 78 #[.slice la l.length lc, .int .i64 m] w fun e w'=>(∃ z,e=.returned (.int .i64 z)) /\ Keeps zA w w':=by
 obtain ⟨ad,cap,e,h1⟩:=h.zPQ;cases e;have HS:=Lib.hid h1;obtain ⟨n,hn⟩:=eX l.length;have HN:=Lib.hid hn;have hn6:n < 1000000:=by omega
 rw [<- hn];clear h h1 hl hn;go_enter Tryz.func78,Tryz.ntmps78
 go_wp2_with fail
 go_loopw [5,6] (fun nv iv wr=>∃ (i:Nat) (z:Int),i <= n /\ nv=.int .i64 z /\ iv=.int .i64 i /\ Hid (Keeps zA w wr)) (fun _ iv _=>n - (intOf iv).toNat)
 case atStart=>exact ⟨0,m,Nat.zero_le _,rfl,rfl,Keeps.refl _ _⟩
 case round =>
  obtain ⟨i,z,hi,rfl,rfl,HK⟩:=hrel;by_cases hlt:i < n
  ·have i1:(0:Int) <= i:=by omega
   have i2:(i:Int) < n:=by omega
   have hlt':i < l.length:=by have:=HN.out;omega
   obtain ⟨g,o,rfl,c0,c1,c2,c3⟩:=HS.out i l[i] (List.getElem?_eq_getElem hlt')
   have d:∀ W,Keeps zA wr W -> W.cell? ⟨g,o+i*4,none⟩=some (.int .i64 l[i].op) /\ W.cell? ⟨g,o+i*4+1,none⟩=some (.int .i64 l[i].a) /\ W.cell? ⟨g,o+i*4+2,none⟩=some (.int .i64 l[i].b) /\ W.cell? ⟨g,o+i*4+3,none⟩=some (.int .i64 l[i].c):=fun W q=>by
    have hk:=HK.out.zB q;exact ⟨hk.cell (fun h=>h) c0,hk.cell (fun h=>h) c1,hk.cell (fun h=>h) c2,hk.cell (fun h=>h) c3⟩
   generalize l[i].op=x0 at d;generalize l[i].a=x1 at d;generalize l[i].b=x2 at d;generalize l[i].c=x3 at d;have k1:=zH wr;clear c0 c1 c2 c3;go_upto_region 6 with (go_at_call 128;refine (zKB x0 _).mono ?_;rintro e w2 ⟨⟨a,b,c,rfl⟩,g2⟩;have HG2:Hid (Keeps zA w w2):=HK.out.zB g2;have d2:=fun (W:World) (q:Keeps zA w2 W)=>d W (g2.zB q);clear d k1;have k1:=zH w2;clear g2)
   cases a <;> cases b <;> cases c
   all_goals (
    go_wp2_with fail
    exact ⟨⟨i+1,_,by omega,rfl,by go_num,HG2.out⟩,by simp [intOf];omega⟩)
  ·obtain rfl:i=n:=by omega
   go_wp2_with fail
   go_ret
   exact ⟨⟨z,rfl⟩,HK.out⟩
theorem zJ1 {cs:List Int} {mu:Int} {bs:List Bd} {w:World} {F:Nat -> Prop} {uca uta:Option Addr} (ucc utc:Nat) (h:zCN w F cs bs uca uta) (hr:zu ⟨cs,mu,bs⟩=true) :
 Calls Tryz.prog 35 #[.agg #[.slice uca cs.length ucc, .int .i64 mu, .slice uta bs.length utc]] w fun e w'=>∃ ca cc ta tc,e=.returned (.tuple #[.agg #[.slice ca cs.length cc, .int .i64 mu, .slice ta bs.length tc], .int .i64 0]) /\ Keeps zA w w':=by
 have hri:=zCp hr;have h8:bs.length <= 8:=hri.2.1;have hc8:cs.length <= 8:=hri.2.2.1;have HA:Hid (∀ i (hi:i < bs.length),Ac.zq ⟨cs,mu,bs⟩ bs[i].regs bs[i].acts=true /\ Ac.zM bs[i].acts <= 500):=fun i hi=>⟨(hri.2.2.2.2.2 _ (List.getElem_mem hi)).2.2.1,zFV hr (List.getElem_mem hi)⟩
 obtain ⟨nc,hnc⟩:=eX cs.length;obtain ⟨nb,hnb⟩:=eX bs.length;have HNC:=Lib.hid hnc;have HNB:=Lib.hid hnb
 have HRT:Hid (∀ W,Keeps zA w W -> Calls Tryz.prog 20 #[.agg #[.slice uca nc ucc, .int .i64 mu, .slice uta nb utc]] W fun e w'=>e=.returned (.bool true) /\ Keeps zA W w'):=fun W hk=>by
  have h0:=h.zD hk;have:=zEG cs mu bs W F uca uta ucc utc h0.nums h0.bds h0.low h0.sz h0.l1 h0.l2
  rw [hr] at this;rw [hnc,hnb];exact this
 have HCS:Hid (zU w (.slice uca nc ucc) nc (ints cs)):=by rw [hnc];exact zAn.src h.nums
 have HU:=Lib.hid h;have h8':nb <= 8:=by omega
 have hc8':nc <= 8:=by omega
 obtain ⟨j0,hj0,hy0,hy1,hy2⟩:=info_parts zHe;obtain ⟨i0,hi0,hz0,hz1,hz2⟩:=info_parts zA8;rw [<- hnc,<- hnb];clear h hr hri h8 hc8 hnc hnb;go_enter Tryz.func35,Tryz.ntmps35
 go_upto_region 1 with fail
 obtain ⟨b1,w1,e1,e2,R1,K1,S1⟩:=newRow w [.slice uca nc ucc, .int .i64 mu, .slice uta nb utc] 25;rw [e1,e2];obtain ⟨b2,w2,e3,e4,R2,K2,_⟩:=newRow w1 [.slice none 0 0, .int .i64 0, .slice none 0 0] 78;rw [<- S1.out,e3,e4];have HB2:Hid (w.heap.size <= b2 /\ b1 < b2):=⟨by rw [<- e3];exact K1.size,by rw [<- e3];exact R1.lt (by simp)⟩;have HR1:=Lib.hid (R1.keeps K2 (fun h=>h));have HR2:=Lib.hid R2;have HK2:Hid (Keeps zA w w2):=K1.zB K2;have y:=HR1.out.zAo;have k2:=zH w2;clear e1 e2 e3 e4 R1 R2 K1 K2 S1;go_upto_region 4 with (go_at_call 20;refine (HRT.out _ HK2.out).mono ?_;rintro e w3 ⟨rfl,g3⟩;have HK3:=Lib.hid g3;have y3:=(HR1.out.keeps g3 (fun h=>h)).zAo;clear g3 y k2;have k2:=zH w3)
 have HR1':=Lib.hid (HR1.out.keeps HK3.out (fun h=>h));have HR2':=Lib.hid (HR2.out.keeps HK3.out (fun h=>h));have HK3':Hid (Keeps zA w w3):=HK2.out.zB HK3.out;clear HR1 HR2 HK2 HK3;go_upto_region 5 with fail
 obtain ⟨z,wz,e1,e2,R4,K4,_⟩:=newRow w3 [.slice none 0 0, .int .i64 mu, .slice none 0 0] 78;try rw [e1]
 try rw [e2]
 have HZ:Hid (z=w3.heap.size /\ b2 < w3.heap.size /\ b1 < w3.heap.size):=⟨e1.symm,HR2'.out.lt (by simp),HR1'.out.lt (by simp)⟩;have HR4:=Lib.hid R4;have HK4:=Lib.hid K4;have y:=(HR1'.out.keeps K4 (fun h=>h)).zAo;have yz:=R4.zAo;have kz:=zH wz;clear e1 e2 R4 K4 y3 k2;go_upto_region 6 with (at_builtin;refine zI _ (by rfl) _ _ 22 (by rfl) 0 3 i0 _ 1 8 Tryz.underlying22 hi0 hz0 hz1 hz2 rfl (by decide) (.slice none 0 0) 0 [] (by rfl) (World.ownsRow_nil _ _ _ _) (.slice uca nc ucc) nc (ints cs) (by rfl) (HCS.out.keeps (HK3'.out.zB HK4.out) (fun _ _ h=>h)) (by simp [ints,HNC.out]) (by simp [ints,Value.oneCell']) (by unfold maxLen;omega) (by omega) (Nat.zero_le _) ?_;intro ad cc w4 hout;have HO:=Lib.hid hout;have HK5:Hid (Keeps zA wz w4):=(zi.keeps hout (Keeps.refl (fun q=>False) _) (fun q e _=>by exact J152 _)).mono (fun _ _ h=>h.elim);have zr:=HR4.out.keeps HK5.out (fun h=>h);have zc:=zr.cell (k:=0) rfl;have zf:=zr.free (k:=0) (by simp);have HZR:=Lib.hid zr;clear hout zr y yz kz)
 have hrow:=HZR.out.set 0 (by simp) (.slice ad nc cc);have kS:Keeps (fun q=>q=z) w4 (w4.setCell ⟨z,0,none⟩ (.slice ad nc cc)):=(Keeps.refl (fun q=>q=z) w4).setCell (p:=⟨z,0,none⟩) (fun _=>rfl) _;have hrow:zC (w4.setCell ⟨z,0,none⟩ (.slice ad nc cc)) z [.slice ad nc cc, .int .i64 mu, .slice none 0 0]:=hrow;generalize w4.setCell ⟨z,0,none⟩ (.slice ad nc cc)=w5 at hrow kS ⊢
 have HP5:Hid (zC w5 z [.slice ad nc cc, .int .i64 mu, .slice none 0 0] /\ zC w5 b2 [.slice none 0 0, .int .i64 0, .slice none 0 0] /\ zC w5 b1 [.slice uca nc ucc, .int .i64 mu, .slice uta nb utc] /\ Keeps zA w w5):=by
  have hz:=HZ.out;have h03:=HK3'.out.size;refine ⟨hrow,((HR2'.out.keeps HK4.out (fun h=>h)).keeps HK5.out (fun h=>h)).keeps kS (fun e=>by have e':b2=z:=e;omega),((HR1'.out.keeps HK4.out (fun h=>h)).keeps HK5.out (fun h=>h)).keeps kS (fun e=>by have e':b1=z:=e;omega),?_⟩
  exact ((HK3'.out.zB HK4.out).zB HK5.out).trans kS (fun q hq e=>by have e':q=z:=e;omega)
 have HZ5:Hid (b2 < w5.heap.size /\ z < w5.heap.size):=⟨HP5.out.2.1.lt (by simp),HP5.out.1.lt (by simp)⟩;clear hrow kS zc zf HZR HO HR4 HK5;go_wp2_with fail
 go_loopw [6] (fun iv wr=>∃ (i:Nat) (ta:Option Addr) (tc:Nat) (L:List Value),i <= nb /\ iv=.int .i64 i /\ Hid (zC wr z [.slice ad nc cc, .int .i64 mu, .slice ta i tc] /\ wr.ownsRow 0 161 2 (.slice ta i tc) i L /\ (∀ q,(Value.slice ta i tc).ownBlock=some q -> w5.heap.size <= q) /\ zC wr b2 [.slice none 0 0, .int .i64 0, .slice none 0 0] /\ zC wr b1 [.slice uca nc ucc, .int .i64 mu, .slice uta nb utc] /\ Keeps zA w wr /\ w5.heap.size <= wr.heap.size)) (fun iv _=>nb - (intOf iv).toNat)
 case atStart=>exact ⟨0,none,0,[],Nat.zero_le _,rfl,HP5.out.1,World.ownsRow_nil _ _ _ _,fun q e=>by exact J152 _,HP5.out.2.1,HP5.out.2.2.1,HP5.out.2.2.2,Nat.le_refl _⟩
 case round =>
  obtain ⟨i,ta,tc,L,hi,rfl,HP⟩:=hrel;have y:=HP.out.2.2.2.2.1.zAo;have kr:=zH wr;by_cases hlt:i < nb
  ·have i1:(0:Int) <= i:=by omega
   have i2:(i:Int) < nb:=by omega
   have hlt':i < bs.length:=by have:=HNB.out;omega
   have HUR:=HU.out.zD HP.out.2.2.2.2.2.1;obtain ⟨g,o,ba,bc,e1,hg,c0,c1,hxa⟩:=HUR.bds i hlt';subst e1;have hA:=HA.out i hlt';generalize bs[i].regs=rg at c0 hA;generalize bs[i].acts=l at c1 hxa hA;obtain ⟨nl,hnl⟩:=eX l.length;have HNL:=Lib.hid hnl;rw [<- hnl] at c1;have HBW:Hid (z < wr.heap.size /\ b2 < wr.heap.size /\ b1 < wr.heap.size):=⟨HP.out.1.lt (by simp),HP.out.2.2.2.1.lt (by simp),HP.out.2.2.2.2.1.lt (by simp)⟩;have HLX:Hid (zAG wr F l ba /\ (∀ k,F k -> k < wr.heap.size) /\ Ac.zq ⟨cs,mu,bs⟩ rg l=true /\ Ac.zM l <= 500):=⟨hxa,HUR.low,hA⟩;have d1:=zL c1;have d0:=zL c0;clear HUR hxa hA hnl hg c0 c1;go_upto_region 10 with fail
   obtain ⟨b7,w7,e1,e2,R7,K7,_⟩:=newRow wr [.int .i64 rg, .slice none 0 0] 173;try rw [e1]
   try rw [e2]
   have HB7:Hid (b7=wr.heap.size):=e1.symm;have HC7:Hid (zAB w7 b7 (.slice none 0 0) rg 0):=⟨[],⟨R7,World.ownsRow_nil _ _ _ _,fun q e=>by exact J152 _,none,0,rfl⟩,rfl⟩;have HK7:=Lib.hid K7;have y7:=(HP.out.2.2.2.2.1.keeps K7 (fun h=>h)).zAo;have d7:=fun (W:World) (q:Keeps zA w7 W)=>d1 W (K7.zB q)
   have k7:=zH w7
   have HCA:Hid (Calls Tryz.prog 76 #[.pointer (some ⟨b7,0,none⟩), .slice ba nl bc, .int .i64 0] w7 (zh zAB w7 b7 (.slice none 0 0) rg 0 (2*Ac.zM l) (.tuple #[]))):=by
    show Calls _ _ _ _ _
    rw [HNL.out]
    exact zMl l ⟨cs,mu,bs⟩ rg b7 rg F w7 _ 0 0 ba bc HC7.out (HLX.out.1.keeps HK7.out (fun _ _ h=>h)) (fun q hq=>⟨Nat.lt_of_lt_of_le (HLX.out.2.1 q hq) HK7.out.size,fun e=>by
     have h1:=HLX.out.2.1 q hq;have h2:=HB7.out;rcases e with e | e
     ·omega
     ·simp [Value.ownBlock] at e⟩) HLX.out.2.2.1 (by have:=HLX.out.2.2.2;omega)
   clear e1 e2 R7 K7 d0 d1 y kr;go_upto_region 11 with (go_at_call 76;refine HCA.out.mono ?_;rintro e w8 ⟨v8,n8,rfl,_,h8a,h8b,h8c⟩;have H8:Hid (n8 <= 1000 /\ zAB w8 b7 v8 rg n8 /\ zK w7 b7 (.slice none 0 0) w8 v8):=⟨by have:=HLX.out.2.2.2;omega,h8b,h8c⟩;clear h8a h8b h8c y7 k7 d7)
   go_upto_region 12 with (go_at_call 77;refine (zBn H8.out.2.1 ⟨_,_,_,_⟩ (by have:=H8.out.1;omega)).mono ?_;rintro e w9 ⟨v9,rfl,h9a,h9b⟩;have H9:Hid (zAB w9 b7 v9 rg (n8+1) /\ zK w7 b7 (.slice none 0 0) w9 v9):=⟨h9a,zK.trans HC7.out.lt H8.out.2.2 h9b⟩;clear h9a h9b)
   obtain ⟨gI,nI,cI,hv9,hcI,HRI⟩:∃ gI nI cI,v9=.slice (some ⟨gI,0,none⟩) nI cI /\ (nI <= cI /\ cI <= maxLen) /\ Hid (∃ l9:List LIn,l9.length=nI /\ nI <= 1001 /\ zC w9 gI (l9.flatMap LIn.cells) /\ zC w9 b7 [.int .i64 rg, .slice (some ⟨gI,0,none⟩) nI cI]):=by
    obtain ⟨l9,hc,hl9⟩:=H9.out.1;obtain ⟨la,lc,hf⟩:=hc.form;have ho:=hc.own;have hrw:=hc.row;rw [hf] at ho hrw;rcases ho.2 with ⟨e,_⟩ | ⟨gI,cap,cur,e,_,_,h1,h2,_⟩
    ·simp only [Value.slice.injEq] at e
     omega
    ·simp only [Value.slice.injEq] at e
     obtain ⟨rfl,h3,rfl⟩:=e;exact ⟨gI,_,lc,hf,⟨h1,h2⟩,l9,rfl,by have:=H8.out.1;omega,zC.zAM ho,hrw⟩
   subst hv9
   have HM9:Hid (∀ q,q < w7.heap.size -> q ≠ b7 -> ¬ Mine b7 (.slice none 0 0) q):=fun q h1 h2 e=>by
    rcases e with e | e
    ·exact h2 e
    ·simp [Value.ownBlock] at e
   have HZ7:Hid (z < w7.heap.size /\ z ≠ b7 /\ b2 ≠ b7 /\ b2 < w7.heap.size /\ b1 ≠ b7 /\ b1 < w7.heap.size):=by have h1:=HBW.out;have h2:=HB7.out;have h3:=HK7.out.size;exact ⟨by omega,by omega,by omega,by omega,by omega,by omega⟩
   have HK79:=H9.out.2.keeps;have HRZ9:=Lib.hid ((HP.out.1.keeps HK7.out (fun h=>h)).keeps HK79 (HM9.out z HZ7.out.1 HZ7.out.2.1));have HR29:=Lib.hid ((HP.out.2.2.2.1.keeps HK7.out (fun h=>h)).keeps HK79 (HM9.out b2 HZ7.out.2.2.2.1 HZ7.out.2.2.1));have HR19:=Lib.hid ((HP.out.2.2.2.2.1.keeps HK7.out (fun h=>h)).keeps HK79 (HM9.out b1 HZ7.out.2.2.2.2.2 HZ7.out.2.2.2.2.1))
   have HOW9:Hid (w9.ownsRow 0 161 2 (.slice ta i tc) i L):=zF (zF HP.out.2.1 HK7.out (fun _ _ h=>h)) HK79 (fun q e=>by
    have h1:q < wr.heap.size:=zS HP.out.2.1 e;have h2:=HB7.out;have h3:=HK7.out.size;exact HM9.out q (by omega) (by omega))
   have HK9:Hid (Keeps zA wr w9):=HK7.out.trans HK79 (fun q hq e=>by
    have h2:=HB7.out;rcases e with e | e
    ·omega
    ·simp [Value.ownBlock] at e)
   have HRG9:Hid (∀ W,Keeps zA w9 W -> Calls Tryz.prog 78 #[.slice (some ⟨gI,0,none⟩) nI cI, .int .i64 rg] W fun e w'=>(∃ z,e=.returned (.int .i64 z)) /\ Keeps zA W w'):=fun W hk=>by
    obtain ⟨l9,e9,n9,r9,_⟩:=HRI.out;subst e9;exact zFe l9 W _ cI rg (zC.src (r9.keeps hk (fun h=>h))) (by omega)
   have HRB9:Hid (zC w9 b7 [.int .i64 rg, .slice (some ⟨gI,0,none⟩) nI cI]):=by obtain ⟨_,_,_,_,r⟩:=HRI.out;exact r
   have yb:=HRB9.out.all2;have hi8:i < 8:=by omega
   have HP3:=Lib.hid HP.out.2.2.1;have HP6:Hid (Keeps zA w wr /\ w5.heap.size <= wr.heap.size):=HP.out.2.2.2.2.2;clear HK79 HP;refine zAs 9 (by kernel_rfl) [some ((.pointer (some ⟨b7,0,none⟩))),some ((.pointer (some ⟨b7,0,none⟩))),some ((.pointer (some ⟨b7,1,none⟩))),some (.slice (some ⟨gI,0,none⟩) nI cI),some ((.pointer (some ⟨b7,0,none⟩))),some ((.pointer (some ⟨b7,0,none⟩))),some ((.pointer (some ⟨b7,0,none⟩))),some (.int .i64 rg),none] rfl (fun j v W=>∃ z,v=.int .i64 z) (fun j v W W' h hk=>h) ?_ ?_
   ·refine ⟨?_,?_,?_,?_,?_,?_,?_,?_,?_,trivial⟩ <;> (intro vs gs W Q' hR hd hK;have HRW:Keeps zA w9 W:=((zH w9).drew).zB hR;simp only [zA1,zAg,zBQ,zJ,tz,Option.bind,Act.put] at hd hK ⊢;try simp only [hd] at hK ⊢)
    all_goals try (try clear hd;go_wp2_with (fail);first | exact hK _ _ (Keeps.refl _ _) rfl)
    ·clear hd
     go_wp2_with (go_at_call 78;refine (HRG9.out _ HRW).mono ?_;rintro e W1 ⟨⟨z,rfl⟩,g1⟩)
     exact hK _ _ g1 ⟨z,rfl⟩
   ·intro vs W hR hFF
    have HRW:Keeps zA w9 W:=((zH w9).drew).zB hR;obtain ⟨mo,e8⟩:=(hFF 8 (by decide):∃ z,vs 8=.int .i64 z);simp only [zJ,tz,Option.bind,Act.put];rw [e8];have HKWa:=Lib.hid HRW;have HRBa:=Lib.hid (HRB9.out.keeps HRW (fun h=>h));have HRZa:=Lib.hid (HRZ9.out.keeps HRW (fun h=>h));have HOWa:=Lib.hid (zF HOW9.out HRW (fun _ _ h=>h));clear hFF e8 hR HRW yb;go_upto_region 13 with fail
    obtain ⟨wa,hwa⟩:=eX W;rw [<- hwa] at HKWa HRBa HRZa HOWa ⊢;clear hwa;have yb:=HRBa.out.all2;have yz:=HRZa.out.zAo;refine zAs 9 (by kernel_rfl) [some ((.pointer (some ⟨z,2,none⟩))),some (.slice ta i tc),some (.int .i64 mo),some ((.pointer (some ⟨b7,0,none⟩))),some ((.pointer (some ⟨b7,0,none⟩))),some ((.pointer (some ⟨b7,1,none⟩))),some (.slice (some ⟨gI,0,none⟩) nI cI),some (.agg #[.int .i64 mo, .slice (some ⟨gI,0,none⟩) nI cI]),none] rfl (fun j v W=>∃ g,v=.slice (some ⟨g,0,none⟩) 1 1 /\ zC W g [.int .i64 mo, .slice (some ⟨gI,0,none⟩) nI cI]) (fun j v W W' h hk=>by exact J165 _) ?_ ?_
    ·refine ⟨?_,?_,?_,?_,?_,?_,?_,?_,?_,trivial⟩ <;> (intro vs gs W Q' hR hd hK;have HRW:Keeps zA wa W:=((zH wa).drew).zB hR;simp only [zA1,zAg,zBQ,zJ,tz,Option.bind,Act.put] at hd hK ⊢;try simp only [hd] at hK ⊢)
     all_goals try (try clear hd;go_wp2_with (fail);first | exact hK _ _ (Keeps.refl _ _) rfl)
     ·exact J34 _
    ·intro vs W hR hFF
     have HRW:Keeps zA wa W:=((zH wa).drew).zB hR;obtain ⟨g12,e12,rg12⟩:=(hFF 8 (by decide):∃ g,vs 8=.slice (some ⟨g,0,none⟩) 1 1 /\ zC W g [.int .i64 mo, .slice (some ⟨gI,0,none⟩) nI cI]);have e0:vs 0=_:=hFF 0 (by decide);have e1:vs 1=_:=hFF 1 (by decide);simp only [zJ,tz,Option.bind,Act.put];rw [e0,e1,e12];have HRG:=Lib.hid rg12;have HKW9:Hid (Keeps zA w9 W):=HKWa.out.zB HRW;have HBW9:=Lib.hid (HRZa.out.keeps HRW (fun h=>h));have HOWW:=Lib.hid (zF HOWa.out HRW (fun _ _ h=>h));clear hFF e0 e1 e12 rg12 hR HRW yz yb;go_upto_region 8 with (at_builtin;refine zI _ (by rfl) _ _ 76 (by rfl) 0 161 j0 _ 2 32 Tryz.underlying76 hj0 hy0 hy1 hy2 rfl (by decide) (.slice ta i tc) i L (by rfl) HOWW.out (.slice (some ⟨g12,0,none⟩) 1 1) 1 [.int .i64 mo, .slice (some ⟨gI,0,none⟩) nI cI] (by rfl) (zC.src HRG.out) rfl (by simp [Value.oneCell']) (by unfold maxLen;omega) (by omega) (Nat.zero_le _) ?_;intro ta2 tc2 w10 hout;have HO:=Lib.hid hout;have zr:=HBW9.out.keeps (zi.keeps hout (Keeps.refl (fun q=>(Value.slice ta i tc).ownBlock=some q) _) (fun q e _=>e)) (fun e=>by have h1:=HP3.out z e;have h2:=HZ5.out.2;omega);have zc:=zr.cell (k:=2) rfl;have zf:=zr.free (k:=2) (by simp);have HZR:=Lib.hid zr;clear hout zr)
     have hrow:=HZR.out.set 2 (by simp) (.slice ta2 (i+1) tc2);have kS:Keeps (fun q=>q=z) w10 (w10.setCell ⟨z,2,none⟩ (.slice ta2 (i+1) tc2)):=(Keeps.refl (fun q=>q=z) w10).setCell (p:=⟨z,2,none⟩) (fun _=>rfl) _;have hrow:zC (w10.setCell ⟨z,2,none⟩ (.slice ta2 (i+1) tc2)) z [.slice ad nc cc, .int .i64 mu, .slice ta2 (i+1) tc2]:=hrow;generalize w10.setCell ⟨z,2,none⟩ (.slice ta2 (i+1) tc2)=w11 at hrow kS ⊢;have kA:Keeps (fun q=>(Value.slice ta i tc).ownBlock=some q) W w10:=zi.keeps HO.out (Keeps.refl _ _) (fun q e _=>e)
     have hnew:∀ q,(Value.slice ta2 (i+1) tc2).ownBlock=some q -> w5.heap.size <= q:=fun q e=>by
      rcases HO.out.2.2 q e with g | g
      ·exact HP3.out q g
      ·have h1:=HKW9.out.size
       have h2:=HK9.out.size;have h3:=HP6.out.2;omega
     have HFIN:Hid (zC w11 z [.slice ad nc cc, .int .i64 mu, .slice ta2 (i+1) tc2] /\ w11.ownsRow 0 161 2 (.slice ta2 (i+1) tc2) (i+1) (L++[.int .i64 mo, .slice (some ⟨gI,0,none⟩) nI cI]) /\ (∀ q,(Value.slice ta2 (i+1) tc2).ownBlock=some q -> w5.heap.size <= q) /\ zC w11 b2 [.slice none 0 0, .int .i64 0, .slice none 0 0] /\ zC w11 b1 [.slice uca nc ucc, .int .i64 mu, .slice (some ⟨g,o,none⟩) nb utc] /\ Keeps zA w w11 /\ w5.heap.size <= w11.heap.size):=by
      have hz:=HZ.out;have h03:=HK3'.out.size;have h05:=HP5.out.2.2.2.size;have hz5:=HZ5.out;have hb12:=HB2.out;refine ⟨hrow,zF HO.out.1 kS (fun q e e2=>by have e2':q=z:=e2;have:=hnew q e;omega),hnew,((HR29.out.keeps HKW9.out (fun h=>h)).keeps kA (fun e=>by have:=HP3.out b2 e;omega)).keeps kS (fun e=>by have e':b2=z:=e;omega),((HR19.out.keeps HKW9.out (fun h=>h)).keeps kA (fun e=>by have:=HP3.out b1 e;omega)).keeps kS (fun e=>by have e':b1=z:=e;omega),?_,?_⟩
      ·exact (((HP6.out.1.zB HK9.out).zB HKW9.out).trans kA (fun q hq e=>by have:=HP3.out q e;omega)).trans kS (fun q hq e=>by have e':q=z:=e;omega)
      ·have h1:=HKW9.out.size
       have h2:=HK9.out.size;have h3:=HP6.out.2;have h4:=kA.size;have h5:=kS.size;omega
     clear hrow kS kA zc zf hnew;go_wp2_with fail
     exact ⟨⟨i+1,ta2,tc2,_,by omega,by go_num,HFIN.out⟩,by simp [intOf];omega⟩
  ·obtain rfl:i=nb:=by omega
   have yq:=HP.out.1.zAo;have hb:=HP.out.2.2.2.1;have c0:=hb.cell (k:=0) rfl;have c1:=hb.cell (k:=1) rfl;have c2:=hb.cell (k:=2) rfl;have g0:=hb.free (k:=0) (by decide);have g1:=hb.free (k:=1) (by decide);have g2:=hb.free (k:=2) (by decide);have HBR:=Lib.hid hb;clear hb;go_wp2_with fail
   have hrow:zC (((wr.setCell ⟨b2,0,none⟩ (.slice ad nc cc)).setCell ⟨b2,1,none⟩ (.int .i64 mu)).setCell ⟨b2,2,none⟩ (.slice ta i tc)) b2 [.slice ad nc cc, .int .i64 mu, .slice ta i tc]:=((HBR.out.set 0 (by simp) _).set 1 (by simp) _).set 2 (by simp) _
   have hks:Keeps (fun q=>q=b2) wr (((wr.setCell ⟨b2,0,none⟩ (.slice ad nc cc)).setCell ⟨b2,1,none⟩ (.int .i64 mu)).setCell ⟨b2,2,none⟩ (.slice ta i tc)) :=
    (((Keeps.refl (fun q=>q=b2) wr).setCell (p:=⟨b2,0,none⟩) (fun _=>rfl) _).setCell (p:=⟨b2,1,none⟩) (fun _=>rfl) _).setCell (p:=⟨b2,2,none⟩) (fun _=>rfl) _
   generalize ((wr.setCell ⟨b2,0,none⟩ (.slice ad nc cc)).setCell ⟨b2,1,none⟩ (.int .i64 mu)).setCell ⟨b2,2,none⟩ (.slice ta i tc)=wE at hrow hks ⊢;refine bodyPost_ret (v:=.tuple #[.agg #[.slice ad nc cc, .int .i64 mu, .slice ta i tc], .int .i64 0]) (by simp [results,Tryz.results35,go_sem,hrow.cell (k:=0) rfl,hrow.cell (k:=1) rfl,hrow.cell (k:=2) rfl]) rfl ?_
   exact ⟨ad,cc,ta,tc,rfl,HP.out.2.2.2.2.2.1.trans hks (fun q hq e=>by have e':q=b2:=e;have:=HB2.out.1;omega)⟩
end Go.Proofs.YtoapgjjepiopbaaGreatDoor
