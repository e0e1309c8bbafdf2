/- Layer S: texts joined. -/
import Derived.Test.YtfjgcedkfnmdkaaGreatDoorS47
set_option linter.all false
set_option maxHeartbeats 8000000
set_option maxRecDepth 8000
namespace Go.Proofs.YtfjgcedkfnmdkaaGreatDoor
open Go.RowKit
theorem J162 (P:Prop) (h:P:=by first | exact HL1.out.2.2 | (simp only [uG];exact HL1.out.2.2)):P:=h
def stC (x:zCL):List Value:=[.int .i64 x.t, .int .i64 x.c, .int .i64 x.e.thread, .int .i64 x.e.kind, .int .i64 x.e.obj, .int .i64 x.e.value, .int .i64 x.e.bad]
theorem zCQ (x:zCL):(stC x).length=7:=rfl
def stZ:zCL:=⟨0,0,Evt.zero⟩
theorem zNI:(Tryz.prog.info? 116).map (fun i=>(i.zero,i.size,i.bytes))=some (some (.agg #[.int .i64 0, .int .i64 0, .int .i64 0, .int .i64 0, .int .i64 0, .int .i64 0, .int .i64 0]),7,56):=by kernel_rfl
theorem zNx (n:Nat):(madeCells (Value.agg #[.int .i64 0, .int .i64 0, .int .i64 0, .int .i64 0, .int .i64 0, .int .i64 0, .int .i64 0]).cells (n*7)).toList=(List.replicate n stZ).flatMap stC:=by
 apply List.ext_getElem?
 intro k
 have hz:(Value.agg #[.int .i64 0, .int .i64 0, .int .i64 0, .int .i64 0, .int .i64 0, .int .i64 0, .int .i64 0]).cells=#[.int .i64 0, .int .i64 0, .int .i64 0, .int .i64 0, .int .i64 0, .int .i64 0, .int .i64 0]:=rfl;rw [hz];by_cases hk:k < n*7
 ·obtain ⟨i,j,hj,rfl⟩:∃ i j,j < 7 /\ k=i*7+j:=⟨k / 7,k % 7,Nat.mod_lt _ (by decide),by omega⟩
  have hi:i < n:=by omega
  rw [zAS stC 7 zCQ (List.replicate n stZ) i j hj];simp only [madeCells,Array.toList_map,Array.toList_range,vT,List.getElem?_range hk,uT,uL,hi,kD,yO];have hm:(i*7+j) % 7=j:=by omega
  rcases (show j=0 \/ j=1 \/ j=2 \/ j=3 \/ j=4 \/ j=5 \/ j=6 by omega) with rfl | rfl | rfl | rfl | rfl | rfl | rfl <;> simp [hm,stZ,stC,Evt.zero]
 ·rw [List.getElem?_eq_none (by simp [madeCells];omega),List.getElem?_eq_none]
  rw [zAO _ 7 zCQ];simp
  omega
theorem zC0 {w:World} {g i:Nat} {L:List zCL} (h:zC w g (L.flatMap stC)) (j:Nat) (hj:j < 7) (u:Value) {x y:zCL} (hx:L[i]?=some x) (hy:stC y=(stC x).set j u):zC (w.setCell ⟨g,i*7+j,none⟩ u) g ((L.set i y).flatMap stC):=by
 have hi:=(yI.1 hx).1;have:=h.set (i*7+j) (by rw [zAO _ 7 zCQ];omega) u
 rwa [zEx stC 7 zCQ L i j hj u x y hx hy] at this
def zNU (w:World) (r:List zCL × zW) (e:Ending) (w':World):Prop :=
 ∃ oa oc a1 q1 a2 q2 a3 q3 a4 q4,e=.returned (.tuple #[.slice oa r.1.length oc, .agg #[.slice a1 r.2.cells.length q1, .slice a2 r.2.owners.length q2, .slice a3 r.2.zL.length q3, .slice a4 r.2.zL.length q4], .int .i64 0]) ∧
   zAG w' w.heap.size (.slice oa r.1.length oc) r.1.length (r.1.flatMap stC) /\ zDS w r.2 (.slice a1 r.2.cells.length q1) (.slice a2 r.2.owners.length q2) (.slice a3 r.2.zL.length q3) (.slice a4 r.2.zL.length q4) w'
section
variable {cs:List Int} {mu:Int} {bs:List Bd} {w:World} {F:Nat -> Prop} {uca uta:Option Addr} {ucc utc:Nat}
theorem zND (h:zCu w F cs bs uca uta) (sa:Option Addr) (sc:Nat) (ts:List Int) (hx:zo w (.slice sa ts.length sc) ts.length (ints ts)) (hn:ts.length <= 1000) (hr:newR ⟨cs,mu,bs⟩=0):Calls Tryz.prog 26 #[.agg #[.slice uca cs.length ucc, .int .i64 mu, .slice uta bs.length utc], .slice sa ts.length sc] w (zNU w (plN ⟨cs,mu,bs⟩ (zAk ⟨cs,mu,bs⟩) ts)):=by
 have hR:=zCT hr;have HNW:Hid (∀ W,Keeps zA w W -> Calls Tryz.prog 12 #[.agg #[.slice uca cs.length ucc, .int .i64 mu, .slice uta bs.length utc]] W fun e w'=>∃ b,e=.returned (.tuple #[.pointer (some ⟨b,0,none⟩), .int .i64 0]) /\ zCV (fun q=>q < W.heap.size) w' b ⟨cs,mu,bs⟩ (zAk ⟨cs,mu,bs⟩) /\ Keeps zA W w'):=fun W hk=>(h.zF hk).zNV hr
 obtain ⟨u,hu⟩:∃ u:Un,u=⟨cs,mu,bs⟩:=⟨_,rfl⟩
 rw [<- hu] at HNW hR ⊢;have HX:Hid (∀ W,Keeps (fun q=>w.heap.size <= q) w W -> zo W (.slice sa ts.length sc) ts.length (ints ts)):=fun W hk=>hx.up hk (yV _) (by simp [ints])
 obtain ⟨n,hnn⟩:∃ z,z=ts.length:=⟨_,rfl⟩
 have HN:=yA hnn;rw [<- hnn] at hn HX ⊢;have hb:decide ((1000:Int) < n)=false:=xH (by omega);have hb2:(1000 < n)=False:=eq_false (by omega);obtain ⟨j0,hj0,hy0,hy1,hy2⟩:=info_parts zNI;clear h hx hr hR hu hnn;go_enter Tryz.func26,Tryz.ntmps26
 go_upto_region 1 with fail
 obtain ⟨b1,w1,x1,z1,R1,K1,s1⟩:=newRow w [.slice uca cs.length ucc, .int .i64 mu, .slice uta bs.length utc] 25;try rw [x1]
 try rw [z1]
 obtain ⟨y,w2,x2,z2,R2,K2,s2⟩:=newRow w1 [.slice none 0 0, .slice none 0 0, .slice none 0 0, .slice none 0 0] 50;have n1:b1+1=y:=s1.out.symm.trans x2;try rw [n1]
 try rw [x2]
 try rw [z2]
 have y1:=(R1.keeps K2 (fun h=>h)).zEH;have HRY:=yA R2;have k2:=zJ w2;have HK2:Hid (Keeps zA w w2):=K1.zB K2;have HY:Hid (w.heap.size <= y /\ y < w2.heap.size):=⟨by rw [<- x2];exact K1.size,R2.lt (by simp)⟩;have yy:=R2.zDC;have f0:=zAL R2 0 (by decide);have f1:=zAL R2 1 (by decide);have f2:=zAL R2 2 (by decide);have f3:=zAL R2 3 (by decide);clear n1 x1 z1 x2 z2 R1 R2 K1 K2 s1 s2;go_upto_region 6 with (go_at_call 12;refine (HNW.out _ HK2.out).mono ?_;rintro e w3 ⟨b,rfl,hm,k3⟩;have HK3:=yA k3;have HM:=yA hm;clear hm k3)
 obtain ⟨g0,hg0⟩:∃ g,g=w2.heap.size:=⟨_,rfl⟩
 have HG0:=yA hg0;clear hg0 y1 yy f0 f1 f2 f3 k2 HNW;go_upto_region 7 with (refine wpList_make_full _ rfl _ _ _ rfl 0 116 j0 _ 7 Tryz.underlying55 hj0 hy0 hy1 _ _ _ _ n (by rfl) (by rfl) rfl rfl (by rw [hy2];omega) (by unfold maxLen;omega) (yG _) ?_;intro w4 hown hgr;rw [zNx] at hown;have HOW:=yA hown;have HK4:Hid (Keeps zA w3 w4):=(yB _ _).grown hgr (fun k e=>by cases e);clear hown hgr)
 obtain ⟨go,hgo⟩:∃ z,z=w3.heap.size:=⟨_,rfl⟩
 rw [<- hgo] at HOW ⊢
 have M4:Hid (zCV (fun q=>q < g0 \/ q=go) w4 b u (zAk u)):=by
  have h1:=HM.out.fresh HK4.out;refine h1.mono (fun q hq=>?_)
  rcases hq with h | h
  ·left;show q < _;have:=HG0.out;omega
  ·exact .inr ⟨by omega,by rw [h];exact zO HOW.out rfl⟩
 have HGO:Hid (g0 <= go):=by have:=HG0.out;have:=HK3.out.size;show _ <= _;omega
 have HR4:Hid (zC w4 go ((([]:List zCL)++List.replicate n stZ).flatMap stC)):=uJ HOW.out;have HK24:Hid (Keeps (fun q=>g0 <= q) w2 w4):=(HK3.out.zB HK4.out).mono (fun _ _ h=>h.elim);clear HOW HM hgo HK3 HK4;go_wp2_with fail
 go_loopw [30] (fun iv wr=>∃ k:Nat,k <= n /\ iv=.int .i64 k /\ Hid (zC wr go (((plN u (zAk u) (ts.take k)).1++List.replicate (n - k) stZ).flatMap stC) /\ zCV (fun q=>q < g0 \/ q=go) wr b u (plN u (zAk u) (ts.take k)).2 /\ Keeps (fun q=>g0 <= q) w2 wr)) (fun iv _=>n - (intOf iv).toNat)
 case atStart=>exact ⟨0,yG _,rfl,HR4.out,M4.out,HK24.out⟩
 case round =>
  obtain ⟨k,hk,rfl,HI⟩:=hrel;clear HR4 M4 HK24;by_cases hlt:k < n
  ·have HRW:=yA HI.out.1
   have HMK:=yA HI.out.2.1;have HKK:=yA HI.out.2.2;have i1:(0:Int) <= k:=by omega
   have i2:(k:Int) < n:=by omega
   have hsx:zo wr (.slice sa n sc) n (ints ts):=HX.out wr (HK2.out.trans HKK.out (fun q hq e=>by exact J185 _) |>.mono (fun _ _ h=>h.elim));have hsx':zo wr (.slice sa n sc) ts.length (ints ts):=by rw [<- HN.out];exact hsx
   obtain ⟨ad,cap,ee,hcl⟩:=hsx'.ints;obtain ⟨gs,os,es,cs0⟩:=hcl k (by rw [<- HN.out];exact hlt);simp only [xY] at ee;obtain ⟨rfl,hz,rfl⟩:=ee;clear hz;subst es;obtain ⟨t,ht⟩:∃ z,z=ts.getD k 0:=⟨_,rfl⟩
   rw [<- ht] at cs0;obtain ⟨m,hm⟩:∃ z,z=(plN u (zAk u) (ts.take k)).2:=⟨_,rfl⟩
   obtain ⟨D,hD⟩:∃ z,z=(plN u (zAk u) (ts.take k)).1:=⟨_,rfl⟩
   rw [<- hm] at HMK;rw [<- hD] at HRW;have HDL:Hid (D.length=k):=by show _=_;rw [hD,zGl,uB];have:=HN.out;omega
   have HTK:Hid (plN u (zAk u) (ts.take (k+1))=(D++[⟨t,(stepM u m t).2.2,(stepM u m t).2.1⟩],(stepM u m t).1)):=by
    show _=_
    have hlt2:k < ts.length:=by rw [<- HN.out];exact hlt
    have e:ts.take (k+1)=ts.take k++[t]:=by rw [kQ,ht];simp [hlt2,List.getD]
    rw [e,zL9,<- hm,<- hD]
   obtain ⟨L0,hL0⟩:∃ z,z=D++List.replicate (n - k) stZ:=⟨_,rfl⟩
   have h0:L0[k]?=some stZ:=by
    rw [hL0,yT (by rw [HDL.out];exact yV _),HDL.out,uX,uL,if_pos (by omega)]
   have HL0:=yA hL0;rw [<- hL0] at HRW;have hk0:k < L0.length:=(yI.1 h0).1;have HH0:Hid (L0[k]?=some stZ /\ k < L0.length):=⟨h0,hk0⟩;have hc0:∀ j,j < 7 -> k*7+j < (L0.flatMap stC).length:=fun j hj=>by rw [zAO _ 7 zCQ];omega
   have fr:=zAL HRW.out;have c0:∀ W,Keeps zA wr W -> W.cell? ⟨go,k*7,none⟩=some (.int .i64 0):=zM (HRW.out.cell (by have:=zAS stC 7 zCQ L0 k 0 (by decide);rw [h0] at this;exact this))
   have f0:∀ W,Keeps zA wr W -> W.frozen? ⟨go,k*7,none⟩=false:=fr (k*7+0) (hc0 0 (by decide))
   have kr:=zJ wr;clear HI hk hsx hsx' hcl ht hm hD hL0 h0 hk0 fr hc0;go_upto_region 11 with fail
   have HR1:=yA (zC0 HRW.out 0 (by decide) (.int .i64 t) (y:=⟨t,0,Evt.zero⟩) HH0.out.1 rfl);have HK1':Hid (Keeps (fun q=>q=go) wr (wr.setCell ⟨go,k*7,none⟩ (.int .i64 t))):=(yB (fun q=>q=go) wr).setCell (p:=⟨go,k*7,none⟩) (fun _=>rfl) _;have HR1:Hid (zC (wr.setCell ⟨go,k*7,none⟩ (.int .i64 t)) go ((L0.set k ⟨t,0,Evt.zero⟩).flatMap stC)):=HR1;generalize wr.setCell ⟨go,k*7,none⟩ (.int .i64 t)=w5 at HR1 HK1' ⊢;have M5:=yA (HMK.out.zLE (HK1'.out.mono (fun q _ e=>.inr e)));rcases hst:stepM u m t with ⟨m',⟨xt,xk,xo,xv,xb⟩,fl⟩;rw [hst] at HTK
   have HST:Hid (Calls Tryz.prog 18 #[.pointer (some ⟨b,0,none⟩), .int .i64 t] w5 fun e w'=>e=.returned (.tuple #[.agg #[.int .i64 xt, .int .i64 xk, .int .i64 xo, .int .i64 xv, .int .i64 xb], .int .i64 fl]) /\ zCV (fun q=>q < g0 \/ q=go) w' b u m' /\ Keeps (fun q=>¬ (q < g0 \/ q=go)) w5 w'):=by
    have h:=M5.out.step t;rw [hst] at h;exact h
   obtain ⟨L1,hL1⟩:∃ z,z=L0.set k ⟨t,0,Evt.zero⟩:=⟨_,rfl⟩
   have h1:L1[k]?=some ⟨t,0,Evt.zero⟩:=by rw [hL1];exact yY HH0.out.2
   rw [<- hL1] at HR1;have HL1:Hid (L1=L0.set k ⟨t,0,Evt.zero⟩ /\ L1[k]?=some ⟨t,0,Evt.zero⟩ /\ k < L1.length):=⟨hL1,h1,(yI.1 h1).1⟩;have k5:=zJ w5;clear hst c0 f0 cs0 hL1 h1 kr;go_wp2_with (go_at_call 18;refine HST.out.mono ?_;rintro e w6 ⟨rfl,hm,hkk⟩;have M6:=yA hm;have HK6:=yA hkk;have HR6:Hid (zC w6 go (L1.flatMap stC)):=HR1.out.keeps hkk (fun h=>h (.inr rfl));have k6:=zJ w6;have hc1:∀ j,j < 7 -> k*7+j < (L1.flatMap stC).length:=(fun j hj=>by rw [zAO _ 7 zCQ];have:=HL1.out.2.2;omega);have fr:=zAL HR6.out;have f1:=fr (k*7+1) (hc1 1 (by decide));have f2:=fr (k*7+2) (hc1 2 (by decide));have f3:=fr (k*7+3) (hc1 3 (by decide));have f4:=fr (k*7+4) (hc1 4 (by decide));have f5:=fr (k*7+5) (hc1 5 (by decide));have f6:=fr (k*7+6) (hc1 6 (by decide));have gc:=(fun j (hj:j < 7)=>zAS stC 7 zCQ L1 k j hj);rw [HL1.out.2.1] at gc;have c1:=zM (HR6.out.cell (gc 1 (by decide)));have c2:=zM (HR6.out.cell (gc 2 (by decide)));have c3:=zM (HR6.out.cell (gc 3 (by decide)));have c4:=zM (HR6.out.cell (gc 4 (by decide)));have c5:=zM (HR6.out.cell (gc 5 (by decide)));have c6:=zM (HR6.out.cell (gc 6 (by decide)));clear hm hkk fr hc1 gc)
   have p0:=zC0 HR6.out 2 (by decide) (.int .i64 xt) (y:=⟨t,0,⟨xt,0,0,0,0⟩⟩) (HL1.out.2.1) rfl;have p1:=zC0 p0 3 (by decide) (.int .i64 xk) (y:=⟨t,0,⟨xt,xk,0,0,0⟩⟩) (yY (J162 _)) rfl;have p2:=zC0 p1 4 (by decide) (.int .i64 xo) (y:=⟨t,0,⟨xt,xk,xo,0,0⟩⟩) (yY (J162 _)) rfl;have p3:=zC0 p2 5 (by decide) (.int .i64 xv) (y:=⟨t,0,⟨xt,xk,xo,xv,0⟩⟩) (yY (J162 _)) rfl;have p4:=zC0 p3 6 (by decide) (.int .i64 xb) (y:=⟨t,0,⟨xt,xk,xo,xv,xb⟩⟩) (yY (J162 _)) rfl;have p5:=zC0 p4 1 (by decide) (.int .i64 fl) (y:=⟨t,fl,⟨xt,xk,xo,xv,xb⟩⟩) (yY (J162 _)) rfl;simp only [kE] at p5;have K67:Keeps (fun q=>q=go) w6 ((((((w6.setCell ⟨go,k*7+2,none⟩ (.int .i64 xt)).setCell ⟨go,k*7+2+1,none⟩ (.int .i64 xk)).setCell ⟨go,k*7+2+2,none⟩ (.int .i64 xo)).setCell ⟨go,k*7+2+3,none⟩ (.int .i64 xv)).setCell ⟨go,k*7+2+4,none⟩ (.int .i64 xb)).setCell ⟨go,k*7+1,none⟩ (.int .i64 fl)):=(((((((yB (fun q=>q=go) w6).setCell (p:=⟨go,k*7+2,none⟩) (fun _=>rfl) (.int .i64 xt)).setCell (p:=⟨go,k*7+2+1,none⟩) (fun _=>rfl) (.int .i64 xk)).setCell (p:=⟨go,k*7+2+2,none⟩) (fun _=>rfl) (.int .i64 xo)).setCell (p:=⟨go,k*7+2+3,none⟩) (fun _=>rfl) (.int .i64 xv)).setCell (p:=⟨go,k*7+2+4,none⟩) (fun _=>rfl) (.int .i64 xb)).setCell (p:=⟨go,k*7+1,none⟩) (fun _=>rfl) (.int .i64 fl));have p5:zC ((((((w6.setCell ⟨go,k*7+2,none⟩ (.int .i64 xt)).setCell ⟨go,k*7+2+1,none⟩ (.int .i64 xk)).setCell ⟨go,k*7+2+2,none⟩ (.int .i64 xo)).setCell ⟨go,k*7+2+3,none⟩ (.int .i64 xv)).setCell ⟨go,k*7+2+4,none⟩ (.int .i64 xb)).setCell ⟨go,k*7+1,none⟩ (.int .i64 fl)) go ((L1.set k ⟨t,fl,⟨xt,xk,xo,xv,xb⟩⟩).flatMap stC):=p5;generalize ((((((w6.setCell ⟨go,k*7+2,none⟩ (.int .i64 xt)).setCell ⟨go,k*7+2+1,none⟩ (.int .i64 xk)).setCell ⟨go,k*7+2+2,none⟩ (.int .i64 xo)).setCell ⟨go,k*7+2+3,none⟩ (.int .i64 xv)).setCell ⟨go,k*7+2+4,none⟩ (.int .i64 xb)).setCell ⟨go,k*7+1,none⟩ (.int .i64 fl))=w7 at p5 K67 ⊢
   have eL:L1.set k ⟨t,fl,⟨xt,xk,xo,xv,xb⟩⟩=(D++[(⟨t,fl,⟨xt,xk,xo,xv,xb⟩⟩:zCL)])++List.replicate (n - (k+1)) stZ:=by
    rw [HL1.out.1,kE,HL0.out,uQ _ _ (by rw [HDL.out];exact yV _),HDL.out,uX];obtain ⟨q,hq⟩:∃ q,n - k=q+1:=⟨n - k - 1,by omega⟩
    rw [hq,List.replicate_succ,show n - (k+1)=q by omega,List.append_assoc];rfl
   rw [eL] at p5
   have hkk:Keeps (fun q=>g0 <= q) w2 w7:=(((HKK.out.trans (HK1'.out.mono (fun q _ e=>by have e':q=go:=e;have:=HGO.out;show g0 <= q;omega)) (fun _ _ h=>h)).trans (HK6.out.mono (fun q _ hn=>by
    have hn':¬ q < g0:=fun h=>hn (.inl h)
    show g0 <= q
    omega)) (fun _ _ h=>h))).trans (K67.mono (fun q _ e=>by have e':q=go:=e;have:=HGO.out;show g0 <= q;omega)) (fun _ _ h=>h)
   refine ⟨⟨k+1,by omega,by go_num,?_,?_,hkk⟩,by simp [intOf];omega⟩
   ·rw [HTK.out];exact p5
   ·rw [HTK.out];exact M6.out.zLE (K67.mono (fun q _ e=>.inr e))
  ·have hkn:k=n:=by omega
   subst hkn;have HRW:=yA HI.out.1;have HMK:=yA HI.out.2.1;have HKK:=yA HI.out.2.2;have htk:ts.take k=ts:=by rw [HN.out];exact xL
   rw [htk,uX,List.replicate_zero,List.append_nil] at HRW;rw [htk] at HMK;obtain ⟨m,hm⟩:∃ z,z=(plN u (zAk u) ts).2:=⟨_,rfl⟩
   obtain ⟨D,hD⟩:∃ z,z=(plN u (zAk u) ts).1:=⟨_,rfl⟩
   have HPL:Hid (plN u (zAk u) ts=(D,m) /\ D.length=k):=⟨by rw [hm,hD],by rw [hD,zGl];exact HN.out.symm⟩;rw [<- hm] at HMK;rw [<- hD] at HRW;have SE:=yA HMK.out.state;have HRYr:=yA (HRY.out.keeps HKK.out (fun h=>by have h:g0 <= y:=h;have:=HG0.out;have:=HY.out.2;omega));have yy:=HRYr.out.zDC;have f0:=zAL HRYr.out 0 (by decide);have f1:=zAL HRYr.out 1 (by decide);have f2:=zAL HRYr.out 2 (by decide);have f3:=zAL HRYr.out 3 (by decide);have HGS:Hid (g0 <= wr.heap.size):=by have:=HG0.out;have:=HKK.out.size;show _ <= _;omega
   have kr:=zJ wr;clear hlt hk htk hm hD HI;go_wp2_with (go_at_call 37;refine SE.out.mono ?_;rintro e w8 ⟨t1,t2,c3,c4,rfl,hs⟩;obtain ⟨t3,u3,e3⟩:=hs.sts.form;obtain ⟨t4,u4,e4⟩:=hs.next.form;subst e3 e4;have S8:=yA hs;have k8:=hs.keeps;clear hs)
   have K28:Hid (Keeps zA w w8):=(HK2.out.trans HKK.out (fun q hq e=>by exact J185 _)).zB k8;have HKY:=zC5 y [.slice t1 m.cells.length m.cells.length, .slice t2 m.owners.length m.owners.length, .slice t3 m.zL.length u3, .slice t4 m.zL.length u4] 0 w8;obtain ⟨R5,K5⟩:=zDM (w:=w) [.slice t1 m.cells.length m.cells.length, .slice t2 m.owners.length m.owners.length, .slice t3 m.zL.length u3, .slice t4 m.zL.length u4] (HRYr.out.keeps k8 (fun h=>h)) rfl K28.out HY.out.1;simp only [zGG,xA,Nat.reduceAdd] at R5 K5 HKY;generalize (((w8.setCell ⟨y,0,none⟩ (.slice t1 m.cells.length m.cells.length)).setCell ⟨y,1,none⟩ (.slice t2 m.owners.length m.owners.length)).setCell ⟨y,2,none⟩ (.slice t3 m.zL.length u3)).setCell ⟨y,3,none⟩ (.slice t4 m.zL.length u4)=wz at R5 K5 HKY ⊢;refine xR (v:=.tuple #[.slice (some ⟨go,0,none⟩) k k, .agg #[.slice t1 m.cells.length m.cells.length, .slice t2 m.owners.length m.owners.length, .slice t3 m.zL.length u3, .slice t4 m.zL.length u4], .int .i64 0]) (by simp [results,Tryz.results26,go_sem,R5.cell (k:=0) rfl,R5.cell (k:=1) rfl,R5.cell (k:=2) rfl,R5.cell (k:=3) rfl]) rfl ?_
   obtain ⟨q1,q2⟩:=HPL.out;rw [q1];have hny:∀ q,wr.heap.size <= q -> ¬ (fun q=>q=y) q:=fun q hq e=>by have e':q=y:=e;have:=HGS.out;have:=HY.out.2;have:=HG0.out;omega
   have hws:w.heap.size <= wr.heap.size:=by have:=HGS.out;have:=HG0.out;have:=HY.out;omega
   have hgy:¬ go=y:=by have:=HGO.out;have:=HY.out.2;have:=HG0.out;omega
   have hF:zAG wz w.heap.size (.slice (some ⟨go,0,none⟩) k k) k (D.flatMap stC):=by
    refine ⟨some ⟨go,0,none⟩,k,rfl,by unfold maxLen;omega,fun e=>(by cases e),fun _=>⟨go,rfl,?_,(HRW.out.keeps k8 (fun h=>h)).keeps HKY hgy⟩⟩
    have:=HGO.out;have:=HG0.out;have:=HY.out;omega
   rw [<- q2] at hF ⊢;exact ⟨_,_,t1,_,t2,_,t3,u3,t4,u4,rfl,hF,K5,(S8.out.cells.keeps HKY hny).mono hws,(S8.out.owners.keeps HKY hny).mono hws,(S8.out.sts.keeps HKY hny).mono hws,(S8.out.next.keeps HKY hny).mono hws⟩
end
end Go.Proofs.YtfjgcedkfnmdkaaGreatDoor
