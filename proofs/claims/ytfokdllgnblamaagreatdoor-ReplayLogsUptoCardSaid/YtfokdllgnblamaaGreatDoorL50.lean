/- Layer L: texts joined. -/
import Derived.Test.YtfokdllgnblamaaGreatDoorL49
import Derived.Test.YtfokdllgnblamaaGreatDoorL48
set_option linter.all false
set_option maxHeartbeats 8000000
set_option maxRecDepth 8000
namespace Go.Proofs.YtfokdllgnblamaaGreatDoor
open Go.RowKit
theorem J36 (P:Prop) (h:P:=by
 unfold zCu zDH;simp only [Int.reduceSub,ne_eq,Int.reduceEq,not_false_eq_true,kG,Int.toNat_natCast];exact failT _ _ _ rfl rfl rfl):P:=h
theorem J86 (P:Prop) (h:P:=by
 unfold zCu zDH;simp only [Int.reduceSub,ne_eq,uC,uU,Int.reduceEq,Int.toNat_natCast];exact keepT _ _ _ rfl rfl (hloc _ i2)):P:=h
theorem J87 (P:Prop) (h:P:=by
 by_cases e:k=j
 ·subst e;rw [if_pos rfl,List.getD,yX hk];rfl
 ·rw [if_neg e,List.getD,List.getD,uB e]):P:=h
theorem J90 (P:Prop) (h:P:=by
 rw [hlen] at hj;rw [hT1];by_cases e:i=j
 ·subst e;rw [hself,hst,i2];exact (hloc _ i2).symm
 ·rw [hoth _ _ _ rfl e];exact hS.st j hj):P:=h
theorem J164 (P:Prop) (h:P:=by first | exact HL1.out.2.2 | (simp only [xA];exact HL1.out.2.2)):P:=h
theorem J168 (P:Prop) (h:P:=by unfold zCu zDH;simp only [Int.reduceSub,ne_eq,uC,uU,Int.reduceEq,Int.toNat_natCast];exact keepT _ _ _ rfl rfl (hloc _ i2)):P:=h
def stC (x:zCf):List Value:=[.int .i64 x.t, .int .i64 x.c, .int .i64 x.e.thread, .int .i64 x.e.kind, .int .i64 x.e.obj, .int .i64 x.e.value, .int .i64 x.e.bad]
theorem zCP (x:zCf):(stC x).length=7:=rfl
def stZ:zCf:=⟨0,0,Evt.zero⟩
theorem zM9:(Tryz.prog.info? 114).map (fun i=>(i.zero,i.size,i.bytes))=some (some (.agg #[.int .i64 0, .int .i64 0, .int .i64 0, .int .i64 0, .int .i64 0, .int .i64 0, .int .i64 0]),7,56):=by kernel_rfl
theorem zN2 (n:Nat):(madeCells (Value.agg #[.int .i64 0, .int .i64 0, .int .i64 0, .int .i64 0, .int .i64 0, .int .i64 0, .int .i64 0]).cells (n*7)).toList=(List.replicate n stZ).flatMap stC:=by
 apply List.ext_getElem?
 intro k
 have hz:(Value.agg #[.int .i64 0, .int .i64 0, .int .i64 0, .int .i64 0, .int .i64 0, .int .i64 0, .int .i64 0]).cells=#[.int .i64 0, .int .i64 0, .int .i64 0, .int .i64 0, .int .i64 0, .int .i64 0, .int .i64 0]:=rfl;rw [hz];by_cases hk:k < n*7
 ·obtain ⟨i,j,hj,rfl⟩:∃ i j,j < 7 /\ k=i*7+j:=⟨k / 7,k % 7,Nat.mod_lt _ (by decide),by omega⟩
  have hi:i < n:=by omega
  rw [zBL stC 7 zCP (List.replicate n stZ) i j hj];simp only [madeCells,Array.toList_map,Array.toList_range,uO,List.getElem?_range hk,vB,uE,hi,kG,yN];have hm:(i*7+j) % 7=j:=by omega
  rcases (show j=0 \/ j=1 \/ j=2 \/ j=3 \/ j=4 \/ j=5 \/ j=6 by omega) with rfl | rfl | rfl | rfl | rfl | rfl | rfl <;> simp [hm,stZ,stC,Evt.zero]
 ·rw [List.getElem?_eq_none (by simp [madeCells];omega),List.getElem?_eq_none]
  rw [zw _ 7 zCP];simp
  omega
theorem zCz {w:World} {g i:Nat} {L:List zCf} (h:zC w g (L.flatMap stC)) (j:Nat) (hj:j < 7) (u:Value) {x y:zCf} (hx:L[i]?=some x) (hy:stC y=(stC x).set j u):zC (w.setCell ⟨g,i*7+j,none⟩ u) g ((L.set i y).flatMap stC):=by
 have hi:=(yO.1 hx).1;have:=h.set (i*7+j) (by rw [zw _ 7 zCP];omega) u
 rwa [zDh stC 7 zCP L i j hj u x y hx hy] at this
def zNU (w:World) (r:List zCf × ze) (e:Ending) (w':World):Prop :=
 ∃ oa oc a1 q1 a2 q2 a3 q3 a4 q4,e=.returned (.tuple #[.slice oa r.1.length oc, .agg #[.slice a1 r.2.cells.length q1, .slice a2 r.2.owners.length q2, .slice a3 r.2.zL.length q3, .slice a4 r.2.zL.length q4], .int .i64 0]) ∧
   zAO w' w.heap.size (.slice oa r.1.length oc) r.1.length (r.1.flatMap stC) /\ zDN w r.2 (.slice a1 r.2.cells.length q1) (.slice a2 r.2.owners.length q2) (.slice a3 r.2.zL.length q3) (.slice a4 r.2.zL.length q4) w'
section
variable {cs:List Int} {mu:Int} {bs:List Bd} {w:World} {F:Nat -> Prop} {uca uta:Option Addr} {ucc utc:Nat}
theorem zMi (h:zC7 w F cs bs uca uta) (sa:Option Addr) (sc:Nat) (ts:List Int) (hx:zl w (.slice sa ts.length sc) ts.length (ints ts)) (hn:ts.length <= 1000) (hr:newR ⟨cs,mu,bs⟩=0):Calls Tryz.prog 20 #[.agg #[.slice uca cs.length ucc, .int .i64 mu, .slice uta bs.length utc], .slice sa ts.length sc] w (zNU w (plN ⟨cs,mu,bs⟩ (zAU ⟨cs,mu,bs⟩) ts)):=by
 have hR:=zDD hr;have HNW:Hid (∀ W,Keeps zA w W -> Calls Tryz.prog 9 #[.agg #[.slice uca cs.length ucc, .int .i64 mu, .slice uta bs.length utc]] W fun e w'=>∃ b,e=.returned (.tuple #[.pointer (some ⟨b,0,none⟩), .int .i64 0]) /\ zCb (fun q=>q < W.heap.size) w' b ⟨cs,mu,bs⟩ (zAU ⟨cs,mu,bs⟩) /\ Keeps zA W w'):=fun W hk=>(h.zG hk).zNT hr
 obtain ⟨u,hu⟩:∃ u:Un,u=⟨cs,mu,bs⟩:=⟨_,rfl⟩
 rw [<- hu] at HNW hR ⊢;have HX:Hid (∀ W,Keeps (fun q=>w.heap.size <= q) w W -> zl W (.slice sa ts.length sc) ts.length (ints ts)):=fun W hk=>hx.up hk (yV _) (by simp [ints])
 obtain ⟨n,hnn⟩:∃ z,z=ts.length:=⟨_,rfl⟩
 have HN:=yA hnn;rw [<- hnn] at hn HX ⊢;have hb:decide ((1000:Int) < n)=false:=xY (by omega);have hb2:(1000 < n)=False:=eq_false (by omega);obtain ⟨j0,hj0,hy0,hy1,hy2⟩:=info_parts zM9;clear h hx hr hR hu hnn;go_enter Tryz.func20,Tryz.ntmps20
 go_upto_region 1 with fail
 obtain ⟨b1,w1,x1,z1,R1,K1,s1⟩:=newRow w [.slice uca cs.length ucc, .int .i64 mu, .slice uta bs.length utc] 25;try rw [x1]
 try rw [z1]
 obtain ⟨y,w2,x2,z2,R2,K2,s2⟩:=newRow w1 [.slice none 0 0, .slice none 0 0, .slice none 0 0, .slice none 0 0] 51;have n1:b1+1=y:=s1.out.symm.trans x2;try rw [n1]
 try rw [x2]
 try rw [z2]
 have y1:=(R1.keeps K2 (fun h=>h)).zEt;have HRY:=yA R2;have k2:=zI w2;have HK2:Hid (Keeps zA w w2):=K1.zB K2;have HY:Hid (w.heap.size <= y /\ y < w2.heap.size):=⟨by rw [<- x2];exact K1.size,R2.lt (by simp)⟩;have yy:=R2.zDZ;have f0:=zo R2 0 (by decide);have f1:=zo R2 1 (by decide);have f2:=zo R2 2 (by decide);have f3:=zo R2 3 (by decide);clear n1 x1 z1 x2 z2 R1 R2 K1 K2 s1 s2;go_upto_region 6 with (go_at_call 9;refine (HNW.out _ HK2.out).mono ?_;rintro e w3 ⟨b,rfl,hm,k3⟩;have HK3:=yA k3;have HM:=yA hm;clear hm k3)
 obtain ⟨g0,hg0⟩:∃ g,g=w2.heap.size:=⟨_,rfl⟩
 have HG0:=yA hg0;clear hg0 y1 yy f0 f1 f2 f3 k2 HNW;go_upto_region 7 with (refine wpList_make_full _ rfl _ _ _ rfl 0 114 j0 _ 7 Tryz.underlying48 hj0 hy0 hy1 _ _ _ _ n (by rfl) (by rfl) rfl rfl (by rw [hy2];omega) (by unfold maxLen;omega) (yH _) ?_;intro w4 hown hgr;rw [zN2] at hown;have HOW:=yA hown;have HK4:Hid (Keeps zA w3 w4):=(yB _ _).grown hgr (fun k e=>by cases e);clear hown hgr)
 obtain ⟨go,hgo⟩:∃ z,z=w3.heap.size:=⟨_,rfl⟩
 rw [<- hgo] at HOW ⊢
 have M4:Hid (zCb (fun q=>q < g0 \/ q=go) w4 b u (zAU u)):=by
  have h1:=HM.out.fresh HK4.out;refine h1.mono (fun q hq=>?_)
  rcases hq with h | h
  ·left;show q < _;have:=HG0.out;omega
  ·exact .inr ⟨by omega,by rw [h];exact zM HOW.out rfl⟩
 have HGO:Hid (g0 <= go):=by have:=HG0.out;have:=HK3.out.size;show _ <= _;omega
 have HR4:Hid (zC w4 go ((([]:List zCf)++List.replicate n stZ).flatMap stC)):=uG HOW.out;have HK24:Hid (Keeps (fun q=>g0 <= q) w2 w4):=(HK3.out.zB HK4.out).mono (fun _ _ h=>h.elim);clear HOW HM hgo HK3 HK4;go_wp2_with fail
 go_loopw [30] (fun iv wr=>∃ k:Nat,k <= n /\ iv=.int .i64 k /\ Hid (zC wr go (((plN u (zAU u) (ts.take k)).1++List.replicate (n - k) stZ).flatMap stC) /\ zCb (fun q=>q < g0 \/ q=go) wr b u (plN u (zAU u) (ts.take k)).2 /\ Keeps (fun q=>g0 <= q) w2 wr)) (fun iv _=>n - (intOf iv).toNat)
 case atStart=>exact ⟨0,yH _,rfl,HR4.out,M4.out,HK24.out⟩
 case round =>
  obtain ⟨k,hk,rfl,HI⟩:=hrel;clear HR4 M4 HK24;by_cases hlt:k < n
  ·have HRW:=yA HI.out.1
   have HMK:=yA HI.out.2.1;have HKK:=yA HI.out.2.2;have i1:(0:Int) <= k:=by omega
   have i2:(k:Int) < n:=by omega
   have hsx:zl wr (.slice sa n sc) n (ints ts):=HX.out wr (HK2.out.trans HKK.out (fun q hq e=>by exact J188 _) |>.mono (fun _ _ h=>h.elim));have hsx':zl wr (.slice sa n sc) ts.length (ints ts):=by rw [<- HN.out];exact hsx
   obtain ⟨ad,cap,ee,hcl⟩:=hsx'.ints;obtain ⟨gs,os,es,cs0⟩:=hcl k (by rw [<- HN.out];exact hlt);simp only [xX] at ee;obtain ⟨rfl,hz,rfl⟩:=ee;clear hz;subst es;obtain ⟨t,ht⟩:∃ z,z=ts.getD k 0:=⟨_,rfl⟩
   rw [<- ht] at cs0;obtain ⟨m,hm⟩:∃ z,z=(plN u (zAU u) (ts.take k)).2:=⟨_,rfl⟩
   obtain ⟨D,hD⟩:∃ z,z=(plN u (zAU u) (ts.take k)).1:=⟨_,rfl⟩
   rw [<- hm] at HMK;rw [<- hD] at HRW;have HDL:Hid (D.length=k):=by show _=_;rw [hD,zHF,uH];have:=HN.out;omega
   have HTK:Hid (plN u (zAU u) (ts.take (k+1))=(D++[⟨t,(stepM u m t).2.2,(stepM u m t).2.1⟩],(stepM u m t).1)):=by
    show _=_
    have hlt2:k < ts.length:=by rw [<- HN.out];exact hlt
    have e:ts.take (k+1)=ts.take k++[t]:=by rw [List.take_add_one,ht];simp [hlt2,List.getD]
    rw [e,zLo,<- hm,<- hD]
   obtain ⟨L0,hL0⟩:∃ z,z=D++List.replicate (n - k) stZ:=⟨_,rfl⟩
   have h0:L0[k]?=some stZ:=by
    rw [hL0,yY (by rw [HDL.out];exact yV _),HDL.out,kE,uE,if_pos (by omega)]
   have HL0:=yA hL0;rw [<- hL0] at HRW;have hk0:k < L0.length:=(yO.1 h0).1;have HH0:Hid (L0[k]?=some stZ /\ k < L0.length):=⟨h0,hk0⟩;have hc0:∀ j,j < 7 -> k*7+j < (L0.flatMap stC).length:=fun j hj=>by rw [zw _ 7 zCP];omega
   have fr:=zo HRW.out;have c0:∀ W,Keeps zA wr W -> W.cell? ⟨go,k*7,none⟩=some (.int .i64 0):=zT (HRW.out.cell (by have:=zBL stC 7 zCP L0 k 0 (by decide);rw [h0] at this;exact this))
   have f0:∀ W,Keeps zA wr W -> W.frozen? ⟨go,k*7,none⟩=false:=fr (k*7+0) (hc0 0 (by decide))
   have kr:=zI wr;clear HI hk hsx hsx' hcl ht hm hD hL0 h0 hk0 fr hc0;go_upto_region 11 with fail
   have HR1:=yA (zCz HRW.out 0 (by decide) (.int .i64 t) (y:=⟨t,0,Evt.zero⟩) HH0.out.1 rfl);have HK1':Hid (Keeps (fun q=>q=go) wr (wr.setCell ⟨go,k*7,none⟩ (.int .i64 t))):=(yB (fun q=>q=go) wr).setCell (p:=⟨go,k*7,none⟩) (fun _=>rfl) _;have HR1:Hid (zC (wr.setCell ⟨go,k*7,none⟩ (.int .i64 t)) go ((L0.set k ⟨t,0,Evt.zero⟩).flatMap stC)):=HR1;generalize wr.setCell ⟨go,k*7,none⟩ (.int .i64 t)=w5 at HR1 HK1' ⊢;have M5:=yA (HMK.out.zLc (HK1'.out.mono (fun q _ e=>.inr e)));rcases hst:stepM u m t with ⟨m',⟨xt,xk,xo,xv,xb⟩,fl⟩;rw [hst] at HTK
   have HST:Hid (Calls Tryz.prog 15 #[.pointer (some ⟨b,0,none⟩), .int .i64 t] w5 fun e w'=>e=.returned (.tuple #[.agg #[.int .i64 xt, .int .i64 xk, .int .i64 xo, .int .i64 xv, .int .i64 xb], .int .i64 fl]) /\ zCb (fun q=>q < g0 \/ q=go) w' b u m' /\ Keeps (fun q=>¬ (q < g0 \/ q=go)) w5 w'):=by
    have h:=M5.out.step t;rw [hst] at h;exact h
   obtain ⟨L1,hL1⟩:∃ z,z=L0.set k ⟨t,0,Evt.zero⟩:=⟨_,rfl⟩
   have h1:L1[k]?=some ⟨t,0,Evt.zero⟩:=by rw [hL1];exact yX HH0.out.2
   rw [<- hL1] at HR1;have HL1:Hid (L1=L0.set k ⟨t,0,Evt.zero⟩ /\ L1[k]?=some ⟨t,0,Evt.zero⟩ /\ k < L1.length):=⟨hL1,h1,(yO.1 h1).1⟩;have k5:=zI w5;clear hst c0 f0 cs0 hL1 h1 kr;go_wp2_with (go_at_call 15;refine HST.out.mono ?_;rintro e w6 ⟨rfl,hm,hkk⟩;have M6:=yA hm;have HK6:=yA hkk;have HR6:Hid (zC w6 go (L1.flatMap stC)):=HR1.out.keeps hkk (fun h=>h (.inr rfl));have k6:=zI w6;have hc1:∀ j,j < 7 -> k*7+j < (L1.flatMap stC).length:=(fun j hj=>by rw [zw _ 7 zCP];have:=HL1.out.2.2;omega);have fr:=zo HR6.out;have f1:=fr (k*7+1) (hc1 1 (by decide));have f2:=fr (k*7+2) (hc1 2 (by decide));have f3:=fr (k*7+3) (hc1 3 (by decide));have f4:=fr (k*7+4) (hc1 4 (by decide));have f5:=fr (k*7+5) (hc1 5 (by decide));have f6:=fr (k*7+6) (hc1 6 (by decide));have gc:=(fun j (hj:j < 7)=>zBL stC 7 zCP L1 k j hj);rw [HL1.out.2.1] at gc;have c1:=zT (HR6.out.cell (gc 1 (by decide)));have c2:=zT (HR6.out.cell (gc 2 (by decide)));have c3:=zT (HR6.out.cell (gc 3 (by decide)));have c4:=zT (HR6.out.cell (gc 4 (by decide)));have c5:=zT (HR6.out.cell (gc 5 (by decide)));have c6:=zT (HR6.out.cell (gc 6 (by decide)));clear hm hkk fr hc1 gc)
   have p0:=zCz HR6.out 2 (by decide) (.int .i64 xt) (y:=⟨t,0,⟨xt,0,0,0,0⟩⟩) (HL1.out.2.1) rfl;have p1:=zCz p0 3 (by decide) (.int .i64 xk) (y:=⟨t,0,⟨xt,xk,0,0,0⟩⟩) (yX (J164 _)) rfl;have p2:=zCz p1 4 (by decide) (.int .i64 xo) (y:=⟨t,0,⟨xt,xk,xo,0,0⟩⟩) (yX (J164 _)) rfl;have p3:=zCz p2 5 (by decide) (.int .i64 xv) (y:=⟨t,0,⟨xt,xk,xo,xv,0⟩⟩) (yX (J164 _)) rfl;have p4:=zCz p3 6 (by decide) (.int .i64 xb) (y:=⟨t,0,⟨xt,xk,xo,xv,xb⟩⟩) (yX (J164 _)) rfl;have p5:=zCz p4 1 (by decide) (.int .i64 fl) (y:=⟨t,fl,⟨xt,xk,xo,xv,xb⟩⟩) (yX (J164 _)) rfl;simp only [vS] at p5;have K67:Keeps (fun q=>q=go) w6 ((((((w6.setCell ⟨go,k*7+2,none⟩ (.int .i64 xt)).setCell ⟨go,k*7+2+1,none⟩ (.int .i64 xk)).setCell ⟨go,k*7+2+2,none⟩ (.int .i64 xo)).setCell ⟨go,k*7+2+3,none⟩ (.int .i64 xv)).setCell ⟨go,k*7+2+4,none⟩ (.int .i64 xb)).setCell ⟨go,k*7+1,none⟩ (.int .i64 fl)):=(((((((yB (fun q=>q=go) w6).setCell (p:=⟨go,k*7+2,none⟩) (fun _=>rfl) (.int .i64 xt)).setCell (p:=⟨go,k*7+2+1,none⟩) (fun _=>rfl) (.int .i64 xk)).setCell (p:=⟨go,k*7+2+2,none⟩) (fun _=>rfl) (.int .i64 xo)).setCell (p:=⟨go,k*7+2+3,none⟩) (fun _=>rfl) (.int .i64 xv)).setCell (p:=⟨go,k*7+2+4,none⟩) (fun _=>rfl) (.int .i64 xb)).setCell (p:=⟨go,k*7+1,none⟩) (fun _=>rfl) (.int .i64 fl));have p5:zC ((((((w6.setCell ⟨go,k*7+2,none⟩ (.int .i64 xt)).setCell ⟨go,k*7+2+1,none⟩ (.int .i64 xk)).setCell ⟨go,k*7+2+2,none⟩ (.int .i64 xo)).setCell ⟨go,k*7+2+3,none⟩ (.int .i64 xv)).setCell ⟨go,k*7+2+4,none⟩ (.int .i64 xb)).setCell ⟨go,k*7+1,none⟩ (.int .i64 fl)) go ((L1.set k ⟨t,fl,⟨xt,xk,xo,xv,xb⟩⟩).flatMap stC):=p5;generalize ((((((w6.setCell ⟨go,k*7+2,none⟩ (.int .i64 xt)).setCell ⟨go,k*7+2+1,none⟩ (.int .i64 xk)).setCell ⟨go,k*7+2+2,none⟩ (.int .i64 xo)).setCell ⟨go,k*7+2+3,none⟩ (.int .i64 xv)).setCell ⟨go,k*7+2+4,none⟩ (.int .i64 xb)).setCell ⟨go,k*7+1,none⟩ (.int .i64 fl))=w7 at p5 K67 ⊢
   have eL:L1.set k ⟨t,fl,⟨xt,xk,xo,xv,xb⟩⟩=(D++[(⟨t,fl,⟨xt,xk,xo,xv,xb⟩⟩:zCf)])++List.replicate (n - (k+1)) stZ:=by
    rw [HL1.out.1,vS,HL0.out,uP _ _ (by rw [HDL.out];exact yV _),HDL.out,kE];obtain ⟨q,hq⟩:∃ q,n - k=q+1:=⟨n - k - 1,by omega⟩
    rw [hq,List.replicate_succ,show n - (k+1)=q by omega,List.append_assoc];rfl
   rw [eL] at p5
   have hkk:Keeps (fun q=>g0 <= q) w2 w7:=(((HKK.out.trans (HK1'.out.mono (fun q _ e=>by have e':q=go:=e;have:=HGO.out;show g0 <= q;omega)) (fun _ _ h=>h)).trans (HK6.out.mono (fun q _ hn=>by
    have hn':¬ q < g0:=fun h=>hn (.inl h)
    show g0 <= q
    omega)) (fun _ _ h=>h))).trans (K67.mono (fun q _ e=>by have e':q=go:=e;have:=HGO.out;show g0 <= q;omega)) (fun _ _ h=>h)
   refine ⟨⟨k+1,by omega,by go_num,?_,?_,hkk⟩,by simp [intOf];omega⟩
   ·rw [HTK.out];exact p5
   ·rw [HTK.out];exact M6.out.zLc (K67.mono (fun q _ e=>.inr e))
  ·have hkn:k=n:=by omega
   subst hkn;have HRW:=yA HI.out.1;have HMK:=yA HI.out.2.1;have HKK:=yA HI.out.2.2;have htk:ts.take k=ts:=by rw [HN.out];exact xJ
   rw [htk,kE,List.replicate_zero,List.append_nil] at HRW;rw [htk] at HMK;obtain ⟨m,hm⟩:∃ z,z=(plN u (zAU u) ts).2:=⟨_,rfl⟩
   obtain ⟨D,hD⟩:∃ z,z=(plN u (zAU u) ts).1:=⟨_,rfl⟩
   have HPL:Hid (plN u (zAU u) ts=(D,m) /\ D.length=k):=⟨by rw [hm,hD],by rw [hD,zHF];exact HN.out.symm⟩;rw [<- hm] at HMK;rw [<- hD] at HRW;have SE:=yA HMK.out.state;have HRYr:=yA (HRY.out.keeps HKK.out (fun h=>by have h:g0 <= y:=h;have:=HG0.out;have:=HY.out.2;omega));have yy:=HRYr.out.zDZ;have f0:=zo HRYr.out 0 (by decide);have f1:=zo HRYr.out 1 (by decide);have f2:=zo HRYr.out 2 (by decide);have f3:=zo HRYr.out 3 (by decide);have HGS:Hid (g0 <= wr.heap.size):=by have:=HG0.out;have:=HKK.out.size;show _ <= _;omega
   have kr:=zI wr;clear hlt hk htk hm hD HI;go_wp2_with (go_at_call 27;refine SE.out.mono ?_;rintro e w8 ⟨t1,t2,c3,c4,rfl,hs⟩;obtain ⟨t3,u3,e3⟩:=hs.sts.form;obtain ⟨t4,u4,e4⟩:=hs.next.form;subst e3 e4;have S8:=yA hs;have k8:=hs.keeps;clear hs)
   have K28:Hid (Keeps zA w w8):=(HK2.out.trans HKK.out (fun q hq e=>by exact J188 _)).zB k8;have HKY:=zDC y [.slice t1 m.cells.length m.cells.length, .slice t2 m.owners.length m.owners.length, .slice t3 m.zL.length u3, .slice t4 m.zL.length u4] 0 w8;obtain ⟨R5,K5⟩:=zDO (w:=w) [.slice t1 m.cells.length m.cells.length, .slice t2 m.owners.length m.owners.length, .slice t3 m.zL.length u3, .slice t4 m.zL.length u4] (HRYr.out.keeps k8 (fun h=>h)) rfl K28.out HY.out.1;simp only [zGC,xC,Nat.reduceAdd] at R5 K5 HKY;generalize (((w8.setCell ⟨y,0,none⟩ (.slice t1 m.cells.length m.cells.length)).setCell ⟨y,1,none⟩ (.slice t2 m.owners.length m.owners.length)).setCell ⟨y,2,none⟩ (.slice t3 m.zL.length u3)).setCell ⟨y,3,none⟩ (.slice t4 m.zL.length u4)=wz at R5 K5 HKY ⊢;refine xM (v:=.tuple #[.slice (some ⟨go,0,none⟩) k k, .agg #[.slice t1 m.cells.length m.cells.length, .slice t2 m.owners.length m.owners.length, .slice t3 m.zL.length u3, .slice t4 m.zL.length u4], .int .i64 0]) (by simp [results,Tryz.results20,go_sem,R5.cell (k:=0) rfl,R5.cell (k:=1) rfl,R5.cell (k:=2) rfl,R5.cell (k:=3) rfl]) rfl ?_
   obtain ⟨q1,q2⟩:=HPL.out;rw [q1];have hny:∀ q,wr.heap.size <= q -> ¬ (fun q=>q=y) q:=fun q hq e=>by have e':q=y:=e;have:=HGS.out;have:=HY.out.2;have:=HG0.out;omega
   have hws:w.heap.size <= wr.heap.size:=by have:=HGS.out;have:=HG0.out;have:=HY.out;omega
   have hgy:¬ go=y:=by have:=HGO.out;have:=HY.out.2;have:=HG0.out;omega
   have hF:zAO wz w.heap.size (.slice (some ⟨go,0,none⟩) k k) k (D.flatMap stC):=by
    refine ⟨some ⟨go,0,none⟩,k,rfl,by unfold maxLen;omega,fun e=>(by cases e),fun _=>⟨go,rfl,?_,(HRW.out.keeps k8 (fun h=>h)).keeps HKY hgy⟩⟩
    have:=HGO.out;have:=HG0.out;have:=HY.out;omega
   rw [<- q2] at hF ⊢;exact ⟨_,_,t1,_,t2,_,t3,u3,t4,u4,rfl,hF,K5,(S8.out.cells.keeps HKY hny).mono hws,(S8.out.owners.keeps HKY hny).mono hws,(S8.out.sts.keeps HKY hny).mono hws,(S8.out.next.keeps HKY hny).mono hws⟩
end
theorem zl.rows {α:Type} {C:α -> List Value} {sz:Nat} (hC:∀ x,(C x).length=sz) {w:World} {v:Value} {L:List α} (h:zl w v L.length (L.flatMap C)):∃ ad cap,v=.slice ad L.length cap /\ ∀ k x,L[k]?=some x -> ∃ g o,ad=some ⟨g,o,none⟩ /\ ∀ j u,(C x)[j]?=some u -> w.cell? ⟨g,o+k*sz+j,none⟩=some u:=by
 obtain ⟨ad,cap,e,h1⟩:=h;refine ⟨ad,cap,e,fun k x hk=>?_⟩
 obtain ⟨g,o,e1,h2⟩:=h1 (by have:=(yO.1 hk).1;omega);refine ⟨g,o,e1,fun j u hj=>?_⟩
 have hl:j < sz:=by rw [<- hC x];exact (yO.1 hj).1
 have:=h2 (k*sz+j) u (by rw [zBL C sz hC L k j hl,hk];exact hj)
 rwa [<- uD] at this
def zAW (L:List zCf):List Evt:=(L.filter fun x=>decide (x.c=0)).map fun x=>x.e
def zGB (L:List zCf):Bool:=L.all fun x=>decide (x.c=0)
theorem zJ2 (L:List zCf) (x:zCf):zAW (L++[x])=zAW L++(if x.c=0 then [x.e] else []) /\ zGB (L++[x])=(zGB L&&decide (x.c=0)):=by
 unfold zAW zGB;by_cases h:x.c=0 <;> simp [h]
theorem zKs (w:World) (v:Value) (L:List zCf) (h:zl w v L.length (L.flatMap stC)) (hm:L.length <= 1000) :
 Calls Tryz.prog 21 #[v] w fun e w'=>∃ oa oc,e=.returned (.tuple #[.slice oa (zAW L).length oc, .bool (zGB L)]) /\ zAO w' w.heap.size (.slice oa (zAW L).length oc) (zAW L).length ((zAW L).flatMap evC) /\ Keeps zA w w':=by
 obtain ⟨a1,c1,rfl,k1⟩:=h.rows zCP;have H1:=yA k1;obtain ⟨n,hn⟩:∃ n,n=L.length:=⟨_,rfl⟩
 have HN:=yA hn;rw [<- hn] at hm ⊢;obtain ⟨j0,hj0,hy0,hy1,hy2⟩:=info_parts zIM;obtain ⟨E,hE⟩:∃ z,z=zAW L:=⟨_,rfl⟩
 obtain ⟨A,hA⟩:∃ z,z=zGB L:=⟨_,rfl⟩
 have HEA:Hid (E=zAW L /\ A=zGB L):=⟨hE,hA⟩;rw [<- hE,<- hA];clear h k1 hn hE hA;go_enter Tryz.func21,Tryz.ntmps21
 go_wp2_with fail
 go_loopw [4,5,6] (fun ov bv iv wr=>∃ (k lo oc:Nat) (oa:Option Addr) (b:Bool),k <= n /\ lo <= k /\ ov=.slice oa lo oc /\ bv=.bool b /\ iv=.int .i64 k /\ Hid (b=zGB (L.take k) /\ lo=(zAW (L.take k)).length /\ wr.ownsRow 0 40 5 (.slice oa lo oc) lo ((zAW (L.take k)).flatMap evC) /\ (∀ g,(Value.slice oa lo oc).ownBlock=some g -> w.heap.size <= g) /\ Keeps zA w wr)) (fun _ _ i _=>n - (intOf i).toNat)
 case atStart=>exact ⟨0,0,0,none,true,yH _,yV _,rfl,rfl,rfl,rfl,rfl,xB _ _ _ _,fun g e=>by exact J153 _,yB _ _⟩
 case round =>
  obtain ⟨k,lo,oc,oa,b,hk,hlo,rfl,rfl,rfl,HI⟩:=hrel;by_cases hlt:k < n
  ·obtain ⟨x,hx⟩:∃ x,L[k]?=some x:=⟨_,yJ (by rw [<- HN.out];exact hlt)⟩
   obtain ⟨hb,hl,how,hnew,hkk⟩:=HI.out;have HOW:=yA how;have HNEW:=yA hnew;have HKK:=yA hkk;have HTK:=yA (zJ2 (L.take k) x);have htk:L.take (k+1)=L.take k++[x]:=by rw [List.take_add_one,hx];rfl
   rw [<- htk] at HTK;have HBL:Hid (b=zGB (L.take k) /\ lo=(zAW (L.take k)).length):=⟨hb,hl⟩;obtain ⟨g1,o1,rfl,dd⟩:=H1.out k x hx;have d:=fun j u h=>hkk.cell (p:=⟨g1,o1+k*7+j,none⟩) (fun h=>h) (dd j u h)
   obtain ⟨xt,xc,xe0,xe1,xe2,xe3,xe4⟩:=x;have d1:wr.cell? ⟨g1,o1+k*7+1,none⟩=some (.int .i64 xc):=d 1 _ rfl;have d2:wr.cell? ⟨g1,o1+k*7+2,none⟩=some (.int .i64 xe0):=d 2 _ rfl;have d3:wr.cell? ⟨g1,o1+k*7+2+1,none⟩=some (.int .i64 xe1):=d 3 _ rfl;have d4:wr.cell? ⟨g1,o1+k*7+2+2,none⟩=some (.int .i64 xe2):=d 4 _ rfl;have d5:wr.cell? ⟨g1,o1+k*7+2+3,none⟩=some (.int .i64 xe3):=d 5 _ rfl;have d6:wr.cell? ⟨g1,o1+k*7+2+4,none⟩=some (.int .i64 xe4):=d 6 _ rfl;have i1:(0:Int) <= k:=by omega
   have i2:(k:Int) < n:=by omega
   clear d dd hx hk hb hl how hnew hkk htk HI;by_cases hc:xc=0
   ·have HT:Hid ((zAW (L.take (k+1))).flatMap evC=(zAW (L.take k)).flatMap evC++evC ⟨xe0,xe1,xe2,xe3,xe4⟩ /\ b=zGB (L.take (k+1)) /\ lo+1=(zAW (L.take (k+1))).length):=by
     obtain ⟨h1,h2⟩:=HTK.out;rw [if_pos hc] at h1;exact ⟨by rw [h1];simp,by rw [h2,HBL.out.1];simp [hc],by rw [h1,xE,<- HBL.out.2];rfl⟩
    have hcb:(xc==0)=true:=by rw [hc];rfl
    clear hc HTK;go_wp2_with (at_builtin;refine zH _ (by rfl) _ _ 54 (by rfl) 0 40 j0 _ 5 40 Tryz.underlying54 hj0 hy0 hy1 hy2 rfl (by decide) (.slice oa lo oc) lo ((zAW (L.take k)).flatMap evC) (by rfl) (zF HOW.out ((yB zA _).alloc _) (fun _ _ h=>h)) (.slice (some ⟨wr.heap.size,0,none⟩) 1 1) 1 (evC ⟨xe0,xe1,xe2,xe3,xe4⟩) (by rfl) (xN (yM (yG _ _))) rfl (by simp [evC,Value.oneCell']) (by unfold maxLen;omega) (by omega) (yH _) ?_;intro ad9 cap9 w8 hout;have HO:=yA hout;clear hout)
    refine ⟨⟨k+1,lo+1,cap9,ad9,b,by omega,by omega,by go_num,rfl,by go_num,HT.out.2.1,HT.out.2.2,by rw [HT.out.1];exact HO.out.1,fun q e=>?_,HO.out.keeps (HKK.out.alloc _) (fun q e hq=>absurd hq (by have:=HNEW.out q e;omega))⟩,by simp [intOf];omega⟩
    rcases HO.out.2.2 q e with h | h
    ·exact HNEW.out q h
    ·have:=HKK.out.size
     simp at h
     omega
   ·have HT:Hid (zAW (L.take (k+1))=zAW (L.take k) /\ false=zGB (L.take (k+1))):=by
     obtain ⟨h1,h2⟩:=HTK.out;rw [if_neg hc] at h1;exact ⟨by rw [h1];simp,by rw [h2];simp [hc]⟩
    have hcb:(xc==0)=false:=xG hc;clear hc HTK d2 d3 d4 d5 d6;go_wp2_with fail
    exact ⟨⟨k+1,lo,oc,oa,false,by omega,by omega,rfl,rfl,by go_num,HT.out.2,by rw [HT.out.1];exact HBL.out.2,by rw [HT.out.1];exact HOW.out,HNEW.out,HKK.out⟩,by simp [intOf];omega⟩
  ·have hkn:k=n:=by omega
   subst hkn;clear hlt;have htk:L.take k=L:=by rw [HN.out];exact xJ
   obtain ⟨hb,hl,how,hnew,hkk⟩:=HI.out;rw [htk] at hb hl how;rw [<- HEA.out.1] at hl how;rw [<- HEA.out.2] at hb;have HF:Hid (lo=E.length /\ b=A /\ zAO wr w.heap.size (.slice oa lo oc) lo (E.flatMap evC)):=⟨hl,hb,zAO.of how hnew⟩;have HKK:=yA hkk;clear hb hl how hnew hkk HI;go_wp2_with fail
   refine xM (v:=.tuple #[.slice oa lo oc, .bool b]) (by simp [results,Tryz.results21,go_sem]) rfl ?_
   refine ⟨oa,oc,by rw [<- HF.out.1,<- HF.out.2.1],?_,HKK.out⟩
   rw [<- HF.out.1];exact HF.out.2.2
end Go.Proofs.YtfokdllgnblamaaGreatDoor
namespace Go.Proofs.YtfokdllgnblamaaGreatDoor
abbrev LgS:=List (Int × Int) × List Int
def zCu (n:Nat) (S:LgS) (x:Evt):LgS:=zDH n S.1 S.2 x.thread x.kind x.obj x.bad
def zDX:Nat -> List Evt -> LgS -> LgS
 | _,[],S=>S
 | n,x :: r,S=>zDX (n+1) r (zCu n S x)
def OkL:Nat -> List Evt -> LgS -> Prop
 | _,[],_=>True
 | n,x :: r,S=>zGc S.1 S.2 x /\ OkL (n+1) r (zCu n S x)
theorem zKz:∀ (l:List Evt) (n:Nat) (S:LgS),OkL n l S -> ∀ k x,l[k]?=some x -> zGc (zDX n (l.take k) S).1 (zDX n (l.take k) S).2 x /\ zDX n (l.take (k+1)) S=zCu (n+k) (zDX n (l.take k) S) x
 | [],n,S,h,k,x,e=>by simp at e
 | y :: l,n,S,h,0,x,e=>by
   obtain rfl:y=x:=by simpa using e
   exact ⟨h.1,rfl⟩
 | y :: l,n,S,h,k+1,x,e=>by
   have:=zKz l (n+1) _ h.2 k x (by simpa using e)
   simp only [List.take_succ_cons,zDX];rw [show n+(k+1)=n+1+k by omega];exact this
structure zF0 (m:ze) (S:LgS):Prop where
 tl:S.1.length=8
 ol:S.2.length=8
 st:∀ j,j < m.zL.length -> (S.1.getD j (0,0)).1=(m.get j).st
 ow:∀ j,j < m.owners.length -> S.2.getD j 0=m.owners.getD j 0
theorem zDc {l:List (Int × Int)} {k j:Nat} (p:Int × Int) (hk:k < l.length):(l.set k p).getD j (0,0)=if k=j then p else l.getD j (0,0):=by
 exact J87 _
theorem zDf {l:List Int} {k j:Nat} (p:Int) (hk:k < l.length):(l.set k p).getD j 0=if k=j then p else l.getD j 0:=by
 exact J87 _
theorem zJq {u:Un} (hr:zV u=true):zF0 (zAU u) (T0,O0):=by
 have hb:=(zEW hr).zL;have h8:=zAt hr;refine ⟨rfl,rfl,fun j hj=>?_,fun j hj=>?_⟩
 ·rw [hb] at hj
  by_cases h0:j=0
  ·subst h0
   have e:(zAU u).get 0=zC9 (u.body 0):=by unfold zAU zER;exact uS _ _ _ (by simpa using hj)
   rw [e];rfl
  ·have e:(zAU u).get j=(⟨1,[],[]⟩:WTh):=by
    unfold zAU zER;rw [vD _ _ (fun h=>h0 h.symm)];simp [ze.get,List.getD,hj]
   rw [e];obtain ⟨q,rfl⟩:∃ q,j=q+1:=⟨j - 1,by omega⟩
   unfold T0;have hq:q < 7:=by omega
   rcases (show q=0 \/ q=1 \/ q=2 \/ q=3 \/ q=4 \/ q=5 \/ q=6 by omega) with rfl | rfl | rfl | rfl | rfl | rfl | rfl <;> rfl
 ·have e:(zAU u).owners=List.replicate u.mutexes.toNat (-1):=rfl
  rw [e] at hj ⊢;rw [uJ] at hj;unfold O0;have hq:j < 8:=by have:=h8.2.2.2.2.1;omega
  have e2:(List.replicate u.mutexes.toNat (-1:Int)).getD j 0=-1:=by simp [List.getD,uE,hj]
  rw [e2];rcases (show j=0 \/ j=1 \/ j=2 \/ j=3 \/ j=4 \/ j=5 \/ j=6 \/ j=7 by omega) with rfl | rfl | rfl | rfl | rfl | rfl | rfl | rfl <;> rfl
theorem zIw {u:Un} (hr:zV u=true) {m:ze} (h:m.ok u) {i:Nat} (hi:i < m.zL.length) (i2:(m.get i).st=2) (ia:zAy m i=true) {S:LgS} (hS:zF0 m S) (n:Nat):zGc S.1 S.2 (zAK u m i).2 /\ zF0 (zAK u m i).1 (zCu n S (zAK u m i).2):=by
 have h8:=zAt hr;have t8:m.zL.length <= 8:=by rw [h.zL];exact h8.2.1
 have o8:m.owners.length <= 8:=by rw [h.owners];have:=h8.2.2.2.2.1;omega
 obtain ⟨bd,hbd,hok,hbe⟩:=h.th hi;have e1:=zKE (u:=u) hi i2;have hst:=hS.st i hi
 have hT1:∀ (v:Int) (j:Nat),((S.1.set i ((S.1.getD i (0,0)).1,v)).getD j (0,0)).1=(S.1.getD j (0,0)).1:=fun v j=>by
  rw [zDc _ (by rw [hS.tl];omega)];split
  ·rename_i e;rw [e]
  ·rfl
 have hlT:∀ v,(S.1.set i ((S.1.getD i (0,0)).1,v)).length=8:=fun v=>by rw [xA];exact hS.tl
 have hputo:∀ (r:zFK) (k:Nat),r.ow=none -> (zC8 u m i k r).owners=m.owners:=fun r k e=>by unfold zC8;rw [e];rfl
 have hself:∀ (r:zFK) (k:Nat),(zC8 u m i k r).get i=r.t:=fun r k=>zJn hi
 have hoth:∀ (r:zFK) (k j:Nat),r.bg=false -> i ≠ j -> (zC8 u m i k r).get j=m.get j:=fun r k j e hne=>zJF hne (fun hb=>by rw [e] at hb;cases hb)
 have hlen:∀ (r:zFK) (k:Nat),(zC8 u m i k r).zL.length=m.zL.length:=fun r k=>by
  unfold zC8;simp only [xA];split
  ·rw [xA]
  ·rfl
 rcases zCR (hok.2.2 i2) (hok.2.1 (by rw [i2];decide)).2 with ⟨h3,_⟩ | ⟨a,f,r,h3,h4,h5,h6,h7⟩
 ·-- the end
  have ea:zAa m i=(9,(i:Int)):=by unfold zAa;rw [i2,h3];rfl
  have es:zGq m i=⟨{ m.get i with st:=3 },none,none,false,0,0⟩:=by unfold zGq outT;rw [h3]
  rw [e1,es,ea];refine ⟨⟨⟨⟨by simp,by simp only;omega⟩,⟨by simp,by simp only;omega⟩,by simp⟩,by simp only [Int.toNat_natCast];rw [hst];exact i2,by simp,by simp,by simp [zCM]⟩,?_⟩
  unfold zCu zDH;simp only [ne_eq,uC,uU,Int.reduceEq,kG,Int.toNat_natCast];refine ⟨by rw [xA];exact hlT _,hS.ol,fun j hj=>?_,fun j hj=>hS.ow j hj⟩
  rw [hlen] at hj;rw [zDc _ (by rw [hlT];omega)];by_cases e:i=j
  ·subst e;rw [if_pos rfl,hself]
  ·rw [if_neg e,hT1,hoth _ _ _ rfl e];exact hS.st j hj
 ·have ea:zAa m i=(a.kind - 1,a.obj):=by unfold zAa;rw [i2,h3];rfl
  have es:zGq m i=zFs i (m.get i) a (m.cells.getD (obM m i) 0) (m.owners.getD (obM m i) 0) (m.get (obM m i)).st:=by unfold zGq outT;rw [h3]
  have eo:obM m i=a.obj.toNat:=by unfold obM;rw [ea]
  have hloc:∀ t:WTh,t.st=2 -> t.on.local.st=2:=fun t e=>by rw [zHH];exact e
  have hob:2 <= a.kind /\ a.kind <= 8 -> 0 <= a.obj /\ a.obj < zAb u a.kind:=fun e=>Ac.zFP h6 e
  rw [eo] at es e1;rw [e1,ea];generalize hc:m.cells.getD a.obj.toNat 0=c at es
  have keepT:∀ (v:Int) (r:zFK) (k:Nat),r.ow=none -> r.bg=false -> r.t.st=2 -> zF0 (zC8 u m i k r) (S.1.set i ((S.1.getD i (0,0)).1,v),S.2):=fun v r k q1 q2 q3 =>
   ⟨hlT v,hS.ol,fun j hj=>by
    rw [hlen] at hj;rw [hT1];by_cases e:i=j
    ·subst e;rw [hself,q3,hst,i2]
    ·rw [hoth _ _ _ q2 e];exact hS.st j hj,fun j hj=>by rw [hputo _ _ q1] at hj ⊢;exact hS.ow j hj⟩
  have failT:∀ (v:Int) (r:zFK) (k:Nat),r.ow=none -> r.bg=false -> r.t.st=4 -> zF0 (zC8 u m i k r) ((S.1.set i ((S.1.getD i (0,0)).1,v)).set i (4,((S.1.set i ((S.1.getD i (0,0)).1,v)).getD i (0,0)).2),S.2):=fun v r k q1 q2 q3 =>
   ⟨by rw [xA];exact hlT v,hS.ol,fun j hj=>by
    rw [hlen] at hj;rw [zDc _ (by rw [hlT];omega)];by_cases e:i=j
    ·subst e;rw [if_pos rfl,hself,q3]
    ·rw [if_neg e,hT1,hoth _ _ _ q2 e];exact hS.st j hj,fun j hj=>by rw [hputo _ _ q1] at hj ⊢;exact hS.ow j hj⟩
  have ht:(S.1.getD ((i:Int)).toNat (0,0)).1=2:=by rw [Int.toNat_natCast,hst];exact i2
  have hi8:(0:Int) <= i /\ (i:Int) < 8:=by omega
  have hth:∀ k,zAb u k <= 8:=fun k=>by
   unfold zAb;have q1:=h8.2.1;have q2:=h8.2.2.1;have q3:=h8.2.2.2.2.1;repeat' split
   all_goals omega
  have hob8:2 <= a.kind /\ a.kind <= 8 -> 0 <= a.obj /\ a.obj < 8:=fun e=>by have q1:=hob e;have q2:=hth a.kind;omega
  have hOw:(a.kind=5 \/ a.kind=6) -> a.obj.toNat < m.owners.length:=fun e=>by
   have q:=hob (by omega);unfold zAb at q;rw [if_neg (by omega),if_pos e] at q;rw [h.owners];omega
  have hTh:(a.kind=7 \/ a.kind=8) -> a.obj.toNat < m.zL.length:=fun e=>by
   have q:=hob (by omega);unfold zAb at q;rw [if_neg (by omega),if_neg (by omega)] at q;rw [h.zL];omega
  have hcast:0 <= a.obj -> ((a.obj.toNat:Nat):Int)=a.obj:=fun e=>Int.toNat_of_nonneg e
  rcases (show a.kind=2 \/ a.kind=3 \/ a.kind=4 \/ a.kind=5 \/ a.kind=6 \/ a.kind=7 \/ a.kind=8 \/ a.kind=9 by omega) with hk | hk | hk | hk | hk | hk | hk | hk
  ·have es:zGq m i=_:=es
   unfold zFs at es;rw [if_pos hk] at es;rw [es,hk];exact ⟨⟨⟨hi8,hob8 (by omega), .inl ⟨.inl rfl,rfl⟩⟩,ht,by simp,by simp,by simp [zCM]⟩,by exact J168 _⟩
  ·unfold zFs at es
   rw [if_neg (by omega),if_pos hk] at es;rw [es,hk];exact ⟨⟨⟨hi8,hob8 (by omega), .inl ⟨.inr (.inl rfl),rfl⟩⟩,ht,by simp,by simp,by simp [zCM]⟩,by exact J168 _⟩
  ·unfold zFs at es
   rw [if_neg (by omega),if_neg (by omega),if_pos hk] at es;rw [es,hk];exact ⟨⟨⟨hi8,hob8 (by omega), .inl ⟨.inr (.inr rfl),rfl⟩⟩,ht,by simp,by simp,by simp [zCM]⟩,by exact J168 _⟩
  ·-- lock
   unfold zFs at es;rw [if_neg (by omega),if_neg (by omega),if_neg (by omega),if_pos hk] at es;have hl:=hOw (.inl hk)
   have hfree:m.owners.getD a.obj.toNat 0=-1:=by
    unfold zAy at ia;rw [ea,hk] at ia;simpa using ia
   rw [es,hk];refine ⟨⟨⟨hi8,hob8 (by omega), .inr (.inl ⟨rfl,rfl,rfl⟩)⟩,ht,fun _=>?_,by simp,by simp [zCM]⟩,?_⟩
   ·show S.2.getD a.obj.toNat 0 < 0
    rw [hS.ow _ hl,hfree];decide
   ·unfold zCu zDH
    simp only [Int.reduceSub,ne_eq,uC,uU,kG,Int.reduceEq,Int.toNat_natCast];refine ⟨hlT _,by rw [xA];exact hS.ol,fun j hj=>?_,fun j hj=>?_⟩
    ·exact J90 _
    ·have hj':j < m.owners.length:=by
      have:(zC8 u m i a.obj.toNat ⟨(m.get i).on.local,none,some (i:Int),false,0,0⟩).owners.length=m.owners.length:=xA
      omega
     show (S.2.set a.obj.toNat (i:Int)).getD j 0=(m.owners.set a.obj.toNat (i:Int)).getD j 0
     rw [zDf _ (by rw [hS.ol];omega),zDf _ hl,hS.ow j hj']
  ·-- unlock
   unfold zFs at es;rw [if_neg (by omega),if_neg (by omega),if_neg (by omega),if_neg (by omega),if_pos hk] at es;have hl:=hOw (.inr hk);have hq:=hS.ow _ hl;by_cases hown:m.owners.getD a.obj.toNat 0=i
   ·rw [if_pos hown] at es
    rw [es,hk];refine ⟨⟨⟨hi8,hob8 (by omega), .inr (.inr (.inl ⟨rfl,rfl, .inl rfl⟩))⟩,ht,by simp,by simp,fun _=>?_⟩,?_⟩
    ·show (0:Int)=zCM 5 _ _ _ _
     unfold zCM;rw [if_pos rfl,hq,hown,Int.toNat_natCast,if_pos rfl]
    ·unfold zCu zDH
     simp only [Int.reduceSub,ne_eq,uC,uU,kG,Int.reduceEq,Int.toNat_natCast];refine ⟨hlT _,by rw [xA];exact hS.ol,fun j hj=>?_,fun j hj=>?_⟩
     ·exact J90 _
     ·have hj':j < m.owners.length:=by
       have:(zC8 u m i a.obj.toNat ⟨(m.get i).on.local,none,some (-1),false,0,0⟩).owners.length=m.owners.length:=xA
       omega
      show (S.2.set a.obj.toNat (-1)).getD j 0=(m.owners.set a.obj.toNat (-1)).getD j 0
      rw [zDf _ (by rw [hS.ol];omega),zDf _ hl,hS.ow j hj']
   ·rw [if_neg hown] at es
    rw [es,hk];refine ⟨⟨⟨hi8,hob8 (by omega), .inr (.inr (.inl ⟨rfl,rfl, .inr rfl⟩))⟩,ht,by simp,by simp,fun _=>?_⟩,?_⟩
    ·show (2:Int)=zCM 5 _ _ _ _
     unfold zCM;rw [if_pos rfl,hq,Int.toNat_natCast,if_neg hown]
    ·exact J36 _
  ·-- start
   unfold zFs at es;rw [if_neg (by omega),if_neg (by omega),if_neg (by omega),if_neg (by omega),if_neg (by omega),if_pos hk] at es;have hl:=hTh (.inl hk);have hq:=hS.st _ hl;by_cases hidle:(m.get a.obj.toNat).st=1
   ·rw [if_pos hidle] at es
    have hne:a.obj.toNat ≠ i:=fun e=>by rw [e,i2] at hidle;cases hidle
    rw [es,hk];refine ⟨⟨⟨hi8,hob8 (by omega), .inr (.inr (.inr (.inl ⟨rfl,rfl, .inl rfl⟩)))⟩,ht,by simp,by simp,fun _=>?_⟩,?_⟩
    ·show (0:Int)=zCM 6 _ _ _ _
     unfold zCM;rw [if_neg (by decide),if_pos rfl,hq,hidle,if_pos rfl]
    ·unfold zCu zDH
     simp only [Int.reduceSub,ne_eq,uC,uU,kG,Int.reduceEq,Int.toNat_natCast];refine ⟨by rw [xA];exact hlT _,hS.ol,fun j hj=>?_,fun j hj=>hS.ow j hj⟩
     rw [hlen] at hj;rw [zDc _ (by rw [hlT];omega)];by_cases e:i=j
     ·subst e
      rw [if_neg hne,hT1,hself,hst,i2];exact (hloc _ i2).symm
     ·by_cases e2:a.obj.toNat=j
      ·subst e2
       rw [if_pos rfl]
       have:(zC8 u m i a.obj.toNat ⟨(m.get i).on.local,none,none,true,0,0⟩).get a.obj.toNat=zC9 (u.body a.obj.toNat):=by
        refine (vD (⟨[],[],m.zL.set a.obj.toNat (zC9 (u.body a.obj.toNat))⟩:ze) _ e).trans ?_
        exact uS m _ _ hl
       rw [this];rfl
      ·rw [if_neg e2,hT1,zJF e (fun _=>e2)];exact hS.st j hj
   ·rw [if_neg hidle] at es
    rw [es,hk];refine ⟨⟨⟨hi8,hob8 (by omega), .inr (.inr (.inr (.inl ⟨rfl,rfl, .inr rfl⟩)))⟩,ht,by simp,by simp,fun _=>?_⟩,?_⟩
    ·show (4:Int)=zCM 6 _ _ _ _
     unfold zCM;rw [if_neg (by decide),if_pos rfl,hq,if_neg hidle]
    ·exact J36 _
  ·-- join
   unfold zFs at es;rw [if_neg (by omega),if_neg (by omega),if_neg (by omega),if_neg (by omega),if_neg (by omega),if_neg (by omega),if_pos hk] at es;have hl:=hTh (.inr hk);have hq:=hS.st _ hl
   have hj13:(m.get a.obj.toNat).st=1 \/ (m.get a.obj.toNat).st=3:=by
    unfold zAy at ia;rw [ea,hk] at ia;simp only [Int.reduceSub,Int.reduceEq,uU,kG,yR,yS] at ia;obtain ⟨b2,hb2,hok2,_⟩:=h.th hl;rcases hok2.1 with e | e | e | e
    ·exact .inl e
    ·exact absurd e ia.1
    ·exact .inr e
    ·exact absurd e ia.2
   by_cases hidle:(m.get a.obj.toNat).st=1
   ·rw [if_pos hidle] at es
    rw [es,hk];refine ⟨⟨⟨hi8,hob8 (by omega), .inr (.inr (.inr (.inr (.inl ⟨rfl,rfl, .inr rfl⟩))))⟩,ht,by simp,fun _=>.inl (by show (S.1.getD a.obj.toNat (0,0)).1=1;rw [hq];exact hidle),fun _=>?_⟩,?_⟩
    ·show (3:Int)=zCM 7 _ _ _ _
     unfold zCM;rw [if_neg (by decide),if_neg (by decide),if_pos rfl,hq,if_pos hidle]
    ·exact J36 _
   ·rw [if_neg hidle] at es
    rw [es,hk];refine ⟨⟨⟨hi8,hob8 (by omega), .inr (.inr (.inr (.inr (.inl ⟨rfl,rfl, .inl rfl⟩))))⟩,ht,by simp,fun _=>.inr (by show (S.1.getD a.obj.toNat (0,0)).1=3;rw [hq];exact hj13.resolve_left hidle),fun _=>?_⟩,?_⟩
    ·show (0:Int)=zCM 7 _ _ _ _
     unfold zCM;rw [if_neg (by decide),if_neg (by decide),if_pos rfl,hq,if_neg hidle]
    ·exact J86 _
  ·-- assert
   unfold zFs at es;rw [if_neg (by omega),if_neg (by omega),if_neg (by omega),if_neg (by omega),if_neg (by omega),if_neg (by omega),if_neg (by omega)] at es;have h0:=Ac.zKx h6 hk;by_cases hv:a.ex.val (m.get i).regs=0
   ·rw [if_pos hv] at es
    rw [es,hk,hv];refine ⟨⟨⟨hi8,⟨by show 0 <= a.obj;omega,by show a.obj < 8;omega⟩, .inr (.inr (.inr (.inr (.inr (.inl ⟨rfl,h0, .inl ⟨rfl,rfl⟩⟩)))))⟩,ht,by simp,by simp,by simp⟩,?_⟩
    exact J36 _
   ·rw [if_neg hv] at es
    rw [es,hk];refine ⟨⟨⟨hi8,⟨by show 0 <= a.obj;omega,by show a.obj < 8;omega⟩, .inr (.inr (.inr (.inr (.inr (.inl ⟨rfl,h0, .inr ⟨hv,rfl⟩⟩)))))⟩,ht,by simp,by simp,by simp⟩,?_⟩
    exact J86 _
theorem zIe {u:Un} (hr:zV u=true):∀ (l:List Int) (m:ze) (S:LgS) (n:Nat),m.ok u -> zF0 m S -> OkL n (zAW (plN u m l).1) S /\ zF0 (plN u m l).2 (zDX n (zAW (plN u m l).1) S) /\ (zAW (plN u m l).1).length+zB9 u (plN u m l).2 <= zB9 u m:=by
 intro l
 induction l with
 | nil=>intro m S n hm hS;exact ⟨trivial,hS,by simp [plN,zAW]⟩
 | cons t r ih =>
   intro m S n hm hS
   by_cases h0:zBp m t=0
   ·obtain ⟨h1,h2,h3⟩:=hm.run h0
    have es:stepM u m t=((zAK u m t.toNat).1,(zAK u m t.toNat).2,0):=by unfold stepM;rw [if_pos h0]
    have hs:=zIw hr hm h2 h3 (zE4 h0).2.2.2.2.2 hS n;have hp:=zGa hr hm h0;have ho:=(zFk hr hm t).1;rw [es] at hp ho;obtain ⟨i1,i2,i3⟩:=ih _ _ (n+1) ho hs.2
    have ed:zAW (plN u m (t :: r)).1=(zAK u m t.toNat).2 :: zAW (plN u (zAK u m t.toNat).1 r).1:=by
     simp only [plN,es];unfold zAW;simp
    have ef:(plN u m (t :: r)).2=(plN u (zAK u m t.toNat).1 r).2:=by simp only [plN,es]
    rw [ed,ef];have hp':zB9 u (zAK u m t.toNat).1 < zB9 u m:=hp;have i3':(zAW (plN u (zAK u m t.toNat).1 r).1).length+zB9 u (plN u (zAK u m t.toNat).1 r).2 <= zB9 u (zAK u m t.toNat).1:=i3;exact ⟨⟨hs.1,i1⟩,i2,by rw [xQ];omega⟩
   ·have es:=zLu (u:=u) h0
    obtain ⟨i1,i2,i3⟩:=ih m S n hm hS
    have ed:zAW (plN u m (t :: r)).1=zAW (plN u m r).1:=by
     simp only [plN,es];unfold zAW;simp [h0]
    have ef:(plN u m (t :: r)).2=(plN u m r).2:=by simp only [plN,es]
    rw [ed,ef];exact ⟨i1,i2,i3⟩
end Go.Proofs.YtfokdllgnblamaaGreatDoor
