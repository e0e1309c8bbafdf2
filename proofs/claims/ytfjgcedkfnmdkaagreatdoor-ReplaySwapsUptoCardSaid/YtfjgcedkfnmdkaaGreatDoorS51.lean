/- Layer S: texts joined. -/
import Derived.Test.YtfjgcedkfnmdkaaGreatDoorS50
set_option linter.all false
set_option maxHeartbeats 10000000
set_option maxRecDepth 8000
namespace Go.Proofs.YtfjgcedkfnmdkaaGreatDoor
open Go.RowKit
theorem J217 (P:Prop) (h:P:=by have g:=zFE ⟨xt,xk,xo,xv,xb⟩ ⟨yt,yk,yo,yv,yb⟩ W;rw [hd] at g;exact g):P:=h
theorem zFX {w:World} {g i:Nat} {L:List Evt} (h:zC w g (L.flatMap evC)) (j:Nat) (hj:j < 5) (u:Value) {x y:Evt} (hx:L[i]?=some x) (hy:evC y=(evC x).set j u):zC (w.setCell ⟨g,i*5+j,none⟩ u) g ((L.set i y).flatMap evC):=by
 have hi:=(yI.1 hx).1;have:=h.set (i*5+j) (by rw [zAO _ 5 zBN];omega) u
 rwa [zEx evC 5 zBN L i j hj u x y hx hy] at this
def zLT (w:World) (g k:Nat) (y:Evt):World:=((((w.setCell ⟨g,k*5,none⟩ (.int .i64 y.thread)).setCell ⟨g,k*5+1,none⟩ (.int .i64 y.kind)).setCell ⟨g,k*5+2,none⟩ (.int .i64 y.obj)).setCell ⟨g,k*5+3,none⟩ (.int .i64 y.value)).setCell ⟨g,k*5+4,none⟩ (.int .i64 y.bad)
theorem zHv {w:World} {g k:Nat} {L:List Evt} (h:zC w g (L.flatMap evC)) (hk:k < L.length) (y:Evt):zC (zLT w g k y) g ((L.set k y).flatMap evC):=by
 obtain ⟨x,hx⟩:∃ x,L[k]?=some x:=⟨_,yM hk⟩
 have hs:∀ (M:List Evt) (z:Evt),M.length=L.length -> (M.set k z)[k]?=some z:=fun M z e=>yY (by omega)
 have p0:=zFX h 0 (by decide) (.int .i64 y.thread) (y:=⟨y.thread,x.kind,x.obj,x.value,x.bad⟩) hx rfl;have p1:=zFX p0 1 (by decide) (.int .i64 y.kind) (y:=⟨y.thread,y.kind,x.obj,x.value,x.bad⟩) (hs _ _ rfl) rfl;have p2:=zFX p1 2 (by decide) (.int .i64 y.obj) (y:=⟨y.thread,y.kind,y.obj,x.value,x.bad⟩) (hs _ _ (by simp)) rfl;have p3:=zFX p2 3 (by decide) (.int .i64 y.value) (y:=⟨y.thread,y.kind,y.obj,y.value,x.bad⟩) (hs _ _ (by simp)) rfl;have p4:=zFX p3 4 (by decide) (.int .i64 y.bad) (y:=y) (hs _ _ (by simp)) rfl;simp only [kE] at p4;exact p4
theorem zFr (w:World) (g k:Nat) (y:Evt):Keeps (fun q=>q=g) w (zLT w g k y):=by
 exact (((((yB (fun q=>q=g) w).setCell (p:=⟨g,k*5,none⟩) (fun _=>rfl) _).setCell (p:=⟨g,k*5+1,none⟩) (fun _=>rfl) _).setCell (p:=⟨g,k*5+2,none⟩) (fun _=>rfl) _).setCell (p:=⟨g,k*5+3,none⟩) (fun _=>rfl) _).setCell (p:=⟨g,k*5+4,none⟩) (fun _=>rfl) _
theorem zMm (es:List Evt):∀ q,q ∈ es.flatMap evC -> q.oneCell'=true:=by
 intro q hq
 obtain ⟨e,_,he⟩:=List.mem_flatMap.1 hq;simp only [evC,xS,kG,or_false] at he;rcases he with rfl | rfl | rfl | rfl | rfl <;> rfl
section
variable {cs:List Int} {mu:Int} {bs:List Bd} {w:World} {F:Nat -> Prop} {uca uta:Option Addr} {ucc utc:Nat}
theorem zJ5 (ca:Option Addr) (nch cc n k:Nat) (es pre post:List Evt) (m:zW) (xt xk xo xv xb yt yk yo yv yb:Int) (HH:Hid (es=pre++⟨xt,xk,xo,xv,xb⟩ :: ⟨yt,yk,yo,yv,yb⟩ :: post /\ k=pre.length /\ n=es.length /\ k+1 < n)) (hn60:n <= 60)
 (HDP:Hid (∀ W,Calls Tryz.prog 30 #[.agg #[.int .i64 xt, .int .i64 xk, .int .i64 xo, .int .i64 xv, .int .i64 xb], .agg #[.int .i64 yt, .int .i64 yk, .int .i64 yo, .int .i64 yv, .int .i64 yb]] W fun e w'=>e=.returned (.bool false) /\ Keeps zA W w'))
 (HWI:Hid (∀ W,Keeps zA w W -> Calls Tryz.prog 29 #[.agg #[.slice uca cs.length ucc, .int .i64 mu, .slice uta bs.length utc]] W fun e w'=>e=.returned (.int .i64 0) /\ Keeps zA W w'))
 (HWE:Hid (∀ W,Keeps zA w W -> Calls Tryz.prog 22 #[.agg #[.slice uca cs.length ucc, .int .i64 mu, .slice uta bs.length utc], .slice ca nch cc] W fun e w'=>∃ oa oc a1 an1 aq1 a2 an2 aq2 a3 an3 aq3 a4 an4 aq4,e=.returned (.tuple #[.slice oa n oc, .agg #[.slice a1 an1 aq1, .slice a2 an2 aq2, .slice a3 an3 aq3, .slice a4 an4 aq4], .int .i64 0]) /\ zAG w' W.heap.size (.slice oa n oc) n (es.flatMap evC) /\ zBf w' (.slice a1 an1 aq1) (.slice a2 an2 aq2) (.slice a3 an3 aq3) (.slice a4 an4 aq4) m.cells m.owners (zDI m m.zL.length) (zDJ m m.zL.length) /\ Keeps zA W w'))
 (HSM:Hid (zMT m))
 (HPE:Hid (∀ W,Keeps zA w W -> ∀ (sa:Option Addr) (sc:Nat),zo W (.slice sa n sc) n (ints ((pre++⟨yt,yk,yo,yv,yb⟩ :: ⟨xt,xk,xo,xv,xb⟩ :: post).map Evt.thread)) -> Calls Tryz.prog 26 #[.agg #[.slice uca cs.length ucc, .int .i64 mu, .slice uta bs.length utc], .slice sa n sc] W fun e w'=>∃ oa oc a1 an1 aq1 a2 an2 aq2 a3 an3 aq3 a4 an4 aq4,e=.returned (.tuple #[.slice oa n oc, .agg #[.slice a1 an1 aq1, .slice a2 an2 aq2, .slice a3 an3 aq3, .slice a4 an4 aq4], .int .i64 0]) /\ zAG w' W.heap.size (.slice oa n oc) n ((dnS (pre++⟨yt,yk,yo,yv,yb⟩ :: ⟨xt,xk,xo,xv,xb⟩ :: post)).flatMap stC) /\ zBf w' (.slice a1 an1 aq1) (.slice a2 an2 aq2) (.slice a3 an3 aq3) (.slice a4 an4 aq4) m.cells m.owners (zDI m m.zL.length) (zDJ m m.zL.length) /\ Keeps zA W w'))
 (HDN:Hid (∀ W v,zo W v n ((dnS (pre++⟨yt,yk,yo,yv,yb⟩ :: ⟨xt,xk,xo,xv,xb⟩ :: post)).flatMap stC) -> Calls Tryz.prog 31 #[v] W fun e w'=>∃ oa oc,e=.returned (.tuple #[.slice oa n oc, .bool true]) /\ zAG w' W.heap.size (.slice oa n oc) n ((pre++⟨yt,yk,yo,yv,yb⟩ :: ⟨xt,xk,xo,xv,xb⟩ :: post).flatMap evC) /\ Keeps zA W w'))
 : Calls Tryz.prog 7 #[.agg #[.slice uca cs.length ucc, .int .i64 mu, .slice uta bs.length utc], .slice ca nch cc, .int .i64 k] w fun e w'=>e=.returned (.bool true) /\ Keeps zA w w':=by
 obtain ⟨j0,hj0,hy0,hy1,hy2⟩:=info_parts zIz;obtain ⟨i0,hi0,hz0,hz1,hz2⟩:=info_parts zBb;go_enter Tryz.func7,Tryz.ntmps7
 go_upto_region 1 with fail
 obtain ⟨b1,w1,x1,z1,R1,K1,_⟩:=newRow w [.slice uca cs.length ucc, .int .i64 mu, .slice uta bs.length utc] 25;try rw [x1]
 try rw [z1]
 have y1:=R1.zEH;have k1:=zJ w1;have HR1:=yA R1;have HK1:=yA K1;clear x1 z1 R1 K1;have HS:=yA (zDY w1)
 go_upto_region 8 with (first
  | (go_at_call 21;refine HS.out.mono ?_;rintro e w2 ⟨rfl,k2⟩;have HK2:=yA (HK1.out.zB k2);have k12:=yA k2)
  | (go_at_call 29;refine (HWI.out _ HK2.out).mono ?_;rintro e w3 ⟨rfl,k3⟩;have HK3:=yA (HK2.out.zB k3);have k13:=yA (k12.out.zB k3);have k3':=k2.zB k3;clear k3)
  | (go_at_call 22;refine (HWE.out _ HK3.out).mono ?_;rintro e w4 ⟨oa,oc,a1,an1,aq1,a2,an2,aq2,a3,an3,aq3,a4,an4,aq4,rfl,hf,hst,ho⟩;have HF:=yA hf;have HST:=yA hst;have HO:=yA ho;clear hf hst ho))
 obtain ⟨b10,w5,x5,z5,R5,K5,_⟩:=newRow w4 [.slice a1 an1 aq1, .slice a2 an2 aq2, .slice a3 an3 aq3, .slice a4 an4 aq4] 50;rw [x5,z5];have HK5:Hid (Keeps zA w w5):=(HK3.out.zB HO.out).zB K5;have d1:decide ((k:Int) < 0)=false:=xH (by omega);obtain ⟨hes,hk,hn,hkn⟩:=HH.out;have e1:IntKind.i64.wrap ((n:Int) - 1)=(n:Int) - 1:=uZ _ (by omega) (by omega);have d2:decide ((n:Int) - 1 <= k)=false:=xH (by omega);have e2:IntKind.i64.wrap ((k:Int)+1)=((k+1:Nat):Int):=J215 _;have HF5:=yA (HF.out.keeps K5 (fun _ _ h=>h));have HST5:=yA (HST.out.keeps K5);obtain ⟨ad,cap,ea,_,_,hcl⟩:=HF5.out;simp only [xY,true_and] at ea;obtain ⟨rfl,rfl⟩:=ea;obtain ⟨g,rfl,_,hrow⟩:=hcl (by omega);have HROW:=yA hrow
 have c:∀ (j:Nat) v,(evC ⟨xt,xk,xo,xv,xb⟩)[j]?=some v -> w5.cell? ⟨g,k*5+j,none⟩=some v:=fun j v hj=>hrow.cell (by
  have hj5:=(yI.1 hj).1;rw [zAS evC 5 zBN es k j hj5,hes,hk,yT (yV _),uX];exact hj)
 have d:∀ (j:Nat) v,(evC ⟨yt,yk,yo,yv,yb⟩)[j]?=some v -> w5.cell? ⟨g,(k+1)*5+j,none⟩=some v:=fun j v hj=>hrow.cell (by
  have hj5:=(yI.1 hj).1;rw [zAS evC 5 zBN es (k+1) j hj5,hes,hk,yT (by omega),show pre.length+1 - pre.length=1 by omega];exact hj)
 have c0:∀ W,Keeps zA w5 W -> W.cell? ⟨g,k*5,none⟩=some (.int .i64 xt):=zM (c 0 _ rfl)
 have c1:∀ W,Keeps zA w5 W -> W.cell? ⟨g,k*5+1,none⟩=some (.int .i64 xk):=zM (c 1 _ rfl)
 have c2:∀ W,Keeps zA w5 W -> W.cell? ⟨g,k*5+2,none⟩=some (.int .i64 xo):=zM (c 2 _ rfl)
 have c3:∀ W,Keeps zA w5 W -> W.cell? ⟨g,k*5+3,none⟩=some (.int .i64 xv):=zM (c 3 _ rfl)
 have c4:∀ W,Keeps zA w5 W -> W.cell? ⟨g,k*5+4,none⟩=some (.int .i64 xb):=zM (c 4 _ rfl)
 have d0:∀ W,Keeps zA w5 W -> W.cell? ⟨g,(k+1)*5,none⟩=some (.int .i64 yt):=zM (d 0 _ rfl)
 have d1:∀ W,Keeps zA w5 W -> W.cell? ⟨g,(k+1)*5+1,none⟩=some (.int .i64 yk):=zM (d 1 _ rfl)
 have d2:∀ W,Keeps zA w5 W -> W.cell? ⟨g,(k+1)*5+2,none⟩=some (.int .i64 yo):=zM (d 2 _ rfl)
 have d3:∀ W,Keeps zA w5 W -> W.cell? ⟨g,(k+1)*5+3,none⟩=some (.int .i64 yv):=zM (d 3 _ rfl)
 have d4:∀ W,Keeps zA w5 W -> W.cell? ⟨g,(k+1)*5+4,none⟩=some (.int .i64 yb):=zM (d 4 _ rfl)
 have i1:(0:Int) <= k:=by omega
 have i2:(k:Int) < n:=by omega
 have i3:(0:Int) <= ((k+1:Nat):Int):=by omega
 have i4:((k+1:Nat):Int) < n:=by omega
 have HK4:=yA HK5.out;have HR15:=yA (HR1.out.keeps ((k13.out.zB HO.out).zB K5) (fun h=>h));have HR10:=yA R5;clear x5 z5 R5 K5 HF HO HST c d hrow hcl hes hk hn hkn HWE HWI HS y1 k1 k2 k3';go_upto_region 10 with fail
 refine zD6 10 (by kernel_rfl) [some (.slice (some ⟨g,0,none⟩) n oc),some (.int .i64 k),some (.pointer (some ⟨g,k*5,none⟩)),some (.agg #[.int .i64 xt, .int .i64 xk, .int .i64 xo, .int .i64 xv, .int .i64 xb]),some (.slice (some ⟨g,0,none⟩) n oc),some (.int .i64 k),some (.int .i64 ((k+1:Nat):Int)),some (.pointer (some ⟨g,(k+1)*5,none⟩)),some (.agg #[.int .i64 yt, .int .i64 yk, .int .i64 yo, .int .i64 yv, .int .i64 yb]),some (.bool false)] rfl (fun _ _ _=>False) (fun _ _ _ _ h _=>h) ?_ ?_
 ·exact J29 _
 ·intro vs W hR hFF
  have HRW:Keeps zA w5 W:=((zJ w5).drew).zB hR;have e10:vs 9=_:=hFF 9 (by decide);simp only [zI,yC,yD,yO,Option.bind,Act.put,yE,yK,yL,yU,yQ];rw [e10];have HKW:=yA (HK4.out.zB HRW);have HK5W:=yA HRW;have HSRC:Hid (zo (W.alloc (.cells #[] 40)) (.slice (some ⟨g,0,none⟩) n oc) n (es.flatMap evC)):=(HF5.out.keeps (HRW.alloc _) (fun _ _ h=>h)).src;generalize vs 0=v0;generalize vs 1=v1;generalize vs 2=v2;generalize vs 3=v3;generalize vs 4=v4;generalize vs 5=v5;generalize vs 6=v6;generalize vs 7=v7;generalize vs 8=v8;clear hFF e10 c0 c1 c2 c3 c4 d0 d1 d2 d3 d4 HRW hR;go_upto_region 14 with (at_builtin;refine zH _ (by rfl) _ _ 47 (by rfl) 0 40 j0 _ 5 40 Tryz.underlying47 hj0 hy0 hy1 hy2 rfl (by decide) (.slice (some ⟨W.heap.size,0,none⟩) 0 0) 0 [] (by rfl) ⟨rfl, .inr ⟨W.heap.size,0,#[],rfl,yG _,yF W _,yV _,by unfold maxLen;omega,rfl,rfl⟩⟩ (.slice (some ⟨g,0,none⟩) n oc) n (es.flatMap evC) (by rfl) HSRC.out (by rw [zAO _ 5 zBN,<- HH.out.2.2.1]) (zMm es) (by unfold maxLen;omega) (by omega) (yG _) ?_;intro ad9 cap9 w6 hout;simp only [xA,List.nil_append] at hout;try rw [xA];have HO:=yA hout;clear hout)
  have K6:Hid (Keeps zA W w6):=HO.out.keeps ((yB _ _).alloc _) (fun q e hq=>absurd hq (by
   have e':W.heap.size=q:=J197 _;omega))
  have HF6:Hid (zAG w6 W.heap.size (.slice ad9 n cap9) n (es.flatMap evC)):=zAG.of HO.out.1 (fun q e=>by
   rcases HO.out.2.2 q e with h | h
   ·have h:W.heap.size=q:=by simpa [Value.ownBlock] using h
    omega
   ·have h:=h;simp at h;omega)
  obtain ⟨ad',cap',ea',_,_,hcl'⟩:=HF6.out;simp only [xY,true_and] at ea';obtain ⟨rfl,rfl⟩:=ea';obtain ⟨gx,rfl,hgx,hrow'⟩:=hcl' (by omega);have HGX:=yA hgx;have HRX:=yA hrow';have hkl:k+1 < es.length:=by rw [<- HH.out.2.2.1];exact HH.out.2.2.2
  have HKL:=yA hkl
  have c:∀ (j:Nat) v,(evC ⟨xt,xk,xo,xv,xb⟩)[j]?=some v -> w6.cell? ⟨gx,k*5+j,none⟩=some v:=fun j v hj=>hrow'.cell (by
   obtain ⟨hes,hk,_⟩:=HH.out;rw [zAS evC 5 zBN es k j (yI.1 hj).1,hes,hk,yT (yV _),uX];exact hj)
  have d:∀ (j:Nat) v,(evC ⟨yt,yk,yo,yv,yb⟩)[j]?=some v -> w6.cell? ⟨gx,(k+1)*5+j,none⟩=some v:=fun j v hj=>hrow'.cell (by
   obtain ⟨hes,hk,_⟩:=HH.out;rw [zAS evC 5 zBN es (k+1) j (yI.1 hj).1,hes,hk,yT (by omega),show pre.length+1 - pre.length=1 by omega];exact hj)
  have fr:=zAL hrow';have fl:∀ i,i < es.length*5 -> i < (es.flatMap evC).length:=fun i hi=>by rw [zAO _ 5 zBN];exact hi
  have c0:∀ W,Keeps zA w6 W -> W.cell? ⟨gx,k*5,none⟩=some (.int .i64 xt):=zM (c 0 _ rfl)
  have c1:∀ W,Keeps zA w6 W -> W.cell? ⟨gx,k*5+1,none⟩=some (.int .i64 xk):=zM (c 1 _ rfl)
  have c2:∀ W,Keeps zA w6 W -> W.cell? ⟨gx,k*5+2,none⟩=some (.int .i64 xo):=zM (c 2 _ rfl)
  have c3:∀ W,Keeps zA w6 W -> W.cell? ⟨gx,k*5+3,none⟩=some (.int .i64 xv):=zM (c 3 _ rfl)
  have c4:∀ W,Keeps zA w6 W -> W.cell? ⟨gx,k*5+4,none⟩=some (.int .i64 xb):=zM (c 4 _ rfl)
  have d0:∀ W,Keeps zA w6 W -> W.cell? ⟨gx,(k+1)*5,none⟩=some (.int .i64 yt):=zM (d 0 _ rfl)
  have d1:∀ W,Keeps zA w6 W -> W.cell? ⟨gx,(k+1)*5+1,none⟩=some (.int .i64 yk):=zM (d 1 _ rfl)
  have d2:∀ W,Keeps zA w6 W -> W.cell? ⟨gx,(k+1)*5+2,none⟩=some (.int .i64 yo):=zM (d 2 _ rfl)
  have d3:∀ W,Keeps zA w6 W -> W.cell? ⟨gx,(k+1)*5+3,none⟩=some (.int .i64 yv):=zM (d 3 _ rfl)
  have d4:∀ W,Keeps zA w6 W -> W.cell? ⟨gx,(k+1)*5+4,none⟩=some (.int .i64 yb):=zM (d 4 _ rfl)
  have f0:∀ W,Keeps zA w6 W -> W.frozen? ⟨gx,k*5,none⟩=false:=fr (k*5+0) (fl _ (by omega))
  have f1:∀ W,Keeps zA w6 W -> W.frozen? ⟨gx,k*5+1,none⟩=false:=fr (k*5+1) (fl _ (by omega))
  have f2:∀ W,Keeps zA w6 W -> W.frozen? ⟨gx,k*5+2,none⟩=false:=fr (k*5+2) (fl _ (by omega))
  have f3:∀ W,Keeps zA w6 W -> W.frozen? ⟨gx,k*5+3,none⟩=false:=fr (k*5+3) (fl _ (by omega))
  have f4:∀ W,Keeps zA w6 W -> W.frozen? ⟨gx,k*5+4,none⟩=false:=fr (k*5+4) (fl _ (by omega))
  have h0:∀ W,Keeps zA w6 W -> W.frozen? ⟨gx,(k+1)*5,none⟩=false:=fr ((k+1)*5+0) (fl _ (by omega))
  have h1:∀ W,Keeps zA w6 W -> W.frozen? ⟨gx,(k+1)*5+1,none⟩=false:=fr ((k+1)*5+1) (fl _ (by omega))
  have h2:∀ W,Keeps zA w6 W -> W.frozen? ⟨gx,(k+1)*5+2,none⟩=false:=fr ((k+1)*5+2) (fl _ (by omega))
  have h3:∀ W,Keeps zA w6 W -> W.frozen? ⟨gx,(k+1)*5+3,none⟩=false:=fr ((k+1)*5+3) (fl _ (by omega))
  have h4:∀ W,Keeps zA w6 W -> W.frozen? ⟨gx,(k+1)*5+4,none⟩=false:=fr ((k+1)*5+4) (fl _ (by omega))
  have k6:=zJ w6;clear c d fr fl hrow' hcl' hgx hkl HO HSRC;go_region
  have P2:=zHv (zHv (k:=k) HRX.out (by have:=HKL.out;omega) ⟨yt,yk,yo,yv,yb⟩) (k:=k+1) (by rw [uG];exact HKL.out) ⟨xt,xk,xo,xv,xb⟩;have KP:Keeps (fun q=>q=gx) w6 (zLT (zLT w6 gx k ⟨yt,yk,yo,yv,yb⟩) gx (k+1) ⟨xt,xk,xo,xv,xb⟩):=(zFr w6 gx k ⟨yt,yk,yo,yv,yb⟩).trans (zFr _ gx (k+1) ⟨xt,xk,xo,xv,xb⟩) (fun _ _ h=>h);unfold zLT at P2 KP;simp only at P2 KP;generalize (((((((((w6.setCell ⟨gx,k*5,none⟩ (.int .i64 yt)).setCell ⟨gx,k*5+1,none⟩ (.int .i64 yk)).setCell ⟨gx,k*5+2,none⟩ (.int .i64 yo)).setCell ⟨gx,k*5+3,none⟩ (.int .i64 yv)).setCell ⟨gx,k*5+4,none⟩ (.int .i64 yb)).setCell ⟨gx,(k+1)*5,none⟩ (.int .i64 xt)).setCell ⟨gx,(k+1)*5+1,none⟩ (.int .i64 xk)).setCell ⟨gx,(k+1)*5+2,none⟩ (.int .i64 xo)).setCell ⟨gx,(k+1)*5+3,none⟩ (.int .i64 xv)).setCell ⟨gx,(k+1)*5+4,none⟩ (.int .i64 xb)=wp at P2 KP ⊢;obtain ⟨sw,hsw⟩:∃ z,z=pre++⟨yt,yk,yo,yv,yb⟩ :: ⟨xt,xk,xo,xv,xb⟩ :: post:=⟨_,rfl⟩
  have hse:(es.set k ⟨yt,yk,yo,yv,yb⟩).set (k+1) ⟨xt,xk,xo,xv,xb⟩=sw:=by rw [HH.out.1,HH.out.2.1,hsw];exact zKA
  have hsl:n=sw.length:=by rw [HH.out.2.2.1,<- hse];simp
  rw [hse] at P2;rw [<- hsw] at HPE HDN;have HSL:=yA hsl;have KWZ:Hid (Keeps zA W wp.drew):=(K6.out.trans KP (fun q hq e=>by have e':q=gx:=e;have:=HGX.out;omega)).drew;have HSW:Hid (zC wp.drew gx (sw.flatMap evC)):=P2.keeps ((zJ wp).drew) (fun h=>h);obtain ⟨wz,hwz⟩:∃ z,z=wp.drew:=⟨_,rfl⟩
  rw [<- hwz] at KWZ HSW ⊢;have HR15:=yA (HR15.out.keeps (HK5W.out.zB KWZ.out) (fun h=>h));have HR10:=yA (HR10.out.keeps (HK5W.out.zB KWZ.out) (fun h=>h));have HST5:=yA (HST5.out.keeps (HK5W.out.zB KWZ.out));have HKZ:=yA (HKW.out.zB KWZ.out);clear P2 KP hsw hse hsl hwz c0 c1 c2 c3 c4 d0 d1 d2 d3 d4 f0 f1 f2 f3 f4 h0 h1 h2 h3 h4 k6 HRX HKL HF6 K6 i1 i2 i3 i4 e1 e2 HH HDP;go_wp2_with fail
  go_loopw [14,15] (fun sv iv wr=>∃ (q:Nat) (sa:Option Addr) (sc:Nat),q <= n /\ iv=.int .i64 q /\ sv=.slice sa q sc /\ Hid (wr.ownsRow 0 3 1 (.slice sa q sc) q (ints ((sw.take q).map Evt.thread)) /\ Keeps zA wz wr /\ (∀ g,(Value.slice sa q sc).ownBlock=some g -> wz.heap.size <= g))) (fun _ iv _=>n - (intOf iv).toNat)
  case atStart=>exact ⟨0,none,0,yG _,rfl,rfl,xB _ _ _ _,yB _ _,fun g e=>by exact J154 _⟩
  case round =>
   obtain ⟨q,sa,sc,hq,rfl,rfl,HI⟩:=hrel;by_cases hlt:q < n
   ·have hkn:q < sw.length:=by rw [<- HSL.out];exact hlt
    have hc:=HSW.out.cell (by have:=zAS evC 5 zBN sw q 0 (by decide);rw [yM hkn] at this;exact this);have z0:=zM (HI.out.2.1.cell (p:=⟨gx,q*5+0,none⟩) (fun h=>h) hc);rw [Nat.add_zero] at z0;obtain ⟨th,hth⟩:∃ z,z=sw[q].thread:=⟨_,rfl⟩
    have c0:∀ W,Keeps zA wr W -> W.cell? ⟨gx,q*5,none⟩=some (.int .i64 th):=by rw [hth];exact z0
    have HTK:Hid (ints ((sw.take (q+1)).map Evt.thread)=ints ((sw.take q).map Evt.thread)++[.int .i64 th]):=by
     show _=_
     rw [kQ,yM hkn,hth];unfold ints;rw [uU,uU];rfl
    have i1:(0:Int) <= q:=by omega
    have i2:(q:Int) < n:=by omega
    have kr:=zJ wr;clear z0 hc hth hkn hq;go_wp2_with (at_builtin;refine zH _ (by rfl) _ _ 22 (by rfl) 0 3 i0 _ 1 8 xK hi0 hz0 hz1 hz2 rfl (by decide) (.slice sa q sc) q (ints ((sw.take q).map Evt.thread)) (by rfl) (zG HI.out.1 ((yB zA _).alloc _) (fun _ _ h=>h)) (.slice (some ⟨wr.heap.size,0,none⟩) 1 1) 1 [.int .i64 th] (by rfl) (xQ (yN (yF _ _))) rfl (by simp [Value.oneCell']) (by unfold maxLen;omega) (by omega) (yG _) ?_;intro ad9 cap9 w8 hout;have HO:=yA hout;clear hout)
    refine ⟨⟨q+1,ad9,cap9,by omega,by go_num,rfl,?_,?_,fun g e=>?_⟩,by simp [intOf];omega⟩
    ·rw [HTK.out];exact HO.out.1
    ·exact HO.out.keeps (HI.out.2.1.alloc _) (fun g e hq=>absurd hq (by have:=HI.out.2.2 g e;omega))
    ·rcases HO.out.2.2 g e with h | h
     ·exact HI.out.2.2 g h
     ·have:=HI.out.2.1.size
      simp at h
      omega
   ·have hkn:q=n:=by omega
    subst hkn
    have hs:zo wr (.slice sa q sc) q (ints (sw.map Evt.thread)):=by
     have h:=zGo HI.out.1;rwa [show sw.take q=sw by rw [HSL.out];exact xL] at h
    have HIK:=yA HI.out.2.1;have HPC:=yA (HPE.out wr (HKZ.out.zB HI.out.2.1) sa sc hs);have y1:=(HR15.out.keeps HIK.out (fun h=>h)).zEH;have kr:=zJ wr;clear hs hlt hq HI HPE;go_upto_region 21 with (go_at_call 26;refine HPC.out.mono ?_;rintro e w9 ⟨ob,od,c1,cn1,cq1,c2,cn2,cq2,c3,cn3,cq3,c4,cn4,cq4,rfl,hf,hst,ho⟩;have HFP:=yA hf;have HTP:=yA hst;have HOP:=yA ho;clear hf hst ho)
    obtain ⟨b17,wA,x6,z6,R6,K6,_⟩:=newRow w9 [.slice c1 cn1 cq1, .slice c2 cn2 cq2, .slice c3 cn3 cq3, .slice c4 cn4 cq4] 50;rw [x6,z6];have HKA:Hid (Keeps zA wz wA):=(HIK.out.zB HOP.out).zB K6;have HFA:=yA (HFP.out.keeps K6 (fun _ _ h=>h)).src;have HTA:=yA (HTP.out.keeps K6);have HR6:=yA R6;have HDC:=yA (HDN.out wA (.slice ob q od) HFA.out);clear x6 z6 R6 K6 HPC HFP HTP HOP y1 kr HDN;go_upto_region 22 with (go_at_call 31;refine HDC.out.mono ?_;rintro e wB ⟨oe,of,rfl,hf,ho⟩;have HFB:=yA hf;have HOB:=yA ho;clear hf ho)
    have HSE:=yA (zIk wB (.slice oe q of) (.slice (some ⟨gx,0,none⟩) q cap9) sw (by rw [<- HSL.out];exact HFB.out.src) (by rw [<- HSL.out];exact (xQ (HSW.out.keeps (HKA.out.zB HOB.out) (fun h=>h)))) (by rw [<- HSL.out];omega));have HSS:Hid (∀ W,Keeps zA wB W -> Calls Tryz.prog 25 #[.agg #[.slice a1 an1 aq1, .slice a2 an2 aq2, .slice a3 an3 aq3, .slice a4 an4 aq4], .agg #[.slice c1 cn1 cq1, .slice c2 cn2 cq2, .slice c3 cn3 cq3, .slice c4 cn4 cq4]] W fun e w'=>e=.returned (.bool true) /\ Keeps zA W w'):=fun W hk=>zF8 W _ _ _ _ _ _ _ _ _ _ _ _ (HST5.out.keeps ((HKA.out.zB HOB.out).zB hk)) (HTA.out.keeps (HOB.out.zB hk)) HSM.out.1 HSM.out.2.1 (by rw [zJL m _ (yV _)];exact HSM.out.2.2) (by rw [zHV];exact HSM.out.2.2)
    have yb:=(HR6.out.keeps HOB.out (fun h=>h)).zDC;have ya:=(HR10.out.keeps (HKA.out.zB HOB.out) (fun h=>h)).zDC;have kB:=zJ wB;have HKB:=yA ((HKZ.out.zB HKA.out).zB HOB.out);clear HDC HFA HTA HFB HR6 HR10 HST5
    go_wp2_with (first
     | (go_at_call 24;refine HSE.out.mono ?_;rintro e w7 ⟨rfl,k7⟩;have HK7:=yA k7)
     | (go_at_call 25;refine (HSS.out _ HK7.out).mono ?_;rintro e w8 ⟨rfl,k8⟩;have HK8:=yA k8;clear k8))
    go_ret
    exact ⟨by simp,(HKB.out.zB HK7.out).zB HK8.out⟩
end
theorem zFn (x:Abt) (t:Int) (w:World):Calls Tryz.prog 71 #[x.val, .int .i64 t] w fun e w'=>e=.returned (.bool (x.sta t)) /\ Keeps zA w w':=by
 have T:=zFd x;rcases x with d | d | d | d | d | d | d | _
 all_goals (
  simp only [Abt.val,Abt.sta] at T ⊢;try (by_cases h:d=t)
  all_goals (
   try subst h
   go_enter Tryz.func71,Tryz.ntmps71
   go_wp2
   all_goals (
    go_ret
    refine ⟨by exact J165 _,?_⟩
    repeat' first | exact yB _ _ | apply yh)))
theorem zNg (x:Evt) (w:World):Calls Tryz.prog 70 #[evV x] w fun e w'=>e=.returned (zDq x).val /\ Keeps zA w w':=by
 obtain ⟨xt,xk,xo,xv,xb⟩:=x;have H:∃ z,Hid (z=zDq ⟨xt,xk,xo,xv,xb⟩):=⟨_,rfl⟩
 obtain ⟨z,H⟩:=H;rw [<- H.out];unfold evV
 have HC:xk=1 \/ xk=2 \/ xk=3 \/ xk=4 \/ xk=5 \/ xk=6 \/ xk=7 \/ xk=9 \/ ((xk==1)=false /\ (xk==2)=false /\ (xk==3)=false /\ (xk==4)=false /\ (xk==5)=false /\ (xk==6)=false /\ (xk==7)=false /\ (xk==9)=false):=by
  simp only [kZ,ne_eq];omega
 rcases HC with rfl | rfl | rfl | rfl | rfl | rfl | rfl | rfl | ⟨h1,h2,h3,h4,h5,h6,h7,h9⟩
 all_goals (
  go_enter Tryz.func70,Tryz.ntmps70
  go_wp2_with fail
  go_ret
  refine ⟨?_,(yB _ _).alloc _⟩
  rw [H.out];simp_all [zDq,Abt.val])
def zKT (x y:Evt):Bool:=decide (x.thread=y.thread) || (zDq x).dep (zDq y) || (zDq x).sta y.thread || (zDq y).sta x.thread
theorem zHQ (xt xk xo xv xb yt yk yo yv yb:Int) (w:World) :
 Calls Tryz.prog 30 #[.agg #[.int .i64 xt, .int .i64 xk, .int .i64 xo, .int .i64 xv, .int .i64 xb], .agg #[.int .i64 yt, .int .i64 yk, .int .i64 yo, .int .i64 yv, .int .i64 yb]] w fun e w'=>e=.returned (.bool (zKT ⟨xt,xk,xo,xv,xb⟩ ⟨yt,yk,yo,yv,yb⟩)) /\ Keeps zA w w':=by
 obtain ⟨r,hr⟩:∃ z,z=zKT ⟨xt,xk,xo,xv,xb⟩ ⟨yt,yk,yo,yv,yb⟩:=⟨_,rfl⟩
 rw [<- hr];have HR:=yA hr;clear hr;go_enter Tryz.func30,Tryz.ntmps30
 go_upto_region 1 with fail
 obtain ⟨bx,w1,x1,z1,R1,K1,s1⟩:=newRow w [.int .i64 xt, .int .i64 xk, .int .i64 xo, .int .i64 xv, .int .i64 xb] 40;try rw [x1]
 try rw [z1]
 obtain ⟨bY,w2,x2,z2,R2,K2,_⟩:=newRow w1 [.int .i64 yt, .int .i64 yk, .int .i64 yo, .int .i64 yv, .int .i64 yb] 40;have n1:bx+1=bY:=s1.out.symm.trans x2;try rw [n1]
 try rw [x2]
 try rw [z2]
 have y1:=(R1.keeps K2 (fun h=>h)).five;have y2:=R2.five;have K0:=yA (K1.zB K2);clear n1 x1 z1 x2 z2 R1 R2 K1 K2 s1;refine zD6 4 (by kernel_rfl) [some (.agg #[.int .i64 xt, .int .i64 xk, .int .i64 xo, .int .i64 xv, .int .i64 xb]),some ((zDq ⟨xt,xk,xo,xv,xb⟩).val),some (.agg #[.int .i64 yt, .int .i64 yk, .int .i64 yo, .int .i64 yv, .int .i64 yb]),some ((zDq ⟨yt,yk,yo,yv,yb⟩).val)] rfl (fun _ _ _=>False) (fun _ _ _ _ h _=>h) ?_ ?_
 ·refine ⟨?_,?_,?_,?_,trivial⟩ <;> (intro vs gs W Q' hR hd hK;have HRW:Keeps zA w2 W:=((zJ w2).drew).zB hR;have z1:=y1 W HRW;have z2:=y2 W HRW;simp only [zDE,zCM,zFK,zI,tz,Option.bind,Act.put] at hd hK ⊢;try simp only [hd] at hK ⊢)
  all_goals try (try clear hd;go_wp2_with (go_at_call 70;refine (zNg ⟨_,_,_,_,_⟩ _).mono ?_;rintro e w8 ⟨rfl,k8⟩);first | exact hK _ _ (yB _ _) rfl | exact hK _ _ (by assumption) rfl)
 ·intro vs W hR hFF
  have HRW:Keeps zA w2 W:=((zJ w2).drew).zB hR;have e4:vs 1=_:=hFF 1 (by decide);have e5:vs 3=_:=hFF 3 (by decide);simp only [zI,yC,yD,yO,Option.bind,Act.put,yE,yK,yL,yU,yQ];rw [e4,e5];generalize vs 0=v0;generalize vs 2=v2;clear hFF e4 e5 hR;have kw:=HRW;have KW:=yA (K0.out.zB HRW);have HR:Hid (r=(decide (xt=yt) || (zDq ⟨xt,xk,xo,xv,xb⟩).dep (zDq ⟨yt,yk,yo,yv,yb⟩) || (zDq ⟨xt,xk,xo,xv,xb⟩).sta yt || (zDq ⟨yt,yk,yo,yv,yb⟩).sta xt)):=HR.out;generalize (zDq ⟨xt,xk,xo,xv,xb⟩)=X at HR ⊢;generalize (zDq ⟨yt,yk,yo,yv,yb⟩)=Y at HR ⊢;obtain ⟨b1,hb1⟩:∃ z,z=X.dep Y:=⟨_,rfl⟩
  obtain ⟨b2,hb2⟩:∃ z,z=X.sta yt:=⟨_,rfl⟩
  obtain ⟨b3,hb3⟩:∃ z,z=Y.sta xt:=⟨_,rfl⟩
  rw [<- hb1,<- hb2,<- hb3] at HR;have HB1:=yA hb1
  have HS:Hid (∀ W v t c,(v=X.val /\ t=yt /\ c=b2) \/ (v=Y.val /\ t=xt /\ c=b3) -> Calls Tryz.prog 71 #[v, .int .i64 t] W fun e w'=>e=.returned (.bool c) /\ Keeps zA W w'):=fun W v t c h=>by
   rcases h with ⟨rfl,rfl,rfl⟩ | ⟨rfl,rfl,rfl⟩
   ·rw [hb2];exact zFn X _ W
   ·rw [hb3];exact zFn Y _ W
  clear hb1 hb2 hb3;by_cases ht:xt=yt
  ·have hb:(xt==yt)=true:=by rw [ht];exact beq_self_eq_true _
   have hr:r=true:=by rw [HR.out];simp [ht]
   have HR:=yA hr;clear HB1 HS ht hr;go_wp2_with fail
   go_ret
   exact ⟨by rw [HR.out];rfl,KW.out⟩
  ·have hb:(xt==yt)=false:=xE ht
   have hd:decide (xt=yt)=false:=xH ht;have hr:=HR.out;rw [hd,Bool.false_or] at hr;have HR:=yA hr;clear hr hd ht;rcases (show b1=true \/ (b1=false /\ b2=true) \/ (b1=false /\ b2=false /\ b3=true) \/ (b1=false /\ b2=false /\ b3=false) by cases b1 <;> cases b2 <;> cases b3 <;> simp) with rfl | ⟨rfl,rfl⟩ | ⟨rfl,rfl,rfl⟩ | ⟨rfl,rfl,rfl⟩ <;> rcases X with d | d | d | d | d | d | d | _
   all_goals (
    simp only [Abt.val];go_wp2_with (first
    | (go_at_call 244;refine (zLX _ Y _).mono ?_;rintro e w5 ⟨rfl,k5⟩;rw [<- HB1.out];have k5':=kw.zB k5)
    | (go_at_call 247;refine (zJ0 _ Y _).mono ?_;rintro e w5 ⟨rfl,k5⟩;rw [<- HB1.out];have k5':=kw.zB k5)
    | (go_at_call 249;refine (zIy _ Y _).mono ?_;rintro e w5 ⟨rfl,k5⟩;rw [<- HB1.out];have k5':=kw.zB k5)
    | (go_at_call 250;refine (zKR _ Y _).mono ?_;rintro e w5 ⟨rfl,k5⟩;rw [<- HB1.out];have k5':=kw.zB k5)
    | (go_at_call 251;refine (zKg _ Y _).mono ?_;rintro e w5 ⟨rfl,k5⟩;rw [<- HB1.out];have k5':=kw.zB k5)
    | (go_at_call 253;refine (zMl _ Y _).mono ?_;rintro e w5 ⟨rfl,k5⟩;rw [<- HB1.out];have k5':=kw.zB k5)
    | (go_at_call 252;refine (zML _ Y _).mono ?_;rintro e w5 ⟨rfl,k5⟩;rw [<- HB1.out];have k5':=kw.zB k5)
    | (go_at_call 254;refine (zLN 0 Y _).mono ?_;rintro e w5 ⟨rfl,k5⟩;rw [<- HB1.out];have k5':=kw.zB k5)
    | (go_at_call 71;refine (HS.out _ _ _ _ (by first | exact .inl ⟨rfl,rfl,rfl⟩ | exact .inr ⟨rfl,rfl,rfl⟩)).mono ?_;first | (rintro e w7 ⟨rfl,k7⟩;have k7':=k6'.zB k7) | (rintro e w6 ⟨rfl,k6⟩;have k6':=k5'.zB k6)))
    all_goals (
     go_ret
     exact ⟨by rw [HR.out];rfl,K0.out.zB (by first | exact k7' | exact k6' | exact k5')⟩))
theorem zFE (x y:Evt) (w:World):Calls Tryz.prog 30 #[evV x,evV y] w fun e w'=>e=.returned (.bool (zKT x y)) /\ Keeps zA w w' :=
 zHQ x.thread x.kind x.obj x.value x.bad y.thread y.kind y.obj y.value y.bad w
theorem zNE {x y:Evt} (h:zKT x y=false):zGQ x y /\ zGQ y x:=by
 unfold zKT at h;simp only [Bool.or_eq_false_iff,decide_eq_false_iff_not] at h;obtain ⟨⟨⟨h1,h2⟩,h3⟩,h4⟩:=h;obtain ⟨xt,xk,xo,xv,xb⟩:=x;obtain ⟨yt,yk,yo,yv,yb⟩:=y;simp only at h1 h2 h3 h4;have HC:∀ k:Int,k=1 \/ k=2 \/ k=3 \/ k=4 \/ k=5 \/ k=6 \/ k=7 \/ k=9 \/ (k ≠ 1 /\ k ≠ 2 /\ k ≠ 3 /\ k ≠ 4 /\ k ≠ 5 /\ k ≠ 6 /\ k ≠ 7 /\ k ≠ 9):=fun k=>by omega
 rcases HC xk with rfl | rfl | rfl | rfl | rfl | rfl | rfl | rfl | ⟨a1,a2,a3,a4,a5,a6,a7,a9⟩ <;> rcases HC yk with rfl | rfl | rfl | rfl | rfl | rfl | rfl | rfl | ⟨b1,b2,b3,b4,b5,b6,b7,b9⟩ <;> simp_all [zDq,Abt.dep,Abt.sta] <;> constructor <;> constructor <;> simp <;> omega
theorem RM.make {w W:World} {T:zT} {F:Nat -> Prop} {id bm:Nat} {u:Un} {p:zA2} {m:zW} {n:Nat} (hT:∀ k x,T k=some x -> k < w.heap.size) (hw:w.heap.size <= W.heap.size)
 (hrow:zC W bm (p.row u.threads.length m.cells.length m.owners.length m.zL.length)) (hm:m.zL=List.replicate n ⟨1,[],[]⟩)
 (hc:W.ownsRow 0 3 1 (.slice p.cad m.cells.length p.ccap) m.cells.length (ints m.cells)) (ho:W.ownsRow 0 3 1 (.slice p.oad m.owners.length p.ocap) m.owners.length (ints m.owners))
 (ht:zC W p.gt (zAP (List.replicate n zCn))) (hb:zBF W F u.threads p.ut) (hF:∀ k,F k -> T k=none /\ k < w.heap.size)
 (l1:w.heap.size <= bm) (l2:w.heap.size <= p.gt) (l3:∀ g,(Value.slice p.cad m.cells.length p.ccap).ownBlock=some g -> w.heap.size <= g /\ g ≠ bm /\ g ≠ p.gt) (l4:∀ g,(Value.slice p.oad m.owners.length p.ocap).ownBlock=some g -> w.heap.size <= g /\ g ≠ bm /\ g ≠ p.gt /\ (Value.slice p.cad m.cells.length p.ccap).ownBlock ≠ some g)
 (l5:bm ≠ p.gt) (l6:bm < W.heap.size) (l7:p.gt < W.heap.size):∃ T',RM W T' F id bm u p m (List.replicate n zCn) /\ zAR T T' id w:=by
 obtain ⟨T',M,hx⟩:=MaP.make (R:=zEu) (sz:=3) (ty:=149) (B:=fun _ _ _ _=>True) (F:=fun _=>False) (T:=T) (id:=id) (u:=u) hT hw hrow hm hc ho ht trivial (fun _ h=>h.elim) l1 l2 l3 l4 l5 l6 l7;refine ⟨T',⟨M.tag,M.row,M.cells,M.owners,⟨M.zL.tag,⟨M.zL.sep.ok,fun k hk=>hx.none (hF k hk).1 (hF k hk).2,fun k hk=>yH (hF k hk).2 hw⟩,M.zL.row,M.zL.len,fun i h t a b=>?_⟩,hb⟩,hx⟩
 obtain ⟨e1,e2,css,q1,q2,q3,q4,_⟩:=M.zL.each i h t a b;rw [hm] at b;obtain ⟨_,rfl⟩:=kM.1 (kR b);exact ⟨e1,e2,css,q1,q2,q3,q4,fun j f cs e=>by simp at e⟩
section
variable {cs:List Int} {mu:Int} {bs:List Bd} {w:World} {F:Nat -> Prop} {uca uta:Option Addr} {ucc utc:Nat}
end
section
variable {w w':World} {T:zT} {F:Nat -> Prop} {id b i:Nat} {u:Un} {p:zA2} {m m':zW} {H:List HTh}
theorem RW.row {cs:List Value} {g:Nat} (h:RW w T F id b u p m w') (r:zC w g cs) (hf:T g=none):zC w' g cs:=by
 obtain ⟨T',H',M,x,q⟩:=h;exact r.keeps q (fun ⟨t,e⟩=>by rw [hf] at e;cases e)
end
section
variable {w w':World} {T:zT} {F:Nat -> Prop} {id b i:Nat} {u:Un} {p:zA2} {m:zW} {H:List HTh}
theorem RW.own {w1 w2:World} {T1:zT} {g:Nat} (hx:zAR T T1 id w) (hq:Keeps (zAf T id) w w1) (h:RW w1 T1 F id b u p m w') (h1:w.heap.size <= g) (h2:g < w1.heap.size) (h3:T1 g=none) (h4:¬ F g) (hw:Keeps (fun q=>q=g) w' w2):RW w T F id b u p m w2:=by
 obtain ⟨T',H',M,e,q⟩:=h;have hg:T' g=none:=e.none h3 h2
 refine ⟨T',H',MaP.keeps zJj zOA M hw (fun q e1 e2=>by
  rw [e2] at e1;rcases e1 with ⟨t,e1⟩ | e1
  ·rw [hg] at e1;cases e1
  ·exact h4 e1),hx.trans e hq.size,?_⟩
 exact (hq.trans q (fun k hlt hs=>hx.own hs hlt)).trans hw (fun k hlt e=>by
  have e':k=g:=e;omega)
end
theorem zOf {cs:List Int} {mu:Int} {bs:List Bd} (hr:newR ⟨cs,mu,bs⟩=0):zCW ⟨cs,mu,bs⟩ (zAk ⟨cs,mu,bs⟩) <= 60:=by
 have h1:zCW ⟨cs,mu,bs⟩ (zAk ⟨cs,mu,bs⟩) <= unS bs:=zIH ⟨cs,mu,bs⟩
 have h2:unS bs <= 60:=by
  have hR:=zCT hr;unfold newR zB7 at hr;rw [hR] at hr;revert hr
  simp only [kD];split
  ·intro e;cases e
  ·intro _;omega
 omega
section
variable {cs:List Int} {mu:Int} {bs:List Bd} {w:World} {F:Nat -> Prop} {uca uta:Option Addr} {ucc utc:Nat}
end
section
variable {cs:List Int} {mu:Int} {bs:List Bd} {w:World} {F:Nat -> Prop} {uca uta:Option Addr} {ucc utc:Nat}
theorem zJ1 (h:zCu w F cs bs uca uta) (ca:Option Addr) (cc:Nat) (ch:List Int) (hx:zo w (.slice ca ch.length cc) ch.length (ints ch)) (i:Int):Calls Tryz.prog 7 #[.agg #[.slice uca cs.length ucc, .int .i64 mu, .slice uta bs.length utc], .slice ca ch.length cc, .int .i64 i] w fun e w'=>e=.returned (.bool true) /\ Keeps zA w w':=by
 by_cases hr:newR ⟨cs,mu,bs⟩=0
 ·have hR:=zCT hr
  have h60:=zOf hr;obtain ⟨l1,l2,_,l4⟩:=zNP hR ch _ 0 (zAk ⟨cs,mu,bs⟩) (zFU hR) (yV _)
  have HWI:Hid (∀ W,Keeps zA w W -> Calls Tryz.prog 29 #[.agg #[.slice uca cs.length ucc, .int .i64 mu, .slice uta bs.length utc]] W fun e w'=>e=.returned (.int .i64 0) /\ Keeps zA W w'):=fun W hk=>by
   have g:=(h.zF hk).zJl (mu:=mu) (ucc:=ucc) (utc:=utc);rwa [hr] at g
  have HWH:∀ W,Keeps zA w W -> Calls Tryz.prog 22 #[.agg #[.slice uca cs.length ucc, .int .i64 mu, .slice uta bs.length utc], .slice ca ch.length cc] W (zNb W (whole ⟨cs,mu,bs⟩ ch)):=fun W hk=>zHe (h.zF hk) ca cc ch (hx.keeps hk (fun _ _ h=>h)) hr
  have HPL:∀ W,Keeps zA w W -> ∀ (sa:Option Addr) (sc:Nat) (ts:List Int),zo W (.slice sa ts.length sc) ts.length (ints ts) -> ts.length <= 1000 -> Calls Tryz.prog 26 #[.agg #[.slice uca cs.length ucc, .int .i64 mu, .slice uta bs.length utc], .slice sa ts.length sc] W (zNU W (plN ⟨cs,mu,bs⟩ (zAk ⟨cs,mu,bs⟩) ts)):=fun W hk sa sc ts hs hl=>zND (h.zF hk) sa sc ts hs hl hr
  obtain ⟨u,hu⟩:∃ u:Un,u=⟨cs,mu,bs⟩:=⟨_,rfl⟩
  rw [<- hu] at HWH HPL hR l1 l2 l4 h60;obtain ⟨es,hes⟩:∃ z,z=(whole u ch).1:=⟨_,rfl⟩
  obtain ⟨m,hm⟩:∃ z,z=(whole u ch).2:=⟨_,rfl⟩
  have l1:es.length <= 60:=by rw [hes];exact yX l1 h60
  have l2:m.ok u:=by rw [hm];exact l2
  have l4:plN u (zAk u) (es.map Evt.thread)=(dnS es,m):=by rw [hes,hm];exact l4
  have HSM:=yA (zW.ok.small hR l2)
  have HWE:Hid (∀ W,Keeps zA w W -> Calls Tryz.prog 22 #[.agg #[.slice uca cs.length ucc, .int .i64 mu, .slice uta bs.length utc], .slice ca ch.length cc] W fun e w'=>∃ oa oc a1 an1 aq1 a2 an2 aq2 a3 an3 aq3 a4 an4 aq4,e=.returned (.tuple #[.slice oa es.length oc, .agg #[.slice a1 an1 aq1, .slice a2 an2 aq2, .slice a3 an3 aq3, .slice a4 an4 aq4], .int .i64 0]) /\ zAG w' W.heap.size (.slice oa es.length oc) es.length (es.flatMap evC) /\ zBf w' (.slice a1 an1 aq1) (.slice a2 an2 aq2) (.slice a3 an3 aq3) (.slice a4 an4 aq4) m.cells m.owners (zDI m m.zL.length) (zDJ m m.zL.length) /\ Keeps zA W w'):=fun W hk=>(HWH W hk).mono fun e w' q=>by
   obtain ⟨oa,oc,a1,q1,a2,q2,a3,q3,a4,q4,he,hf,ho⟩:=q;rw [<- hes,<- hm] at he;rw [<- hes] at hf;rw [<- hm] at ho;exact ⟨oa,oc,a1,_,q1,a2,_,q2,a3,_,q3,a4,_,q4,he,hf,ho.src,ho.keeps⟩
  by_cases hfar:i < 0 \/ (es.length:Int) - 1 <= i
  ·exact zKD ca _ cc es.length es m i hfar l1 HWI HWE
  ·obtain ⟨k,rfl⟩:∃ k:Nat,i=k:=⟨i.toNat,by omega⟩
   have hk:k+1 < es.length:=by omega
   rcases hxx:es[k]'(by omega) with ⟨xt,xk,xo,xv,xb⟩;rcases hyy:es[k+1] with ⟨yt,yk,yo,yv,yb⟩
   have hsp:es=es.take k++⟨xt,xk,xo,xv,xb⟩ :: ⟨yt,yk,yo,yv,yb⟩ :: es.drop (k+2):=by
    rw [<- hxx,<- hyy,List.getElem_cons_drop,List.getElem_cons_drop,List.take_append_drop]
   have HH:Hid (es=es.take k++⟨xt,xk,xo,xv,xb⟩ :: ⟨yt,yk,yo,yv,yb⟩ :: es.drop (k+2) /\ k=(es.take k).length /\ es.length=es.length /\ k+1 < es.length):=⟨hsp,by rw [uB];omega,rfl,hk⟩;cases hd:zKT ⟨xt,xk,xo,xv,xb⟩ ⟨yt,yk,yo,yv,yb⟩ with
   | true =>
     exact zKl ca _ cc es.length k es _ _ m xt xk xo xv xb yt yk yo yv yb HH l1 (yA fun W=>by exact J217 _) HWI HWE
   | false =>
     obtain ⟨d1,d2⟩:=zNE hd;have hsw:=zL8 hR (zFU hR) (m:=zAk u) (mf:=m) (pre:=es.take k) (post:=es.drop (k+2)) (by rw [<- hsp];exact l4) d1 d2;obtain ⟨sw,hs⟩:∃ z,z=es.take k++⟨yt,yk,yo,yv,yb⟩ :: ⟨xt,xk,xo,xv,xb⟩ :: es.drop (k+2):=⟨_,rfl⟩
     have hln:es.length=sw.length:=by rw [hs,xI,uB,xT,xT,List.length_drop];omega
     refine zJ5 ca _ cc es.length k es (es.take k) (es.drop (k+2)) m xt xk xo xv xb yt yk yo yv yb HH l1 (yA fun W=>by exact J217 _) HWI HWE HSM (yA fun W hk sa sc hss=>?_) (yA fun W v hv=>?_)
     ·rw [<- hs] at hss hsw ⊢
      have hml:es.length=(sw.map Evt.thread).length:=by rw [uC];exact hln
      have h60':(sw.map Evt.thread).length <= 1000:=by rw [<- hml];omega
      have hdl:(dnS sw).length=(sw.map Evt.thread).length:=by unfold dnS;rw [uC,uC]
      rw [hml] at hss ⊢;refine (HPL W hk sa sc _ hss h60').mono fun e w' q=>?_
      rw [hsw] at q;obtain ⟨oa,oc,a1,q1,a2,q2,a3,q3,a4,q4,he,hf,ho⟩:=q;have he:e=.returned (.tuple #[.slice oa (dnS sw).length oc, .agg #[.slice a1 m.cells.length q1, .slice a2 m.owners.length q2, .slice a3 m.zL.length q3, .slice a4 m.zL.length q4], .int .i64 0]):=he;have hf:zAG w' W.heap.size (.slice oa (dnS sw).length oc) (dnS sw).length ((dnS sw).flatMap stC):=hf;rw [hdl] at he hf;exact ⟨oa,oc,a1,_,q1,a2,_,q2,a3,_,q3,a4,_,q4,he,hf,ho.src,ho.keeps⟩
     ·rw [<- hs] at hv ⊢
      have hdl:(dnS sw).length=es.length:=by unfold dnS;rw [uC];exact hln.symm
      rw [<- hdl] at hv;refine (zLw W v (dnS sw) hv (by rw [hdl];omega)).mono fun e w' q=>?_
      obtain ⟨oa,oc,he,hf,hk⟩:=q;rw [(zFj sw).1,(zFj sw).2] at he;rw [(zFj sw).1] at hf;rw [<- hln] at he hf;exact ⟨oa,oc,he,hf,hk⟩
 ·exact zK1 h _ i hr
end
end Go.Proofs.YtfjgcedkfnmdkaaGreatDoor
