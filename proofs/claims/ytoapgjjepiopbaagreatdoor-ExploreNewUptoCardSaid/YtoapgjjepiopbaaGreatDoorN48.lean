/- Layer N: texts joined. -/
import Derived.Test.YtoapgjjepiopbaaGreatDoorN47
import Derived.Test.YtoapgjjepiopbaaGreatDoorN46
set_option linter.all false
set_option maxHeartbeats 8000000
set_option maxRecDepth 8000
namespace Go.Proofs.YtoapgjjepiopbaaGreatDoor
open Go.RowKit
theorem J46 (P:Prop) (h:P:=by try clear hd;go_wp2_with (fail);first | exact hK _ _ (Keeps.refl _ _) rfl):P:=h
theorem J63 (P:Prop) (h:P:=by
 go_wp2_with fail
 refine wp_loop_rounds 1 ?_
 rw [rounds_succ];go_wp2_with fail
 go_returns
 exact ⟨rfl,rfl⟩):P:=h
theorem zU.rows {α:Type} {C:α -> List Value} {sz:Nat} (hC:∀ x,(C x).length=sz) {w:World} {v:Value} {L:List α} (h:zU w v L.length (L.flatMap C)):∃ ad cap,v=.slice ad L.length cap /\ ∀ k x,L[k]?=some x -> ∃ g o,ad=some ⟨g,o,none⟩ /\ ∀ j u,(C x)[j]?=some u -> w.cell? ⟨g,o+k*sz+j,none⟩=some u:=by
 obtain ⟨ad,cap,e,h1⟩:=h;refine ⟨ad,cap,e,fun k x hk=>?_⟩
 obtain ⟨g,o,e1,h2⟩:=h1 (by have:=(List.getElem?_eq_some_iff.1 hk).1;omega);refine ⟨g,o,e1,fun j u hj=>?_⟩
 have hl:j < sz:=by rw [<- hC x];exact (List.getElem?_eq_some_iff.1 hj).1
 have:=h2 (k*sz+j) u (by rw [zAu C sz hC L k j hl,hk];exact hj)
 rwa [<- Nat.add_assoc] at this
end Go.Proofs.YtoapgjjepiopbaaGreatDoor
namespace Go.Proofs.YtoapgjjepiopbaaGreatDoor
abbrev LgS:=List (Int × Int) × List Int
def zJj (n:Nat) (S:LgS) (x:Evt):LgS:=zLe n S.1 S.2 x.thread x.kind x.obj x.bad
def zCj:Nat -> List Evt -> LgS -> LgS
 | _,[],S=>S
 | n,x :: r,S=>zCj (n+1) r (zJj n S x)
def OkL:Nat -> List Evt -> LgS -> Prop
 | _,[],_=>True
 | n,x :: r,S=>zG7 S.1 S.2 x /\ OkL (n+1) r (zJj n S x)
theorem zLo:∀ (l:List Evt) (n:Nat) (S:LgS),OkL n l S -> ∀ k x,l[k]?=some x -> zG7 (zCj n (l.take k) S).1 (zCj n (l.take k) S).2 x /\ zCj n (l.take (k+1)) S=zJj (n+k) (zCj n (l.take k) S) x
 | [],n,S,h,k,x,e=>by simp at e
 | y :: l,n,S,h,0,x,e=>by
   obtain rfl:y=x:=by simpa using e
   exact ⟨h.1,rfl⟩
 | y :: l,n,S,h,k+1,x,e=>by
   have:=zLo l (n+1) _ h.2 k x (by simpa using e)
   simp only [List.take_succ_cons,zCj];rw [show n+(k+1)=n+1+k by omega];exact this
end Go.Proofs.YtoapgjjepiopbaaGreatDoor
namespace Go.Proofs.YtoapgjjepiopbaaGreatDoor
open Go.RowKit
theorem zL8 {B b n:Nat} {w:World} {S:LgS} (h:zBI B w b n S.1 S.2) {x:Evt} (hx:zG7 S.1 S.2 x) (hn:n <= 1000):Calls Tryz.prog 235 #[.pointer (some ⟨b,0,none⟩),evV x] w fun e w'=>e=.returned (.int .i64 0) /\ zBI B w' b (n+1) (zJj n S x).1 (zJj n S x).2 /\ Keeps (fun q=>B <= q) w w':=by
 obtain ⟨xt,xk,xo,xv,xb⟩:=x;have h1:=hx.ok.1.1;have h2:=hx.ok.2.1.1;simp only at h1 h2;obtain ⟨t,rfl⟩:∃ t:Nat,xt=t:=⟨xt.toNat,by omega⟩
 obtain ⟨o,rfl⟩:∃ o:Nat,xo=o:=⟨xo.toNat,by omega⟩
 exact zMq h t o xk xv xb hx hn
theorem zGI (w:World) (v:Value) (L:List Evt) (h:zU w v L.length (L.flatMap evC)) (hm:L.length <= 1000) (hok:OkL 0 L (T0,O0)) :
 Calls Tryz.prog 198 #[v] w fun e w'=>∃ b,e=.returned (.tuple #[.pointer (some ⟨b,0,none⟩), .int .i64 0, .int .i64 0]) /\ zBI w.heap.size w' b L.length (zCj 0 L (T0,O0)).1 (zCj 0 L (T0,O0)).2 /\ Keeps zA w w':=by
 obtain ⟨B,hB⟩:=eX w.heap.size
 have H1:Hid (∀ W,Keeps (fun q=>B <= q) w W -> ∀ k x,L[k]?=some x -> ∃ g o,v=.slice (some ⟨g,o,none⟩) L.length (match v with | .slice _ _ c=>c | _=>0) /\ ∀ j u,(evC x)[j]?=some u -> W.cell? ⟨g,o+k*5+j,none⟩=some u):=fun W hk k x hx=>by
  obtain ⟨ad,cap,e,f⟩:=(h.up hk (by rw [hB];exact Nat.le_refl _) (fun e=>by rw [zAC _ 5 zIq] at e;omega):zU W v L.length (L.flatMap evC)).rows zIq;obtain ⟨g,o,rfl,f2⟩:=f k x hx;subst e;exact ⟨g,o,rfl,f2⟩
 have H2:Hid (∀ k x,L[k]?=some x -> zG7 (zCj 0 (L.take k) (T0,O0)).1 (zCj 0 (L.take k) (T0,O0)).2 x /\ zCj 0 (L.take (k+1)) (T0,O0)=zJj k (zCj 0 (L.take k) (T0,O0)) x):=fun k x hx=>by
  have:=zLo L 0 (T0,O0) hok k x hx
  rwa [Nat.zero_add] at this
 obtain ⟨ad,cap,rfl,_⟩:=h;obtain ⟨n,hn⟩:=eX L.length;have HN:=Lib.hid hn;have HBB:=Lib.hid hB;have HN0:=Lib.hid (zH9 w);rw [<- hn] at hm H1 ⊢;rw [<- hB] at HN0 ⊢;clear hok hn hB;go_enter Tryz.func198,Tryz.ntmps198
 go_wp2_with (go_at_call 234;refine HN0.out.mono ?_;rintro e w1 ⟨b,rfl,hl,hk⟩;have HL1:=Lib.hid hl;have HK1:Hid (Keeps (fun q=>B <= q) w w1):=hk.mono (fun _ _ h=>h.elim);clear hl hk)
 clear HN0;go_loopw [12] (fun iv wr=>∃ i:Nat,i <= n /\ iv=.int .i64 i /\ Hid (zBI B wr b i (zCj 0 (L.take i) (T0,O0)).1 (zCj 0 (L.take i) (T0,O0)).2 /\ Keeps (fun q=>B <= q) w wr)) (fun iv _=>n - (intOf iv).toNat)
 case atStart=>exact ⟨0,Nat.zero_le _,rfl,HL1.out,HK1.out⟩
 case round =>
  obtain ⟨i,hi,rfl,HI⟩:=hrel;clear HL1 HK1;by_cases hlt:i < n
  ·obtain ⟨x,hx⟩:∃ x,L[i]?=some x:=⟨_,List.getElem?_eq_getElem (by rw [<- HN.out];exact hlt)⟩
   obtain ⟨g,o,e,d⟩:=H1.out wr HI.out.2 i x hx;simp only [Value.slice.injEq,true_and,and_true] at e;subst e;obtain ⟨p1,p2⟩:=H2.out i x hx;have HAD:=Lib.hid (fun (W:World) (q:Keeps zA wr W)=>zL8 (HI.out.1.keeps q (fun _ _ h=>h)) p1 (by omega));have HP2:=Lib.hid p2;have HKK:=Lib.hid HI.out.2;obtain ⟨xt,xk,xo,xv,xb⟩:=x;have d0:wr.cell? ⟨g,o+i*5,none⟩=some (.int .i64 xt):=d 0 _ rfl;have d1:wr.cell? ⟨g,o+i*5+1,none⟩=some (.int .i64 xk):=d 1 _ rfl;have d2:wr.cell? ⟨g,o+i*5+2,none⟩=some (.int .i64 xo):=d 2 _ rfl;have d3:wr.cell? ⟨g,o+i*5+3,none⟩=some (.int .i64 xv):=d 3 _ rfl;have d4:wr.cell? ⟨g,o+i*5+4,none⟩=some (.int .i64 xb):=d 4 _ rfl;have i1:(0:Int) <= i:=by omega
   have i2:(i:Int) < n:=by omega
   clear d hx p1 p2 HI hi;go_upto_region 5 with fail
   obtain ⟨b7,w2,x1,x2,R2,K2,_⟩:=newRow wr [.int .i64 xt, .int .i64 xk, .int .i64 xo, .int .i64 xv, .int .i64 xb] 67;try rw [x1]
   try rw [x2]
   have y2:=R2.five;have HK2:=Lib.hid K2;have k2:=zH w2;clear x1 x2 R2 d0 d1 d2 d3 d4;go_wp2_with (go_at_call 235;refine (HAD.out _ HK2.out).mono ?_;rintro e w5 ⟨rfl,hl,k5⟩;have HL:=Lib.hid hl;have HK5:=Lib.hid k5;clear hl k5)
   exact ⟨⟨i+1,by omega,by go_num,by rw [HP2.out];exact HL.out,(HKK.out.trans K2 (fun _ _ h=>h.elim)).trans HK5.out (fun _ _ h=>h)⟩,by simp [intOf];omega⟩
  ·have hin:i=n:=by omega
   subst hin;have htk:L.take i=L:=by rw [HN.out];exact List.take_length
   rw [htk] at HI;clear hlt hi;go_wp2_with fail
   refine bodyPost_ret (v:=.tuple #[.pointer (some ⟨b,0,none⟩), .int .i64 0, .int .i64 0]) (by simp [results,Tryz.results198,go_sem]) rfl ?_
   exact ⟨b,rfl,HI.out.1,HI.out.2.mono (fun q hq e=>by have e':B <= q:=e;have:=HBB.out;omega)⟩
def ev0:Evt:=⟨0,9,0,0,0⟩
theorem zLr:OkL 0 [ev0] (T0,O0) :=
 ⟨⟨by simp [okE,ev0],rfl,fun h=>by simp [ev0] at h,fun h=>by simp [ev0] at h,fun _=>by simp [ev0,zHO]⟩,trivial⟩
theorem zMo:(Tryz.prog.info? 314).map (fun i=>(i.zero,i.size,i.bytes))=some (some (.agg #[.int .i64 0, .int .i64 0, .int .i64 0, .int .i64 0, .int .i64 0, .int .i64 0, .int .i64 0, .int .i64 0, .int .i64 0, .int .i64 0, .int .i64 0, .int .i64 0, .int .i64 0, .int .i64 0, .int .i64 0, .int .i64 0, .int .i64 0, .int .i64 0, .int .i64 0]),19,152):=by kernel_rfl
def zDR:List Value:=[.int .i64 0, .int .i64 1, .int .i64 1, .int .i64 0, .int .i64 0, .int .i64 0, .int .i64 0, .int .i64 0, .int .i64 0, .int .i64 0, .int .i64 1, .int .i64 0, .int .i64 0, .int .i64 0, .int .i64 0, .int .i64 0, .int .i64 0, .int .i64 0, .int .i64 (-1)]
theorem zJT:Tryz.prog.builtSlice 314 1 [(0, .agg zDR.toArray)]=some zDR.toArray:=by kernel_rfl
theorem zD4 (w:World) (la:Option Addr) (lc:Nat) (h:zU w (.slice la 1 lc) 1 (evC ev0)) (hlc:1 <= lc) :
 Calls Tryz.prog 166 #[.slice la 1 lc] w fun e w'=>∃ bo go oc,e=.returned (.tuple #[.pointer (some ⟨bo,0,none⟩), .int .i64 0]) /\ zC w' bo [.slice (some ⟨go,0,none⟩) 1 oc] /\ zC w' go zDR /\ Keeps zA w w':=by
 have HEV:Hid (Calls Tryz.prog 198 #[.slice la 1 lc] w fun e w'=>(∃ b,e=.returned (.tuple #[.pointer (some ⟨b,0,none⟩), .int .i64 0, .int .i64 0])) /\ Keeps zA w w'):=(zGI w (.slice la 1 lc) [ev0] (by simpa using h) (by simp) zLr).mono fun e w' ⟨b,e1,_,hk⟩=>⟨⟨b,e1⟩,hk⟩
 obtain ⟨ad,cap,e,hs⟩:=h;cases e;obtain ⟨g,o,rfl,hc⟩:=hs (by decide)
 have HC:Hid (w.cell? ⟨g,o,none⟩=some (.int .i64 0) /\ w.cell? ⟨g,o+1,none⟩=some (.int .i64 9) /\ w.cell? ⟨g,o+2,none⟩=some (.int .i64 0) /\ w.cell? ⟨g,o+3,none⟩=some (.int .i64 0) /\ w.cell? ⟨g,o+4,none⟩=some (.int .i64 0)):=by
  have h0:=hc 0 (.int .i64 0) (by simp [evC,ev0]);rw [Nat.add_zero] at h0;exact ⟨h0,hc 1 (.int .i64 9) (by simp [evC,ev0]),hc 2 (.int .i64 0) (by simp [evC,ev0]),hc 3 (.int .i64 0) (by simp [evC,ev0]),hc 4 (.int .i64 0) (by simp [evC,ev0])⟩
 obtain ⟨j0,hj0,hy0,hy1,hy2⟩:=info_parts zMo;obtain ⟨Q,hQ⟩:=eX (α:=Ending -> World -> Prop) (fun e w'=>∃ bo go oc,e=.returned (.tuple #[.pointer (some ⟨bo,0,none⟩), .int .i64 0]) /\ zC w' bo [.slice (some ⟨go,0,none⟩) 1 oc] /\ zC w' go zDR /\ Keeps zA w w');rw [<- hQ];have HQ:=Lib.hid hQ;clear hs hc hQ;go_enter Tryz.func166,Tryz.ntmps166
 go_upto_region 6 with (go_at_call 198;refine HEV.out.mono ?_;rintro e w1 ⟨⟨bl,rfl⟩,k1⟩;have HK1:=Lib.hid k1;clear k1)
 go_upto_region 7 with fail
 obtain ⟨bo,w2,e1,e2,R2,K2,_⟩:=newRow w1 [.slice none 0 0] 310;try rw [e1]
 try rw [e2]
 have HR2:=Lib.hid R2;have HK2:Hid (Keeps zA w w2):=HK1.out.zB K2;have HB2:Hid (w.heap.size <= bo):=by have:=HK1.out.size;show _ <= _;omega
 clear e1 e2 R2 K2 HEV;go_wp2_with fail
 go_loopw [29] (fun iv wr=>∃ k:Nat,k <= 1 /\ iv=.int .i64 k /\ Hid ((k=0 -> zC wr bo [.slice none 0 0]) /\ (k=1 -> ∃ go oc,zC wr bo [.slice (some ⟨go,0,none⟩) 1 oc] /\ zC wr go zDR)) /\ Hid (Keeps zA w wr)) (fun iv _=>1 - (intOf iv).toNat)
 case atStart=>exact ⟨0,Nat.zero_le _,rfl,⟨fun _=>HR2.out,fun h=>absurd h (by decide)⟩,HK2.out⟩
 case round =>
  obtain ⟨k,hk,rfl,HP,HK⟩:=hrel;obtain ⟨wq,rfl⟩:=eX wr;rcases (show k=0 \/ k=1 by omega) with rfl | rfl
  ·have d:∀ W,Keeps zA wq W -> W.cell? ⟨g,o,none⟩=some (.int .i64 0) /\ W.cell? ⟨g,o+1,none⟩=some (.int .i64 9) /\ W.cell? ⟨g,o+2,none⟩=some (.int .i64 0) /\ W.cell? ⟨g,o+3,none⟩=some (.int .i64 0) /\ W.cell? ⟨g,o+4,none⟩=some (.int .i64 0):=fun W q=>by
    have hk:=HK.out.zB q;obtain ⟨c0,c1,c2,c3,c4⟩:=HC.out;exact ⟨hk.cell (fun h=>h) c0,hk.cell (fun h=>h) c1,hk.cell (fun h=>h) c2,hk.cell (fun h=>h) c3,hk.cell (fun h=>h) c4⟩
   have kr:=zH wq;go_upto_region 10 with fail
   obtain ⟨b9,w3,e1,e2,R3,K3,_⟩:=newRow wq [.int .i64 0, .int .i64 9, .int .i64 0, .int .i64 0, .int .i64 0] 67;try rw [e1]
   try rw [e2]
   have y3:=R3.five;have k3:=zH w3;have HK3:=Lib.hid K3;have HR3:=Lib.hid R3;clear e1 e2 R3 K3 d kr;iterate 7 go_step
   refine wpList_buildTo rfl _ _ rfl _ rfl ([.int .i64 0, .int .i64 1, .int .i64 0, .int .i64 0, .int .i64 0, .int .i64 0, .int .i64 0, .int .i64 0, .int .i64 0, .int .i64 0, .int .i64 0, .int .i64 0, .int .i64 0, .int .i64 0, .int .i64 0, .int .i64 0, .int .i64 0, .int .i64 0, .int .i64 (-1)]:List Value).toArray (by kernel_rfl) ?_
   refine Great.wpList_allocTo rfl _ rfl (.pointer (some ⟨w3.heap.size,0,none⟩)) (.cells (List.replicate 19 (.int .i64 0)).toArray 314) (by kernel_rfl) ?_
   refine wpList_store_rowTo rfl _ _ _ rfl rfl w3.heap.size ([.int .i64 0, .int .i64 1, .int .i64 0, .int .i64 0, .int .i64 0, .int .i64 0, .int .i64 0, .int .i64 0, .int .i64 0, .int .i64 0, .int .i64 0, .int .i64 0, .int .i64 0, .int .i64 0, .int .i64 0, .int .i64 0, .int .i64 0, .int .i64 0, .int .i64 (-1)]:List Value).toArray (by kernel_rfl) (by kernel_rfl) 314 (List.replicate 19 (.int .i64 0)).toArray (heap_alloc_last w3 _) (by kernel_rfl) (by kernel_rfl) (by kernel_rfl) ?_
   rw [World.setRow_alloc_new];obtain ⟨bm,w4,e1,e2,R4,K4,_⟩:=newRow w3 [.int .i64 0, .int .i64 1, .int .i64 0, .int .i64 0, .int .i64 0, .int .i64 0, .int .i64 0, .int .i64 0, .int .i64 0, .int .i64 0, .int .i64 0, .int .i64 0, .int .i64 0, .int .i64 0, .int .i64 0, .int .i64 0, .int .i64 0, .int .i64 0, .int .i64 (-1)] 314;rw [e1,e2];have HR4:=Lib.hid R4;have HK4:=Lib.hid K4;have HB4:Hid (bm=w3.heap.size):=e1.symm;have y3:=(HR3.out.keeps K4 (fun h=>h)).five;have k4:=zH w4;clear e1 e2 R4 K4 k3;go_upto_region 12 with fail
   go_loopw [41] (fun iv w'=>iv=.int .i64 0 /\ w'=w4) (fun _ _=>0)
   case atStart=>exact ⟨rfl,rfl⟩
   case round =>
    obtain ⟨rfl,hw⟩:=hrel;subst hw;go_upto_region 21 with fail
    have z1:=HR4.out.cell (k:=1) rfl;have z2:=HR4.out.cell (k:=2) rfl;have z10:=HR4.out.cell (k:=10) rfl;have f2:=HR4.out.free (k:=2) (by decide);have f10:=HR4.out.free (k:=10) (by decide);have y30:=y3 _ (Keeps.refl zA _);go_region
    have r5:zC ((wr.setCell ⟨bm,2,none⟩ (.int .i64 1)).setCell ⟨bm,10,none⟩ (.int .i64 1)) bm zDR:=(HR4.out.set 2 (by decide) _).set 10 (by decide) _;have k5:Keeps (fun q=>q=bm) wr ((wr.setCell ⟨bm,2,none⟩ (.int .i64 1)).setCell ⟨bm,10,none⟩ (.int .i64 1)):=((Keeps.refl (fun q=>q=bm) wr).setCell (p:=⟨bm,2,none⟩) (fun _=>rfl) _).setCell (p:=⟨bm,10,none⟩) (fun _=>rfl) _;have k5':=k5.drew;have r5':=r5.keeps ((Keeps.refl zA _).drew) (fun h=>h);generalize ((wr.setCell ⟨bm,2,none⟩ (.int .i64 1)).setCell ⟨bm,10,none⟩ (.int .i64 1)).drew=w5 at k5' r5' ⊢;clear r5 k5;have HK5:=Lib.hid k5';have HR5:=Lib.hid r5';have HKR5:Hid (Keeps zA wq w5):=(HK3.out.zB HK4.out).trans k5' (fun q hq e=>by have e':q=bm:=e;have:=HB4.out;have:=HK3.out.size;omega);have HBO:Hid (zC w5 bo [.slice none 0 0]):=(HP.out.1 (by first | rfl | trivial)).keeps HKR5.out (fun h=>h)
    have ym:∀ W,Keeps zA w5 W -> W.cell? ⟨bm,0,none⟩=some (.int .i64 0) /\ W.cell? ⟨bm,1,none⟩=some (.int .i64 1) /\ W.cell? ⟨bm,2,none⟩=some (.int .i64 1) /\ W.cell? ⟨bm,3,none⟩=some (.int .i64 0) /\ W.cell? ⟨bm,4,none⟩=some (.int .i64 0) /\ W.cell? ⟨bm,5,none⟩=some (.int .i64 0) /\ W.cell? ⟨bm,6,none⟩=some (.int .i64 0) /\ W.cell? ⟨bm,7,none⟩=some (.int .i64 0) /\ W.cell? ⟨bm,8,none⟩=some (.int .i64 0) /\ W.cell? ⟨bm,9,none⟩=some (.int .i64 0) /\ W.cell? ⟨bm,10,none⟩=some (.int .i64 1) /\ W.cell? ⟨bm,11,none⟩=some (.int .i64 0) /\ W.cell? ⟨bm,12,none⟩=some (.int .i64 0) /\ W.cell? ⟨bm,13,none⟩=some (.int .i64 0) /\ W.cell? ⟨bm,14,none⟩=some (.int .i64 0) /\ W.cell? ⟨bm,15,none⟩=some (.int .i64 0) /\ W.cell? ⟨bm,16,none⟩=some (.int .i64 0) /\ W.cell? ⟨bm,17,none⟩=some (.int .i64 0) /\ W.cell? ⟨bm,18,none⟩=some (.int .i64 (-1)):=fun W q=>by
     have r:=HR5.out.keeps q (fun h=>h);exact ⟨r.cell (k:=0) rfl,r.cell (k:=1) rfl,r.cell (k:=2) rfl,r.cell (k:=3) rfl,r.cell (k:=4) rfl,r.cell (k:=5) rfl,r.cell (k:=6) rfl,r.cell (k:=7) rfl,r.cell (k:=8) rfl,r.cell (k:=9) rfl,r.cell (k:=10) rfl,r.cell (k:=11) rfl,r.cell (k:=12) rfl,r.cell (k:=13) rfl,r.cell (k:=14) rfl,r.cell (k:=15) rfl,r.cell (k:=16) rfl,r.cell (k:=17) rfl,r.cell (k:=18) rfl⟩
    have yo:=HBO.out.all1;have kr5:=zH w5;clear k5' r5' z1 z2 z10 f2 f10 y30 y3 k4;go_upto_region 22 with fail
    refine zCG 7 0 (by kernel_rfl) [some (.pointer (some ⟨bo,0,none⟩)),some (.pointer (some ⟨bo,0,none⟩)),some (.pointer (some ⟨bo,0,none⟩)),some (.pointer (some ⟨bo,0,none⟩)),some (.slice none 0 0),some (.agg #[.int .i64 0, .int .i64 1, .int .i64 1, .int .i64 0, .int .i64 0, .int .i64 0, .int .i64 0, .int .i64 0, .int .i64 0, .int .i64 0, .int .i64 1, .int .i64 0, .int .i64 0, .int .i64 0, .int .i64 0, .int .i64 0, .int .i64 0, .int .i64 0, .int .i64 (-1)]),none] rfl (fun j v W=>∃ g,v=.slice (some ⟨g,0,none⟩) 1 1 /\ zC W g zDR) (fun j v W W' h hk=>by exact J165 _) _ rfl (fun _ _ _ _ h=>h) _ rfl (fun _ _ _=>by exact J156 _) ?_ ?_
    ·refine ⟨?_,?_,?_,?_,?_,?_,?_,trivial⟩ <;> (intro vs gs W Q' hR hd hK;have HRW:Keeps zA w5 W:=((zH w5).drew).zB hR;simp only [zA1,zAg,zBQ,zJ,tz,Option.bind,Act.put] at hd hK ⊢;try simp only [hd] at hK ⊢)
     ·exact J46 _
     ·exact J46 _
     ·exact J46 _
     ·exact J46 _
     ·exact J46 _
     rotate_left
     rotate_left
     ·clear hd
      refine wpList_load_mid (by rfl) _ _ (by rfl) bm 0 (by rfl) zDR _ (HR5.out.keeps HRW (fun h=>h)).rng Tryz.underlying314 rfl (by kernel_rfl) ?_
      exact hK _ _ (Keeps.refl _ _) rfl
     ·clear hd
      refine Great.wpList_buildSliceTo (by rfl) _ 314 1 _ (by rfl) W.heap.size rfl _ (by rfl) Tryz.underlying308 zDR.toArray (by simp only [List.map_toArray,List.map_cons,List.map_nil];exact zJT) ?_
      exact hK _ _ ((Keeps.refl zA W).alloc (.cells zDR.toArray 314)) (by show ∃ g,_;exact ⟨_,rfl,zC.zG (heap_alloc_new W _)⟩)
    ·intro vs W hR hFF
     have HRW:Keeps zA w5 W:=((zH w5).drew).zB hR;obtain ⟨g2,e6,rg'⟩:=(hFF 6 (by decide):∃ g,vs 6=.slice (some ⟨g,0,none⟩) 1 1 /\ zC W g zDR);have e0:vs 0=_:=hFF 0 (by decide);have e4:vs 4=_:=hFF 4 (by decide);simp only [zJ,tz,Option.bind,Act.put];rw [e0,e4,e6];have HRG:=Lib.hid rg';have HKW:=Lib.hid HRW;have HBW:=Lib.hid (HBO.out.keeps HRW (fun h=>h));clear hFF e0 e4 e6 rg' hR HRW ym yo kr5;go_upto_region 23 with (at_builtin;refine zI _ (by rfl) _ _ 308 (by rfl) 0 314 j0 _ 19 152 Tryz.underlying308 hj0 hy0 hy1 hy2 rfl (by decide) (.slice none 0 0) 0 [] (by rfl) (World.ownsRow_nil _ _ _ _) (.slice (some ⟨g2,0,none⟩) 1 1) 1 zDR (by rfl) (zC.src HRG.out) (by rfl) (by simp [zDR,Value.oneCell']) (by unfold maxLen;omega) (by omega) (Nat.zero_le _) ?_;intro ad8 cap8 w8 hout;have HO8:=Lib.hid hout;have zr:=HBW.out.keeps (zi.keeps hout (Keeps.refl (fun q=>False) _) (fun q e _=>by exact J152 _)) (fun h=>h);have zc:=zr.cell (k:=0) rfl;have zf:=zr.free (k:=0) (by simp);have HZR:=Lib.hid zr;clear hout zr)
     have hrow:=HZR.out.set 0 (by simp) (.slice ad8 1 cap8);have kS:Keeps (fun q=>q=bo) w8 (w8.setCell ⟨bo,0,none⟩ (.slice ad8 1 cap8)):=(Keeps.refl (fun q=>q=bo) w8).setCell (p:=⟨bo,0,none⟩) (fun _=>rfl) _;have hrow:zC (w8.setCell ⟨bo,0,none⟩ (.slice ad8 1 cap8)) bo [.slice ad8 1 cap8]:=hrow;have ho8:=HO8.out;rw [Nat.zero_add,List.nil_append] at ho8;obtain ⟨go,c8,ee,_⟩:=ho8.1.form (by decide);simp only [Value.slice.injEq,true_and] at ee;obtain ⟨rfl,rfl⟩:=ee;have hgo:=ho8.2.2 go rfl;have hlo:bo < W.heap.size:=HBW.out.lt (by simp)
     have hgr:zC (w8.setCell ⟨bo,0,none⟩ (.slice (some ⟨go,0,none⟩) 1 cap8)) go zDR:=(zC.zAM ho8.1).keeps kS (fun e=>by
      have e':go=bo:=e;rcases hgo with h | h
      ·exact J66 _
      ·omega)
     have hkk:Keeps zA w (w8.setCell ⟨bo,0,none⟩ (.slice (some ⟨go,0,none⟩) 1 cap8)):=((HK.out.zB HKR5.out).zB (ho8.keeps HKW.out (fun q e _=>by exact J152 _))).trans kS (fun q hq e=>by have e':q=bo:=e;have:=HB2.out;omega);generalize w8.setCell ⟨bo,0,none⟩ (.slice (some ⟨go,0,none⟩) 1 cap8)=w9 at hrow hgr hkk ⊢;have HFIN:Hid (zC w9 bo [.slice (some ⟨go,0,none⟩) 1 cap8] /\ zC w9 go zDR /\ Keeps zA w w9):=⟨hrow,hgr,hkk⟩;clear hrow hgr hkk kS zc zf ho8 hgo hlo;go_wp2_with fail
     exact ⟨⟨1,by decide,rfl,⟨fun h=>absurd h (by decide),fun _=>⟨go,cap8,HFIN.out.1,HFIN.out.2.1⟩⟩,HFIN.out.2.2⟩,by simp [intOf]⟩
  ·obtain ⟨go,oc,h1,h2⟩:=HP.out.2 rfl
   have HF:Hid (zC wq bo [.slice (some ⟨go,0,none⟩) 1 oc] /\ zC wq go zDR):=⟨h1,h2⟩;clear h1 h2;go_wp2_with fail
   rw [HQ.out];exact ⟨bo,go,oc,rfl,HF.out.1,HF.out.2,HK.out⟩
theorem zDL {w:World} {la:Option Addr} {lc:Nat} (h:zU w (.slice la 1 lc) 1 (evC ev0)):∃ g o,la=some ⟨g,o,none⟩ /\ ∀ W,Keeps zA w W -> W.cell? ⟨g,o,none⟩=some (.int .i64 0) /\ W.cell? ⟨g,o+1,none⟩=some (.int .i64 9) /\ W.cell? ⟨g,o+2,none⟩=some (.int .i64 0) /\ W.cell? ⟨g,o+3,none⟩=some (.int .i64 0) /\ W.cell? ⟨g,o+4,none⟩=some (.int .i64 0):=by
 obtain ⟨ad,cap,e,hs⟩:=h;cases e;obtain ⟨g,o,rfl,hc⟩:=hs (by decide);have h0:=hc 0 (.int .i64 0) (by simp [evC,ev0]);rw [Nat.add_zero] at h0;have h1:=hc 1 (.int .i64 9) (by simp [evC,ev0]);have h2:=hc 2 (.int .i64 0) (by simp [evC,ev0]);have h3:=hc 3 (.int .i64 0) (by simp [evC,ev0]);have h4:=hc 4 (.int .i64 0) (by simp [evC,ev0]);exact ⟨g,o,rfl,fun W q=>⟨q.cell (fun h=>h) h0,q.cell (fun h=>h) h1,q.cell (fun h=>h) h2,q.cell (fun h=>h) h3,q.cell (fun h=>h) h4⟩⟩
theorem zMZ:(Tryz.prog.info? 170).map (fun i=>(i.zero,i.size,i.bytes))=some (some (.int .u64 0),1,8):=by kernel_rfl
theorem reverse_nil (w:World):Calls Tryz.prog 241 #[.slice none 0 0] w fun e w'=>e=.returned (.tuple #[]) /\ w=w':=by
 go_enter Tryz.func241,Tryz.ntmps241
 exact J63 _
theorem zMu (w:World) (g o lc bo:Nat) (d:∀ W,Keeps zA w W -> W.cell? ⟨g,o,none⟩=some (.int .i64 0) /\ W.cell? ⟨g,o+1,none⟩=some (.int .i64 9) /\ W.cell? ⟨g,o+2,none⟩=some (.int .i64 0) /\ W.cell? ⟨g,o+3,none⟩=some (.int .i64 0) /\ W.cell? ⟨g,o+4,none⟩=some (.int .i64 0)) :
 Calls Tryz.prog 201 #[.slice (some ⟨g,o,none⟩) 1 lc,(.pointer (some ⟨bo,0,none⟩)), .int .i64 0] w fun e w'=>e=.returned (.agg #[.slice (some ⟨g,o,none⟩) 1 lc,(.pointer (some ⟨bo,0,none⟩)), .int .i64 0, .int .i64 0, .int .i64 9, .int .i64 0]) /\ Keeps zA w w':=by
 have k0:=zH w;go_enter Tryz.func201,Tryz.ntmps201
 go_upto_region 1 with fail
 obtain ⟨bz,w1,e1,e2,R1,K1,_⟩:=newRow w [.slice none 0 0, .pointer none, .int .i64 0, .int .i64 0, .int .i64 0, .int .i64 0] 317;rw [e1,e2];have HB1:Hid (w.heap.size=bz):=e1;have HR1:=Lib.hid R1;have HK1:=Lib.hid K1;have d1:=fun (W:World) (q:Keeps zA w1 W)=>d W (K1.zB q)
 clear e1 e2 R1 K1 d k0;have k1:=zH w1;refine zAs 20 (by kernel_rfl) [some (.slice (some ⟨g,o,none⟩) 1 lc),some ((.pointer (some ⟨bo,0,none⟩))),some (.int .i64 0),some (.slice (some ⟨g,o,none⟩) 1 lc),some (.int .i64 0),some ((.pointer (some ⟨g,o,none⟩))),some ((.pointer (some ⟨g,o,none⟩))),some (.int .i64 0),some (.slice (some ⟨g,o,none⟩) 1 lc),some (.int .i64 0),some ((.pointer (some ⟨g,o,none⟩))),some ((.pointer (some ⟨g,o+1,none⟩))),some (.int .i64 9),some (.slice (some ⟨g,o,none⟩) 1 lc),some (.int .i64 0),some ((.pointer (some ⟨g,o,none⟩))),some ((.pointer (some ⟨g,o+2,none⟩))),some (.int .i64 0),some (.agg #[.int .i64 9, .int .i64 0]),some (.agg #[.slice (some ⟨g,o,none⟩) 1 lc,(.pointer (some ⟨bo,0,none⟩)), .int .i64 0, .int .i64 0, .int .i64 9, .int .i64 0])] rfl (fun _ _ _=>False) (fun _ _ _ _ h _=>h) ?_ ?_
 ·refine ⟨?_,?_,?_,?_,?_,?_,?_,?_,?_,?_,?_,?_,?_,?_,?_,?_,?_,?_,?_,?_,trivial⟩ <;> (intro vs gs W Q' hR hd hK;have HRW:Keeps zA w1 W:=((zH w1).drew).zB hR;simp only [zA1,zAg,zBQ,zJ,tz,Option.bind,Act.put] at hd hK ⊢;try simp only [hd] at hK ⊢)
  all_goals try (try clear hd;go_wp2_with (fail);first | exact hK _ _ (Keeps.refl _ _) rfl)
 ·intro vs W hR hFF
  have HRW:Keeps zA w1 W:=((zH w1).drew).zB hR;have e19:vs 19=_:=hFF 19 (by decide);simp only [zJ,tz,Option.bind,Act.put];rw [e19];have rz:=HR1.out.keeps HRW (fun h=>h);have c0:=rz.cell (k:=0) rfl;have c1:=rz.cell (k:=1) rfl;have c2:=rz.cell (k:=2) rfl;have c3:=rz.cell (k:=3) rfl;have c4:=rz.cell (k:=4) rfl;have c5:=rz.cell (k:=5) rfl;have f0:=rz.free (k:=0) (by simp);have f1:=rz.free (k:=1) (by simp);have f2:=rz.free (k:=2) (by simp);have f3:=rz.free (k:=3) (by simp);have f4:=rz.free (k:=4) (by simp);have f5:=rz.free (k:=5) (by simp);have HqR:=Lib.hid rz;have HKW:=Lib.hid HRW;clear hFF e19 hR HRW d1 k1 rz;go_wp2_with fail
  have rq:zC ((((((W.setCell ⟨bz,0,none⟩ (.slice (some ⟨g,o,none⟩) 1 lc)).setCell ⟨bz,1,none⟩ ((.pointer (some ⟨bo,0,none⟩)))).setCell ⟨bz,2,none⟩ (.int .i64 0)).setCell ⟨bz,3,none⟩ (.int .i64 0)).setCell ⟨bz,4,none⟩ (.int .i64 9)).setCell ⟨bz,5,none⟩ (.int .i64 0)) bz [.slice (some ⟨g,o,none⟩) 1 lc,(.pointer (some ⟨bo,0,none⟩)), .int .i64 0, .int .i64 0, .int .i64 9, .int .i64 0]:=((((((HqR.out.set 0 (by simp) (.slice (some ⟨g,o,none⟩) 1 lc)).set 1 (by simp) ((.pointer (some ⟨bo,0,none⟩)))).set 2 (by simp) (.int .i64 0)).set 3 (by simp) (.int .i64 0)).set 4 (by simp) (.int .i64 9)).set 5 (by simp) (.int .i64 0));have kq:Keeps (fun q=>q=bz) W ((((((W.setCell ⟨bz,0,none⟩ (.slice (some ⟨g,o,none⟩) 1 lc)).setCell ⟨bz,1,none⟩ ((.pointer (some ⟨bo,0,none⟩)))).setCell ⟨bz,2,none⟩ (.int .i64 0)).setCell ⟨bz,3,none⟩ (.int .i64 0)).setCell ⟨bz,4,none⟩ (.int .i64 9)).setCell ⟨bz,5,none⟩ (.int .i64 0)):=(((((((Keeps.refl (fun q=>q=bz) W).setCell (p:=⟨bz,0,none⟩) (fun _=>rfl) (.slice (some ⟨g,o,none⟩) 1 lc)).setCell (p:=⟨bz,1,none⟩) (fun _=>rfl) ((.pointer (some ⟨bo,0,none⟩)))).setCell (p:=⟨bz,2,none⟩) (fun _=>rfl) (.int .i64 0)).setCell (p:=⟨bz,3,none⟩) (fun _=>rfl) (.int .i64 0)).setCell (p:=⟨bz,4,none⟩) (fun _=>rfl) (.int .i64 9)).setCell (p:=⟨bz,5,none⟩) (fun _=>rfl) (.int .i64 0));generalize ((((((W.setCell ⟨bz,0,none⟩ (.slice (some ⟨g,o,none⟩) 1 lc)).setCell ⟨bz,1,none⟩ ((.pointer (some ⟨bo,0,none⟩)))).setCell ⟨bz,2,none⟩ (.int .i64 0)).setCell ⟨bz,3,none⟩ (.int .i64 0)).setCell ⟨bz,4,none⟩ (.int .i64 9)).setCell ⟨bz,5,none⟩ (.int .i64 0))=w5 at rq kq ⊢;refine bodyPost_ret (v:=.agg #[.slice (some ⟨g,o,none⟩) 1 lc,(.pointer (some ⟨bo,0,none⟩)), .int .i64 0, .int .i64 0, .int .i64 9, .int .i64 0]) (by simp [results,Tryz.results201,go_sem,rq.cell (k:=0) rfl,rq.cell (k:=1) rfl,rq.cell (k:=2) rfl,rq.cell (k:=3) rfl,rq.cell (k:=4) rfl,rq.cell (k:=5) rfl]) rfl ?_
  exact ⟨rfl,(HK1.out.zB HKW.out).trans kq (fun q hq e=>by exact J201 _)⟩
theorem zN9 (w:World) (la:Option Addr) (lc bo:Nat):Calls Tryz.prog 202 #[.agg #[.slice la 1 lc,(.pointer (some ⟨bo,0,none⟩)), .int .i64 0, .int .i64 0, .int .i64 9, .int .i64 0]] w fun e w'=>e=.returned (.slice none 0 0) /\ Keeps zA w w':=by
 go_enter Tryz.func202,Tryz.ntmps202
 go_upto_region 1 with fail
 obtain ⟨b1,w1,e1,e2,R1,K1,_⟩:=newRow w [.slice la 1 lc,(.pointer (some ⟨bo,0,none⟩)), .int .i64 0, .int .i64 0, .int .i64 9, .int .i64 0] 317;rw [e1,e2];have y:=zL (R1.cell (k:=2) rfl);have k1:=zH w1;have HK1:=Lib.hid K1;clear e1 e2 R1 K1;go_wp2_with fail
 go_step3
 go_wp2_with fail
 go_step3
 go_wp2_with fail
 refine wp_loop_rounds 1 ?_
 rw [rounds_succ];go_wp2_with (go_at_call 241;refine (reverse_nil _).mono ?_;rintro e w' ⟨rfl,rfl⟩)
 try rw [Exit.noGoto_ret]
 go_ret
 exact ⟨rfl,HK1.out⟩
theorem zMU (w:World) (la:Option Addr) (lc:Nat) (h:zU w (.slice la 1 lc) 1 (evC ev0)) (hlc:1 <= lc):Calls Tryz.prog 167 #[.slice la 1 lc, .int .i64 0] w fun e w'=>e=.returned (.tuple #[.slice none 0 0, .int .i64 0]) /\ Keeps zA w w':=by
 have H:=Lib.hid h;obtain ⟨g,o,rfl,d⟩:=zDL h;have HD:=Lib.hid d;clear h d;go_enter Tryz.func167,Tryz.ntmps167
 go_upto_region 6 with (go_at_call 166;refine (zD4 _ _ lc H.out hlc).mono ?_;rintro e w1 ⟨bo,go,oc,rfl,h1,h2,h3⟩;have K1:=Lib.hid h3;clear h1 h2 h3)
 go_wp2_with (first | (go_at_call 201;refine (zMu w1 g o lc bo (fun W q=>HD.out W (K1.out.zB q))).mono ?_;rintro e w2 ⟨rfl,h2⟩;have K2:=Lib.hid h2;clear h2) | (go_at_call 202;refine (zN9 _ _ lc bo).mono ?_;rintro e w3 ⟨rfl,h3⟩;have K3:=Lib.hid h3;clear h3))
 go_ret2
 exact ⟨rfl,(K1.out.zB K2.out).zB K3.out⟩
theorem zNd (w:World) (la:Option Addr) (lc:Nat) (h:zU w (.slice la 1 lc) 1 (evC ev0)) (hlc:1 <= lc):Calls Tryz.prog 168 #[.slice la 1 lc, .slice none 0 0, .int .i64 0, .agg #[.int .i64 0, .int .i64 9, .int .i64 0, .int .i64 0, .int .i64 0]] w fun e w'=>∃ g,e=.returned (.slice (some ⟨g,0,none⟩) 1 1) /\ w'.cell? ⟨g,0,none⟩=some (.int .u64 0) /\ Keeps zA w w':=by
 have H:=Lib.hid h;obtain ⟨i0,hi0,hz0,hz1,hz2⟩:=info_parts zMZ;clear h;go_enter Tryz.func168,Tryz.ntmps168
 go_upto_region 1 with fail
 obtain ⟨b1,w1,e1,e2,R1,K1,_⟩:=newRow w [.int .i64 0, .int .i64 9, .int .i64 0, .int .i64 0, .int .i64 0] 67;rw [e1,e2];have HK1:=Lib.hid K1;clear e1 e2 R1 K1;go_upto_region 2 with (go_at_call 166;refine (zD4 _ _ lc (H.out.keeps HK1.out (fun _ _ h=>h)) hlc).mono ?_;rintro e w2 ⟨bo,go,oc,rfl,h1,h2,h3⟩;have K2:=Lib.hid h3;clear h1 h2 h3)
 go_upto_region 3 with (at_make;refine wpList_make_full _ rfl _ _ _ rfl 0 170 i0 _ 1 Tryz.underlying214 hi0 hz0 hz1 _ _ _ _ 1 (by rfl) (by rfl) rfl rfl (by rw [hz2];omega) (by unfold maxLen;omega) (Nat.zero_le _) ?_;intro w3 hown hgr;have HO:=Lib.hid hown;have HGR:=Lib.hid hgr;clear hown hgr)
 go_wp2_with fail
 refine wp_loop_rounds 1 ?_
 rw [rounds_succ];go_wp2_with fail
 go_ret
 have hk3:Keeps zA w w3:=(HK1.out.zB K2.out).grown HGR.out (by simp)
 have ho:w3.ownsRow 0 170 1 (.slice (some ⟨w2.heap.size,0,none⟩) 1 1) 1 [.int .u64 0]:=by
  have h:=HO.out;simp only [Value.cells] at h;rw [toList_madeCells_one] at h;simpa using h
 exact ⟨_,rfl,(zC.zAM ho).cell (k:=0) rfl,hk3⟩
theorem zOP (w:World) (la:Option Addr) (lc:Nat) (h:zU w (.slice la 1 lc) 1 (evC ev0)) (hlc:1 <= lc):Calls Tryz.prog 114 #[.slice la 1 lc] w fun e w'=>∃ g,e=.returned (.tuple #[.slice (some ⟨g,0,none⟩) 1 1, .int .i64 0]) /\ w'.cell? ⟨g,0,none⟩=some (.int .u64 0) /\ Keeps zA w w':=by
 have H:=Lib.hid h;obtain ⟨g,o,rfl,d⟩:=zDL h;have HD:=Lib.hid d;clear h d;go_enter Tryz.func114,Tryz.ntmps114
 go_upto_region 7 with (go_at_call 166;refine (zD4 _ _ lc H.out hlc).mono ?_;rintro e w1 ⟨bo,go,oc,rfl,h1,h2,h3⟩;have K1:=Lib.hid h3;clear h1 h2 h3)
 go_upto_region 8 with (go_at_call 167;refine (zMU w1 _ lc (H.out.keeps K1.out (fun _ _ h=>h)) hlc).mono ?_;rintro e w2 ⟨rfl,h2⟩;have K2:Hid (Keeps zA w w2):=K1.out.zB h2;clear h2)
 have d2:=fun (W:World) (q:Keeps zA w2 W)=>HD.out W (K2.out.zB q)
 have k2:=zH w2;go_wp2_with (go_at_call 168;refine (zNd w2 _ lc (H.out.keeps K2.out (fun _ _ h=>h)) hlc).mono ?_;rintro e w3 ⟨gs,rfl,h3,h4⟩;have HS:=Lib.hid h3;have K3:Hid (Keeps zA w w3):=K2.out.zB h4;clear h3 h4 d2 k2)
 go_ret2
 exact ⟨gs,rfl,HS.out,K3.out⟩
end Go.Proofs.YtoapgjjepiopbaaGreatDoor
