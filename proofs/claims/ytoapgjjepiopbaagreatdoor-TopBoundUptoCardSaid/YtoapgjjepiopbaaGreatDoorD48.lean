/- Layer D: texts joined. -/
import Derived.Test.YtoapgjjepiopbaaGreatDoorD47
import Derived.Test.YtoapgjjepiopbaaGreatDoorD45
set_option linter.all false
set_option maxHeartbeats 8000000
set_option maxRecDepth 8000
namespace Go.Proofs.YtoapgjjepiopbaaGreatDoor
open Go.RowKit
theorem J53(P:Prop)(h:P:=by try clear hd;go_wp2_with (fail);first|exact hK _ _ (yB _ _) rfl):P:=h
theorem J70(P:Prop) (h:P:=by
 go_wp2_with fail
 refine yY 1 ?_
 rw[yQ];go_wp2_with fail
 go_returns
 exact⟨rfl,rfl⟩):P:=h
theorem zl.rows{α:Type}{C:α->List Value}{sz:Nat}(hC:∀x,(C x).length=sz){w:World}{v:Value}{L:List α}(h:zl w v L.length (L.flatMap C)):∃ad cap,v=.slice ad L.length cap/\∀k x,L[k]?=some x->∃g o,ad=some ⟨g,o,none⟩/\∀j u,(C x)[j]?=some u->w.cell? ⟨g,o+k*sz+j,none⟩=some u:=by
 obtain⟨ad,cap,e,h1⟩:=h;refine⟨ad,cap,e,λk x hk=>?_⟩
 obtain⟨g,o,e1,h2⟩:=h1 (by have:=(yP.1 hk).1;omega);refine⟨g,o,e1,λj u hj=>?_⟩
 have hl:j<sz:=by rw[<-hC x];exact(yP.1 hj).1
 have:=h2 (k*sz+j) u (by rw[zCh C sz hC L k j hl,hk];exact hj)
 rwa [<-uI] at this
end Go.Proofs.YtoapgjjepiopbaaGreatDoor
namespace Go.Proofs.YtoapgjjepiopbaaGreatDoor
abbrev LgS:=List (Int × Int) × List Int
def zL2(n:Nat)(S:LgS)(x:Evt):LgS:=zNB n S.1 S.2 x.thread x.kind x.obj x.bad
def zDM:Nat->List Evt->LgS->LgS
 | _,[],S=>S
 | n,x :: r,S=>zDM (n+1) r (zL2 n S x)
def OkL:Nat->List Evt->LgS->Prop
 | _,[],_=>True
 | n,x :: r,S=>zJZ S.1 S.2 x/\OkL (n+1) r (zL2 n S x)
theorem zNk:∀(l:List Evt)(n:Nat)(S:LgS),OkL n l S->∀k x,l[k]?=some x->zJZ (zDM n (l.take k) S).1 (zDM n (l.take k) S).2 x/\zDM n (l.take (k+1)) S=zL2 (n+k) (zDM n (l.take k) S) x
 | [],n,S,h,k,x,e=>by simp at e
 | y :: l,n,S,h,0,x,e=>by
   obtain rfl:y=x:=by simpa using e
   exact⟨h.1,rfl⟩
 | y :: l,n,S,h,k+1,x,e=>by
   have:=zNk l (n+1) _ h.2 k x (by simpa using e)
   simp only[vO,zDM];rw[show n+(k+1)=n+1+k by omega];exact this
end Go.Proofs.YtoapgjjepiopbaaGreatDoor
namespace Go.Proofs.YtoapgjjepiopbaaGreatDoor
open Go.RowKit
theorem zPa{B b n:Nat}{w:World}{S:LgS}(h:zB7 B w b n S.1 S.2){x:Evt}(hx:zJZ S.1 S.2 x)(hn:n<=1000):Calls Tryz.prog 235 #[.pointer (some ⟨b,0,none⟩),evV x] w λe w'=>e=.returned (.int .i64 0)/\zB7 B w' b (n+1) (zL2 n S x).1 (zL2 n S x).2/\Keeps (λq=>B<=q) w w':=by
 obtain⟨xt,xk,xo,xv,xb⟩:=x;have h1:=hx.ok.1.1;have h2:=hx.ok.2.1.1;simp only at h1 h2;obtain⟨t,rfl⟩:∃t:Nat,xt=t:=⟨xt.toNat,by omega⟩
 obtain⟨o,rfl⟩:∃o:Nat,xo=o:=⟨xo.toNat,by omega⟩
 exact zOu h t o xk xv xb hx hn
theorem zHI(w:World)(v:Value)(L:List Evt)(h:zl w v L.length (L.flatMap evC))(hm:L.length<=1000)(hok:OkL 0 L (T0,O0)):
 Calls Tryz.prog 198 #[v] w λe w'=>∃b,e=.returned (.tuple #[.pointer (some ⟨b,0,none⟩),(0:Int),(0:Int)])/\zB7 w.heap.size w' b L.length (zDM 0 L (T0,O0)).1 (zDM 0 L (T0,O0)).2/\Keeps zA w w':=by
 obtain⟨B,hB⟩:=eX w.heap.size
 have H1:Hid (∀W,Keeps (λq=>B<=q) w W->∀k x,L[k]?=some x->∃g o,v=.slice (some ⟨g,o,none⟩) L.length (match v with | .slice _ _ c=>c|_=>0)/\∀j u,(evC x)[j]?=some u->W.cell? ⟨g,o+k*5+j,none⟩=some u):=λW hk k x hx=>by
  obtain⟨ad,cap,e,f⟩:=(h.up hk (by rw[hB];exact yT _) (λe=>by rw[zAI _ 5 zLA] at e;omega):zl W v L.length (L.flatMap evC)).rows zLA;obtain⟨g,o,rfl,f2⟩:=f k x hx;subst e;exact⟨g,o,rfl,f2⟩
 have H2:Hid (∀k x,L[k]?=some x->zJZ (zDM 0 (L.take k) (T0,O0)).1 (zDM 0 (L.take k) (T0,O0)).2 x/\zDM 0 (L.take (k+1)) (T0,O0)=zL2 k (zDM 0 (L.take k) (T0,O0)) x):=λk x hx=>by
  have:=zNk L 0 (T0,O0) hok k x hx
  rwa [xA] at this
 obtain⟨ad,cap,rfl,_⟩:=h;obtain⟨n,hn⟩:=eX L.length;have HN:=yA hn;have HBB:=yA hB;have HN0:=yA (zKE w);rw[<-hn] at hm H1 ⊢;rw[<-hB] at HN0 ⊢;clear hok hn hB;go_enter Tryz.func198,Tryz.ntmps198
 go_wp2_with (go_at_call 234;refine HN0.out.mono ?_;rintro e w1 ⟨b,rfl,hl,hk⟩;have HL1:=yA hl;have HK1:Hid (Keeps (λq=>B<=q) w w1):=hk.mono (λ_ _ h=>h.elim);clear hl hk)
 clear HN0;go_loopw [12] (λiv wr=>∃i:Nat,i<=n/\iv=.int .i64 i/\Hid (zB7 B wr b i (zDM 0 (L.take i) (T0,O0)).1 (zDM 0 (L.take i) (T0,O0)).2/\Keeps (λq=>B<=q) w wr)) (λiv _=>n-(intOf iv).toNat)
 case atStart=>exact⟨0,yF _,rfl,HL1.out,HK1.out⟩
 case round =>
  obtain⟨i,hi,rfl,HI⟩:=hrel;clear HL1 HK1;by_cases hlt:i<n
  ·obtain⟨x,hx⟩:∃x,L[i]?=some x:=⟨_,yL (by rw[<-HN.out];exact hlt)⟩
   obtain⟨g,o,e,d⟩:=H1.out wr HI.out.2 i x hx;simp only[xH,yh,and_true] at e;subst e;obtain⟨p1,p2⟩:=H2.out i x hx;have HAD:=yA (λ(W:World)(q:Keeps zA wr W)=>zPa (HI.out.1.keeps q (λ_ _ h=>h)) p1 (by omega));have HP2:=yA p2;have HKK:=yA HI.out.2;obtain⟨xt,xk,xo,xv,xb⟩:=x;have d0:wr.cell? ⟨g,o+i*5,none⟩=some (.int .i64 xt):=d 0 _ rfl;have d1:wr.cell? ⟨g,o+i*5+1,none⟩=some (.int .i64 xk):=d 1 _ rfl;have d2:wr.cell? ⟨g,o+i*5+2,none⟩=some (.int .i64 xo):=d 2 _ rfl;have d3:wr.cell? ⟨g,o+i*5+3,none⟩=some (.int .i64 xv):=d 3 _ rfl;have d4:wr.cell? ⟨g,o+i*5+4,none⟩=some (.int .i64 xb):=d 4 _ rfl;have i1:(0:Int)<=i:=by omega
   have i2:(i:Int)<n:=by omega
   clear d hx p1 p2 HI hi;go_upto_region 5 with fail
   obtain⟨b7,w2,x1,x2,R2,K2,_⟩:=newRow wr [xt,xk,xo,xv,xb] 67;try rw[x1]
   try rw[x2]
   have y2:=R2.five;have HK2:=yA K2;have k2:=zF w2;clear x1 x2 R2 d0 d1 d2 d3 d4;go_wp2_with (go_at_call 235;refine(HAD.out _ HK2.out).mono ?_;rintro e w5 ⟨rfl,hl,k5⟩;have HL:=yA hl;have HK5:=yA k5;clear hl k5)
   exact⟨⟨i+1,by omega,by go_num,by rw[HP2.out];exact HL.out,(HKK.out.trans K2 (λ_ _ h=>h.elim)).trans HK5.out (λ_ _ h=>h)⟩,by simp[intOf];omega⟩
  ·have hin:i=n:=by omega
   subst hin;have htk:L.take i=L:=by rw[HN.out];exact xS
   rw[htk] at HI;clear hlt hi;go_wp2_with fail
   refine xK (v:=.tuple #[.pointer (some ⟨b,0,none⟩),(0:Int),(0:Int)]) (by simp[results,Tryz.results198,go_sem]) rfl ?_
   exact⟨b,rfl,HI.out.1,HI.out.2.mono (λq hq e=>by have e':B<=q:=e;have:=HBB.out;omega)⟩
def ev0:Evt:=⟨0,9,0,0,0⟩
theorem zNa:OkL 0 [ev0] (T0,O0):=
 ⟨⟨by simp[okE,ev0],rfl,λh=>by simp[ev0] at h,λh=>by simp[ev0] at h,λ_=>by simp[ev0,zIZ]⟩,trivial⟩
theorem zOm:(Tryz.prog.info? 314).map (λi=>(i.zero,i.size,i.bytes))=some (some (.agg #[(0:Int),(0:Int),(0:Int),(0:Int),(0:Int),(0:Int),(0:Int),(0:Int),(0:Int),(0:Int),(0:Int),(0:Int),(0:Int),(0:Int),(0:Int),(0:Int),(0:Int),(0:Int),(0:Int)]),19,152):=by kernel_rfl
def zD6:List Value:=[.int .i64 0,.int .i64 1,.int .i64 1,.int .i64 0,.int .i64 0,.int .i64 0,.int .i64 0,.int .i64 0,.int .i64 0,.int .i64 0,.int .i64 1,.int .i64 0,.int .i64 0,.int .i64 0,.int .i64 0,.int .i64 0,.int .i64 0,.int .i64 0,.int .i64 (-1)]
theorem zMF:Tryz.prog.builtSlice 314 1 [(0,.agg zD6.toArray)]=some zD6.toArray:=by kernel_rfl
theorem zE5(w:World)(la:Option Addr)(lc:Nat)(h:zl w (.slice la 1 lc) 1 (evC ev0))(hlc:1<=lc):
 Calls Tryz.prog 166 #[.slice la 1 lc] w λe w'=>∃bo go oc,e=.returned (.tuple #[.pointer (some ⟨bo,0,none⟩),(0:Int)])/\zB w' bo [.slice (some ⟨go,0,none⟩) 1 oc]/\zB w' go zD6/\Keeps zA w w':=by
 have HEV:Hid (Calls Tryz.prog 198 #[.slice la 1 lc] w λe w'=>(∃b,e=.returned (.tuple #[.pointer (some ⟨b,0,none⟩),(0:Int),(0:Int)]))/\Keeps zA w w'):=(zHI w (.slice la 1 lc) [ev0] (by simpa using h) (by simp) zNa).mono λe w' ⟨b,e1,_,hk⟩=>⟨⟨b,e1⟩,hk⟩
 obtain⟨ad,cap,e,hs⟩:=h;cases e;obtain⟨g,o,rfl,hc⟩:=hs (by decide)
 have HC:Hid (w.cell? ⟨g,o,none⟩=some (.int .i64 0)/\w.cell? ⟨g,o+1,none⟩=some (.int .i64 9)/\w.cell? ⟨g,o+2,none⟩=some (.int .i64 0)/\w.cell? ⟨g,o+3,none⟩=some (.int .i64 0)/\w.cell? ⟨g,o+4,none⟩=some (.int .i64 0)):=by
  have h0:=hc 0 (.int .i64 0) (by simp[evC,ev0]);rw[uQ] at h0;exact⟨h0,hc 1 (.int .i64 9) (by simp[evC,ev0]),hc 2 (.int .i64 0) (by simp[evC,ev0]),hc 3 (.int .i64 0) (by simp[evC,ev0]),hc 4 (.int .i64 0) (by simp[evC,ev0])⟩
 obtain⟨j0,hj0,hy0,hy1,hy2⟩:=info_parts zOm;obtain⟨Q,hQ⟩:=eX (α:=Ending->World->Prop) (λe w'=>∃bo go oc,e=.returned (.tuple #[.pointer (some ⟨bo,0,none⟩),(0:Int)])/\zB w' bo [.slice (some ⟨go,0,none⟩) 1 oc]/\zB w' go zD6/\Keeps zA w w');rw[<-hQ];have HQ:=yA hQ;clear hs hc hQ;go_enter Tryz.func166,Tryz.ntmps166
 go_upto_region 6 with(go_at_call 198;refine HEV.out.mono ?_;rintro e w1 ⟨⟨bl,rfl⟩,k1⟩;have HK1:=yA k1;clear k1)
 go_upto_region 7 with fail
 obtain⟨bo,w2,e1,e2,R2,K2,_⟩:=newRow w1 [.slice none 0 0] 310;try rw[e1]
 try rw[e2]
 have HR2:=yA R2;have HK2:Hid (Keeps zA w w2):=HK1.out.zC K2;have HB2:Hid (w.heap.size<=bo):=by have:=HK1.out.size;show _<=_;omega
 clear e1 e2 R2 K2 HEV;go_wp2_with fail
 go_loopw [29] (λiv wr=>∃k:Nat,k<=1/\iv=.int .i64 k/\Hid ((k=0->zB wr bo [.slice none 0 0])/\(k=1->∃go oc,zB wr bo [.slice (some ⟨go,0,none⟩) 1 oc]/\zB wr go zD6))/\Hid (Keeps zA w wr)) (λiv _=>1-(intOf iv).toNat)
 case atStart=>exact⟨0,yF _,rfl,⟨λ_=>HR2.out,λh=>absurd h (by decide)⟩,HK2.out⟩
 case round =>
  obtain⟨k,hk,rfl,HP,HK⟩:=hrel;obtain⟨wq,rfl⟩:=eX wr;rcases (show k=0\/k=1 by omega) with rfl|rfl
  ·have d:∀W,Keeps zA wq W->W.cell? ⟨g,o,none⟩=some (.int .i64 0)/\W.cell? ⟨g,o+1,none⟩=some (.int .i64 9)/\W.cell? ⟨g,o+2,none⟩=some (.int .i64 0)/\W.cell? ⟨g,o+3,none⟩=some (.int .i64 0)/\W.cell? ⟨g,o+4,none⟩=some (.int .i64 0):=λW q=>by
    have hk:=HK.out.zC q;obtain⟨c0,c1,c2,c3,c4⟩:=HC.out;exact⟨hk.cell (λh=>h) c0,hk.cell (λh=>h) c1,hk.cell (λh=>h) c2,hk.cell (λh=>h) c3,hk.cell (λh=>h) c4⟩
   have kr:=zF wq;go_upto_region 10 with fail
   obtain⟨b9,w3,e1,e2,R3,K3,_⟩:=newRow wq [(0:Int),(9:Int),(0:Int),(0:Int),(0:Int)] 67;try rw[e1]
   try rw[e2]
   have y3:=R3.five;have k3:=zF w3;have HK3:=yA K3;have HR3:=yA R3;clear e1 e2 R3 K3 d kr;iterate 7 go_step
   refine wpList_buildTo rfl _ _ rfl _ rfl ([.int .i64 0,.int .i64 1,.int .i64 0,.int .i64 0,.int .i64 0,.int .i64 0,.int .i64 0,.int .i64 0,.int .i64 0,.int .i64 0,.int .i64 0,.int .i64 0,.int .i64 0,.int .i64 0,.int .i64 0,.int .i64 0,.int .i64 0,.int .i64 0,.int .i64 (-1)]:List Value).toArray (by kernel_rfl) ?_
   refine Great.wpList_allocTo rfl _ rfl (.pointer (some ⟨w3.heap.size,0,none⟩)) (.cells (List.replicate 19 (.int .i64 0)).toArray 314) (by kernel_rfl) ?_
   refine wpList_store_rowTo rfl _ _ _ rfl rfl w3.heap.size ([.int .i64 0,.int .i64 1,.int .i64 0,.int .i64 0,.int .i64 0,.int .i64 0,.int .i64 0,.int .i64 0,.int .i64 0,.int .i64 0,.int .i64 0,.int .i64 0,.int .i64 0,.int .i64 0,.int .i64 0,.int .i64 0,.int .i64 0,.int .i64 0,.int .i64 (-1)]:List Value).toArray (by kernel_rfl) (by kernel_rfl) 314 (List.replicate 19 (.int .i64 0)).toArray (heap_alloc_last w3 _) (by kernel_rfl) (by kernel_rfl) (by kernel_rfl) ?_
   rw[World.setRow_alloc_new];obtain⟨bm,w4,e1,e2,R4,K4,_⟩:=newRow w3 [(0:Int),(1:Int),(0:Int),(0:Int),(0:Int),(0:Int),(0:Int),(0:Int),(0:Int),(0:Int),(0:Int),(0:Int),(0:Int),(0:Int),(0:Int),(0:Int),(0:Int),(0:Int),.int .i64 (-1)] 314;rw[e1,e2];have HR4:=yA R4;have HK4:=yA K4;have HB4:Hid (bm=w3.heap.size):=e1.symm;have y3:=(HR3.out.keeps K4 (λh=>h)).five;have k4:=zF w4;clear e1 e2 R4 K4 k3;go_upto_region 12 with fail
   go_loopw [41] (λiv w'=>iv=.int .i64 0/\w'=w4) (λ_ _=>0)
   case atStart=>exact⟨rfl,rfl⟩
   case round =>
    obtain⟨rfl,hw⟩:=hrel;subst hw;go_upto_region 21 with fail
    have z1:=HR4.out.cell (k:=1) rfl;have z2:=HR4.out.cell (k:=2) rfl;have z10:=HR4.out.cell (k:=10) rfl;have f2:=HR4.out.free (k:=2) (by decide);have f10:=HR4.out.free (k:=10) (by decide);have y30:=y3 _ (yB zA _);go_region
    have r5:zB ((wr.setCell ⟨bm,2,none⟩ (.int .i64 1)).setCell ⟨bm,10,none⟩ (.int .i64 1)) bm zD6:=(HR4.out.set 2 (by decide) _).set 10 (by decide) _;have k5:Keeps (λq=>q=bm) wr ((wr.setCell ⟨bm,2,none⟩ (.int .i64 1)).setCell ⟨bm,10,none⟩ (.int .i64 1)):=((yB (λq=>q=bm) wr).setCell (p:=⟨bm,2,none⟩) (λ_=>rfl) _).setCell (p:=⟨bm,10,none⟩) (λ_=>rfl) _;have k5':=k5.drew;have r5':=r5.keeps ((yB zA _).drew) (λh=>h);generalize ((wr.setCell ⟨bm,2,none⟩ (.int .i64 1)).setCell ⟨bm,10,none⟩ (.int .i64 1)).drew=w5 at k5' r5' ⊢;clear r5 k5;have HK5:=yA k5';have HR5:=yA r5';have HKR5:Hid (Keeps zA wq w5):=(HK3.out.zC HK4.out).trans k5' (λq hq e=>by have e':q=bm:=e;have:=HB4.out;have:=HK3.out.size;omega);have HBO:Hid (zB w5 bo [.slice none 0 0]):=(HP.out.1 (by first|rfl|trivial)).keeps HKR5.out (λh=>h)
    have ym:∀W,Keeps zA w5 W->W.cell? ⟨bm,0,none⟩=some (.int .i64 0)/\W.cell? ⟨bm,1,none⟩=some (.int .i64 1)/\W.cell? ⟨bm,2,none⟩=some (.int .i64 1)/\W.cell? ⟨bm,3,none⟩=some (.int .i64 0)/\W.cell? ⟨bm,4,none⟩=some (.int .i64 0)/\W.cell? ⟨bm,5,none⟩=some (.int .i64 0)/\W.cell? ⟨bm,6,none⟩=some (.int .i64 0)/\W.cell? ⟨bm,7,none⟩=some (.int .i64 0)/\W.cell? ⟨bm,8,none⟩=some (.int .i64 0)/\W.cell? ⟨bm,9,none⟩=some (.int .i64 0)/\W.cell? ⟨bm,10,none⟩=some (.int .i64 1)/\W.cell? ⟨bm,11,none⟩=some (.int .i64 0)/\W.cell? ⟨bm,12,none⟩=some (.int .i64 0)/\W.cell? ⟨bm,13,none⟩=some (.int .i64 0)/\W.cell? ⟨bm,14,none⟩=some (.int .i64 0)/\W.cell? ⟨bm,15,none⟩=some (.int .i64 0)/\W.cell? ⟨bm,16,none⟩=some (.int .i64 0)/\W.cell? ⟨bm,17,none⟩=some (.int .i64 0)/\W.cell? ⟨bm,18,none⟩=some (.int .i64 (-1)):=λW q=>by
     have r:=HR5.out.keeps q (λh=>h);exact⟨r.cell (k:=0) rfl,r.cell (k:=1) rfl,r.cell (k:=2) rfl,r.cell (k:=3) rfl,r.cell (k:=4) rfl,r.cell (k:=5) rfl,r.cell (k:=6) rfl,r.cell (k:=7) rfl,r.cell (k:=8) rfl,r.cell (k:=9) rfl,r.cell (k:=10) rfl,r.cell (k:=11) rfl,r.cell (k:=12) rfl,r.cell (k:=13) rfl,r.cell (k:=14) rfl,r.cell (k:=15) rfl,r.cell (k:=16) rfl,r.cell (k:=17) rfl,r.cell (k:=18) rfl⟩
    have yo:=HBO.out.all1;have kr5:=zF w5;clear k5' r5' z1 z2 z10 f2 f10 y30 y3 k4;go_upto_region 22 with fail
    refine zB5 7 0 (by kernel_rfl) [some (.pointer (some ⟨bo,0,none⟩)),some (.pointer (some ⟨bo,0,none⟩)),some (.pointer (some ⟨bo,0,none⟩)),some (.pointer (some ⟨bo,0,none⟩)),some (.slice none 0 0),some (.agg #[(0:Int),(1:Int),(1:Int),(0:Int),(0:Int),(0:Int),(0:Int),(0:Int),(0:Int),(0:Int),(1:Int),(0:Int),(0:Int),(0:Int),(0:Int),(0:Int),(0:Int),(0:Int),.int .i64 (-1)]),none] rfl (λj v W=>∃g,v=.slice (some ⟨g,0,none⟩) 1 1/\zB W g zD6) (λj v W W' h hk=>by exact J181 _) _ rfl (λ_ _ _ _ h=>h) _ rfl (λ_ _ _=>by exact J171 _) ?_ ?_
    ·refine⟨?_,?_,?_,?_,?_,?_,?_,trivial⟩ <;> (intro vs gs W Q' hR hd hK;have HRW:Keeps zA w5 W:=((zF w5).drew).zC hR;simp only[zBK,zAt,zBo,zJ,tz,Option.bind,Act.put] at hd hK ⊢;try simp only[hd] at hK ⊢)
     ·exact J53 _
     ·exact J53 _
     ·exact J53 _
     ·exact J53 _
     ·exact J53 _
     rotate_left
     rotate_left
     ·clear hd
      refine wpList_load_mid (by rfl) _ _ (by rfl) bm 0 (by rfl) zD6 _ (HR5.out.keeps HRW (λh=>h)).rng Tryz.underlying314 rfl (by kernel_rfl) ?_
      exact J3 _
     ·clear hd
      refine Great.wpList_buildSliceTo (by rfl) _ 314 1 _ (by rfl) W.heap.size rfl _ (by rfl) Tryz.underlying308 zD6.toArray (by simp only[List.map_toArray,uO,List.map_nil];exact zMF) ?_
      exact hK _ _ ((yB zA W).alloc (.cells zD6.toArray 314)) (by show ∃g,_;exact⟨_,rfl,yK (yG W _)⟩)
    ·intro vs W hR hFF
     have HRW:Keeps zA w5 W:=((zF w5).drew).zC hR;obtain⟨g2,e6,rg'⟩:=(hFF 6 (by decide):∃g,vs 6=.slice (some ⟨g,0,none⟩) 1 1/\zB W g zD6);have e0:vs 0=_:=hFF 0 (by decide);have e4:vs 4=_:=hFF 4 (by decide);simp only[zJ,tz,Option.bind,Act.put];rw[e0,e4,e6];have HRG:=yA rg';have HKW:=yA HRW;have HBW:=yA (HBO.out.keeps HRW (λh=>h));clear hFF e0 e4 e6 rg' hR HRW ym yo kr5;go_upto_region 23 with(at_builtin;refine zI _ (by rfl) _ _ 308 (by rfl) 0 314 j0 _ 19 152 Tryz.underlying308 hj0 hy0 hy1 hy2 rfl (by decide) (.slice none 0 0) 0 [] (by rfl) (World.ownsRow_nil _ _ _ _) (.slice (some ⟨g2,0,none⟩) 1 1) 1 zD6 (by rfl) (xE HRG.out) (by rfl) (by simp[zD6,Value.oneCell']) (by unfold maxLen;omega) (by omega) (yF _) ?_;intro ad8 cap8 w8 hout;have HO8:=yA hout;have zr:=HBW.out.keeps (xD hout (yB (λq=>False) _) (λq e _=>by exact J170 _)) (λh=>h);have zc:=zr.cell (k:=0) rfl;have zf:=zr.free (k:=0) (by simp);have HZR:=yA zr;clear hout zr)
     have hrow:=HZR.out.set 0 (by simp) (.slice ad8 1 cap8);have kS:Keeps (λq=>q=bo) w8 (w8.setCell ⟨bo,0,none⟩ (.slice ad8 1 cap8)):=(yB (λq=>q=bo) w8).setCell (p:=⟨bo,0,none⟩) (λ_=>rfl) _;have hrow:zB (w8.setCell ⟨bo,0,none⟩ (.slice ad8 1 cap8)) bo [.slice ad8 1 cap8]:=hrow;have ho8:=HO8.out;rw[xA,uG] at ho8;obtain⟨go,c8,ee,_⟩:=ho8.1.form (by decide);simp only[xH,yh] at ee;obtain⟨rfl,rfl⟩:=ee;have hgo:=ho8.2.2 go rfl;have hlo:bo<W.heap.size:=HBW.out.lt (by simp)
     have hgr:zB (w8.setCell ⟨bo,0,none⟩ (.slice (some ⟨go,0,none⟩) 1 cap8)) go zD6:=(uB ho8.1).keeps kS (λe=>by
      have e':go=bo:=e;rcases hgo with h|h
      ·exact J65 _
      ·omega)
     have hkk:Keeps zA w (w8.setCell ⟨bo,0,none⟩ (.slice (some ⟨go,0,none⟩) 1 cap8)):=((HK.out.zC HKR5.out).zC (ho8.keeps HKW.out (λq e _=>by exact J170 _))).trans kS (λq hq e=>by have e':q=bo:=e;have:=HB2.out;omega);generalize w8.setCell ⟨bo,0,none⟩ (.slice (some ⟨go,0,none⟩) 1 cap8)=w9 at hrow hgr hkk ⊢;have HFIN:Hid (zB w9 bo [.slice (some ⟨go,0,none⟩) 1 cap8]/\zB w9 go zD6/\Keeps zA w w9):=⟨hrow,hgr,hkk⟩;clear hrow hgr hkk kS zc zf ho8 hgo hlo;go_wp2_with fail
     exact⟨⟨1,by decide,rfl,⟨λh=>absurd h (by decide),λ_=>⟨go,cap8,HFIN.out.1,HFIN.out.2.1⟩⟩,HFIN.out.2.2⟩,by simp[intOf]⟩
  ·obtain⟨go,oc,h1,h2⟩:=HP.out.2 rfl
   have HF:Hid (zB wq bo [.slice (some ⟨go,0,none⟩) 1 oc]/\zB wq go zD6):=⟨h1,h2⟩;clear h1 h2;go_wp2_with fail
   rw[HQ.out];exact⟨bo,go,oc,rfl,HF.out.1,HF.out.2,HK.out⟩
theorem zD1{w:World}{la:Option Addr}{lc:Nat}(h:zl w (.slice la 1 lc) 1 (evC ev0)):∃g o,la=some ⟨g,o,none⟩/\∀W,Keeps zA w W->W.cell? ⟨g,o,none⟩=some (.int .i64 0)/\W.cell? ⟨g,o+1,none⟩=some (.int .i64 9)/\W.cell? ⟨g,o+2,none⟩=some (.int .i64 0)/\W.cell? ⟨g,o+3,none⟩=some (.int .i64 0)/\W.cell? ⟨g,o+4,none⟩=some (.int .i64 0):=by
 obtain⟨ad,cap,e,hs⟩:=h;cases e;obtain⟨g,o,rfl,hc⟩:=hs (by decide);have h0:=hc 0 (.int .i64 0) (by simp[evC,ev0]);rw[uQ] at h0;have h1:=hc 1 (.int .i64 9) (by simp[evC,ev0]);have h2:=hc 2 (.int .i64 0) (by simp[evC,ev0]);have h3:=hc 3 (.int .i64 0) (by simp[evC,ev0]);have h4:=hc 4 (.int .i64 0) (by simp[evC,ev0]);exact⟨g,o,rfl,λW q=>⟨q.cell (λh=>h) h0,q.cell (λh=>h) h1,q.cell (λh=>h) h2,q.cell (λh=>h) h3,q.cell (λh=>h) h4⟩⟩
theorem zOV:(Tryz.prog.info? 170).map (λi=>(i.zero,i.size,i.bytes))=some (some (.int .u64 0),1,8):=by kernel_rfl
theorem reverse_nil(w:World):Calls Tryz.prog 241 #[.slice none 0 0] w λe w'=>e=.returned (.tuple #[])/\w=w':=by
 go_enter Tryz.func241,Tryz.ntmps241
 exact J70 _
theorem zO7(w:World)(g o lc bo:Nat)(d:∀W,Keeps zA w W->W.cell? ⟨g,o,none⟩=some (.int .i64 0)/\W.cell? ⟨g,o+1,none⟩=some (.int .i64 9)/\W.cell? ⟨g,o+2,none⟩=some (.int .i64 0)/\W.cell? ⟨g,o+3,none⟩=some (.int .i64 0)/\W.cell? ⟨g,o+4,none⟩=some (.int .i64 0)):
 Calls Tryz.prog 201 #[.slice (some ⟨g,o,none⟩) 1 lc,(.pointer (some ⟨bo,0,none⟩)),(0:Int)] w λe w'=>e=.returned (.agg #[.slice (some ⟨g,o,none⟩) 1 lc,(.pointer (some ⟨bo,0,none⟩)),(0:Int),(0:Int),(9:Int),(0:Int)])/\Keeps zA w w':=by
 have k0:=zF w;go_enter Tryz.func201,Tryz.ntmps201
 go_upto_region 1 with fail
 obtain⟨bz,w1,e1,e2,R1,K1,_⟩:=newRow w [.slice none 0 0,.pointer none,(0:Int),(0:Int),(0:Int),(0:Int)] 317;rw[e1,e2];have HB1:Hid (w.heap.size=bz):=e1;have HR1:=yA R1;have HK1:=yA K1;have d1:=λ(W:World)(q:Keeps zA w1 W)=>d W (K1.zC q)
 clear e1 e2 R1 K1 d k0;have k1:=zF w1;refine zBG 20 (by kernel_rfl) [some (.slice (some ⟨g,o,none⟩) 1 lc),some ((.pointer (some ⟨bo,0,none⟩))),some (.int .i64 0),some (.slice (some ⟨g,o,none⟩) 1 lc),some (.int .i64 0),some ((.pointer (some ⟨g,o,none⟩))),some ((.pointer (some ⟨g,o,none⟩))),some (.int .i64 0),some (.slice (some ⟨g,o,none⟩) 1 lc),some (.int .i64 0),some ((.pointer (some ⟨g,o,none⟩))),some ((.pointer (some ⟨g,o+1,none⟩))),some (.int .i64 9),some (.slice (some ⟨g,o,none⟩) 1 lc),some (.int .i64 0),some ((.pointer (some ⟨g,o,none⟩))),some ((.pointer (some ⟨g,o+2,none⟩))),some (.int .i64 0),some (.agg #[(9:Int),(0:Int)]),some (.agg #[.slice (some ⟨g,o,none⟩) 1 lc,(.pointer (some ⟨bo,0,none⟩)),(0:Int),(0:Int),(9:Int),(0:Int)])] rfl (λ_ _ _=>False) (λ_ _ _ _ h _=>h) ?_ ?_
 ·refine⟨?_,?_,?_,?_,?_,?_,?_,?_,?_,?_,?_,?_,?_,?_,?_,?_,?_,?_,?_,?_,trivial⟩ <;> (intro vs gs W Q' hR hd hK;have HRW:Keeps zA w1 W:=((zF w1).drew).zC hR;simp only[zBK,zAt,zBo,zJ,tz,Option.bind,Act.put] at hd hK ⊢;try simp only[hd] at hK ⊢)
  all_goals try(try clear hd;go_wp2_with (fail);first|exact hK _ _ (yB _ _) rfl)
 ·intro vs W hR hFF
  have HRW:Keeps zA w1 W:=((zF w1).drew).zC hR;have e19:vs 19=_:=hFF 19 (by decide);simp only[zJ,tz,Option.bind,Act.put];rw[e19];have rz:=HR1.out.keeps HRW (λh=>h);have c0:=rz.cell (k:=0) rfl;have c1:=rz.cell (k:=1) rfl;have c2:=rz.cell (k:=2) rfl;have c3:=rz.cell (k:=3) rfl;have c4:=rz.cell (k:=4) rfl;have c5:=rz.cell (k:=5) rfl;have f0:=rz.free (k:=0) (by simp);have f1:=rz.free (k:=1) (by simp);have f2:=rz.free (k:=2) (by simp);have f3:=rz.free (k:=3) (by simp);have f4:=rz.free (k:=4) (by simp);have f5:=rz.free (k:=5) (by simp);have HqR:=yA rz;have HKW:=yA HRW;clear hFF e19 hR HRW d1 k1 rz;go_wp2_with fail
  have rq:zB ((((((W.setCell ⟨bz,0,none⟩ (.slice (some ⟨g,o,none⟩) 1 lc)).setCell ⟨bz,1,none⟩ ((.pointer (some ⟨bo,0,none⟩)))).setCell ⟨bz,2,none⟩ (.int .i64 0)).setCell ⟨bz,3,none⟩ (.int .i64 0)).setCell ⟨bz,4,none⟩ (.int .i64 9)).setCell ⟨bz,5,none⟩ (.int .i64 0)) bz [.slice (some ⟨g,o,none⟩) 1 lc,(.pointer (some ⟨bo,0,none⟩)),.int .i64 0,.int .i64 0,.int .i64 9,.int .i64 0]:=((((((HqR.out.set 0 (by simp) (.slice (some ⟨g,o,none⟩) 1 lc)).set 1 (by simp) ((.pointer (some ⟨bo,0,none⟩)))).set 2 (by simp) (.int .i64 0)).set 3 (by simp) (.int .i64 0)).set 4 (by simp) (.int .i64 9)).set 5 (by simp) (.int .i64 0));have kq:Keeps (λq=>q=bz) W ((((((W.setCell ⟨bz,0,none⟩ (.slice (some ⟨g,o,none⟩) 1 lc)).setCell ⟨bz,1,none⟩ ((.pointer (some ⟨bo,0,none⟩)))).setCell ⟨bz,2,none⟩ (.int .i64 0)).setCell ⟨bz,3,none⟩ (.int .i64 0)).setCell ⟨bz,4,none⟩ (.int .i64 9)).setCell ⟨bz,5,none⟩ (.int .i64 0)):=(((((((yB (λq=>q=bz) W).setCell (p:=⟨bz,0,none⟩) (λ_=>rfl) (.slice (some ⟨g,o,none⟩) 1 lc)).setCell (p:=⟨bz,1,none⟩) (λ_=>rfl) ((.pointer (some ⟨bo,0,none⟩)))).setCell (p:=⟨bz,2,none⟩) (λ_=>rfl) (.int .i64 0)).setCell (p:=⟨bz,3,none⟩) (λ_=>rfl) (.int .i64 0)).setCell (p:=⟨bz,4,none⟩) (λ_=>rfl) (.int .i64 9)).setCell (p:=⟨bz,5,none⟩) (λ_=>rfl) (.int .i64 0));generalize ((((((W.setCell ⟨bz,0,none⟩ (.slice (some ⟨g,o,none⟩) 1 lc)).setCell ⟨bz,1,none⟩ ((.pointer (some ⟨bo,0,none⟩)))).setCell ⟨bz,2,none⟩ (.int .i64 0)).setCell ⟨bz,3,none⟩ (.int .i64 0)).setCell ⟨bz,4,none⟩ (.int .i64 9)).setCell ⟨bz,5,none⟩ (.int .i64 0))=w5 at rq kq ⊢;refine xK (v:=.agg #[.slice (some ⟨g,o,none⟩) 1 lc,(.pointer (some ⟨bo,0,none⟩)),(0:Int),(0:Int),(9:Int),(0:Int)]) (by simp[results,Tryz.results201,go_sem,rq.cell (k:=0) rfl,rq.cell (k:=1) rfl,rq.cell (k:=2) rfl,rq.cell (k:=3) rfl,rq.cell (k:=4) rfl,rq.cell (k:=5) rfl]) rfl ?_
  exact⟨rfl,(HK1.out.zC HKW.out).trans kq (λq hq e=>by exact J225 _)⟩
theorem zQc(w:World)(la:Option Addr)(lc bo:Nat):Calls Tryz.prog 202 #[.agg #[.slice la 1 lc,(.pointer (some ⟨bo,0,none⟩)),(0:Int),(0:Int),(9:Int),(0:Int)]] w λe w'=>e=.returned (.slice none 0 0)/\Keeps zA w w':=by
 go_enter Tryz.func202,Tryz.ntmps202
 go_upto_region 1 with fail
 obtain⟨b1,w1,e1,e2,R1,K1,_⟩:=newRow w [.slice la 1 lc,(.pointer (some ⟨bo,0,none⟩)),(0:Int),(0:Int),(9:Int),(0:Int)] 317;rw[e1,e2];have y:=zL (R1.cell (k:=2) rfl);have k1:=zF w1;have HK1:=yA K1;clear e1 e2 R1 K1;go_wp2_with fail
 go_step3
 go_wp2_with fail
 go_step3
 go_wp2_with fail
 refine yY 1 ?_
 rw[yQ];go_wp2_with (go_at_call 241;refine(reverse_nil _).mono ?_;rintro e w' ⟨rfl,rfl⟩)
 try rw[Exit.noGoto_ret]
 go_ret
 exact⟨rfl,HK1.out⟩
theorem zOX(w:World)(la:Option Addr)(lc:Nat)(h:zl w (.slice la 1 lc) 1 (evC ev0))(hlc:1<=lc):Calls Tryz.prog 167 #[.slice la 1 lc,(0:Int)] w λe w'=>e=.returned (.tuple #[.slice none 0 0,(0:Int)])/\Keeps zA w w':=by
 have H:=yA h;obtain⟨g,o,rfl,d⟩:=zD1 h;have HD:=yA d;clear h d;go_enter Tryz.func167,Tryz.ntmps167
 go_upto_region 6 with(go_at_call 166;refine(zE5 _ _ lc H.out hlc).mono ?_;rintro e w1 ⟨bo,go,oc,rfl,h1,h2,h3⟩;have K1:=yA h3;clear h1 h2 h3)
 go_wp2_with (first|(go_at_call 201;refine(zO7 w1 g o lc bo (λW q=>HD.out W (K1.out.zC q))).mono ?_;rintro e w2 ⟨rfl,h2⟩;have K2:=yA h2;clear h2)|(go_at_call 202;refine(zQc _ _ lc bo).mono ?_;rintro e w3 ⟨rfl,h3⟩;have K3:=yA h3;clear h3))
 go_ret2
 exact⟨rfl,(K1.out.zC K2.out).zC K3.out⟩
theorem zQw(w:World)(la:Option Addr)(lc:Nat)(h:zl w (.slice la 1 lc) 1 (evC ev0))(hlc:1<=lc):Calls Tryz.prog 168 #[.slice la 1 lc,.slice none 0 0,(0:Int),.agg #[(0:Int),(9:Int),(0:Int),(0:Int),(0:Int)]] w λe w'=>∃g,e=.returned (.slice (some ⟨g,0,none⟩) 1 1)/\w'.cell? ⟨g,0,none⟩=some (.int .u64 0)/\Keeps zA w w':=by
 have H:=yA h;obtain⟨i0,hi0,hz0,hz1,hz2⟩:=info_parts zOV;clear h;go_enter Tryz.func168,Tryz.ntmps168
 go_upto_region 1 with fail
 obtain⟨b1,w1,e1,e2,R1,K1,_⟩:=newRow w [(0:Int),(9:Int),(0:Int),(0:Int),(0:Int)] 67;rw[e1,e2];have HK1:=yA K1;clear e1 e2 R1 K1;go_upto_region 2 with(go_at_call 166;refine(zE5 _ _ lc (H.out.keeps HK1.out (λ_ _ h=>h)) hlc).mono ?_;rintro e w2 ⟨bo,go,oc,rfl,h1,h2,h3⟩;have K2:=yA h3;clear h1 h2 h3)
 go_upto_region 3 with(at_make;refine wpList_make_full _ rfl _ _ _ rfl 0 170 i0 _ 1 Tryz.underlying214 hi0 hz0 hz1 _ _ _ _ 1 (by rfl) (by rfl) rfl rfl (by rw[hz2];omega) (by unfold maxLen;omega) (yF _) ?_;intro w3 hown hgr;have HO:=yA hown;have HGR:=yA hgr;clear hown hgr)
 go_wp2_with fail
 refine yY 1 ?_
 rw[yQ];go_wp2_with fail
 go_ret
 have hk3:Keeps zA w w3:=(HK1.out.zC K2.out).grown HGR.out (by simp)
 have ho:w3.ownsRow 0 170 1 (.slice (some ⟨w2.heap.size,0,none⟩) 1 1) 1 [.int .u64 0]:=by
  have h:=HO.out;simp only[Value.cells] at h;rw[toList_madeCells_one] at h;simpa using h
 exact⟨_,rfl,(uB ho).cell (k:=0) rfl,hk3⟩
theorem zQC(w:World)(la:Option Addr)(lc:Nat)(h:zl w (.slice la 1 lc) 1 (evC ev0))(hlc:1<=lc):Calls Tryz.prog 114 #[.slice la 1 lc] w λe w'=>∃g,e=.returned (.tuple #[.slice (some ⟨g,0,none⟩) 1 1,(0:Int)])/\w'.cell? ⟨g,0,none⟩=some (.int .u64 0)/\Keeps zA w w':=by
 have H:=yA h;obtain⟨g,o,rfl,d⟩:=zD1 h;have HD:=yA d;clear h d;go_enter Tryz.func114,Tryz.ntmps114
 go_upto_region 7 with(go_at_call 166;refine(zE5 _ _ lc H.out hlc).mono ?_;rintro e w1 ⟨bo,go,oc,rfl,h1,h2,h3⟩;have K1:=yA h3;clear h1 h2 h3)
 go_upto_region 8 with(go_at_call 167;refine(zOX w1 _ lc (H.out.keeps K1.out (λ_ _ h=>h)) hlc).mono ?_;rintro e w2 ⟨rfl,h2⟩;have K2:Hid (Keeps zA w w2):=K1.out.zC h2;clear h2)
 have d2:=λ(W:World)(q:Keeps zA w2 W)=>HD.out W (K2.out.zC q)
 have k2:=zF w2;go_wp2_with (go_at_call 168;refine(zQw w2 _ lc (H.out.keeps K2.out (λ_ _ h=>h)) hlc).mono ?_;rintro e w3 ⟨gs,rfl,h3,h4⟩;have HS:=yA h3;have K3:Hid (Keeps zA w w3):=K2.out.zC h4;clear h3 h4 d2 k2)
 go_ret2
 exact⟨gs,rfl,HS.out,K3.out⟩
