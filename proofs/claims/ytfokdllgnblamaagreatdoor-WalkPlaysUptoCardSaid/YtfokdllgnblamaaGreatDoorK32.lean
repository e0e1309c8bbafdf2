/- Layer K: texts joined. -/
import Derived.Test.YtfokdllgnblamaaGreatDoorK30
import Derived.Test.YtfokdllgnblamaaGreatDoorK31
set_option linter.all false
set_option maxHeartbeats 2000000
set_option maxRecDepth 8000
namespace Go.Proofs.YtfokdllgnblamaaGreatDoor
open Go.RowKit
theorem J50 (P:Prop) (h:P:=by exact hK _ _ g1 (n1.mono (fun _ _=>trivial))):P:=h
theorem zDj (xs:List Int):∀ u ∈ ints xs,u.oneCell'=true:=by
 intro u hu
 simp only [ints,List.mem_map] at hu;obtain ⟨k,_,rfl⟩:=hu;rfl
theorem zEX (w:World) (v:Value) (xs:List Int) (h:zAD w v xs.length (ints xs)) (hb:xs.length*8 <= 140737488355328) :
 Calls Tryz.prog 32 #[v] w (zBk 3 1 w xs.length (ints xs)):=by
 obtain ⟨i0,hi0,hz0,hz1,hz2⟩:=info_parts zA3;have HS:=yB h;obtain ⟨ad,cap,rfl,hc⟩:=h
 have h0:ad=none -> xs=[]:=fun e=>by
  cases xs with
  | nil=>rfl
  | cons a r=>obtain ⟨g,o,e2,_⟩:=hc (by simp);rw [e] at e2;cases e2
 clear hc;cases ad with
 | none =>
   obtain rfl:=h0 rfl;have hnil:∀ W,(binOp .eql 22 (.slice none 0 cap) (.slice none 0 0)).run Tryz.prog W=.ok (.bool true) W:=fun W=>Lib.run_eql_slice_nil_nil W _ _ xG
   go_enter Tryz.func32,Tryz.ntmps32
   go_wp2
   go_ret
   exact ⟨none,0,rfl,xJ _ _ _ _,yC _ _,fun kb e=>by exact J190 _⟩
 | some a =>
   clear h0;obtain ⟨n,hn⟩:=eX xs.length;have HL:Hid ((ints xs).length=n*1):=by show _=_;rw [zAE,hn,vZ]
   rw [<- hn] at HS hb ⊢;have HB:Hid (n*8 <= 140737488355328):=hb;clear hb hn;have hnil:∀ W,(binOp .eql 22 (.slice (some a) n cap) (.slice none 0 0)).run Tryz.prog W=.ok (.bool false) W:=fun W=>Lib.run_eql_slice_some_nil W _ _ _ xG
   go_enter Tryz.func32,Tryz.ntmps32
   go_wp2_with (at_builtin;refine zI _ (by rfl) _ _ 22 (by rfl) 0 3 i0 _ 1 8 xG hi0 hz0 hz1 hz2 rfl (by decide) (.slice (some ⟨w.heap.size,0,none⟩) 0 0) 0 [] (by rfl) (World.ownsRow_lit w #[] 0 (yJ _) (by unfold maxLen;omega) rfl) (.slice (some a) n cap) n (ints xs) (by rfl) (HS.out.keeps (S:=zA) ((yC _ _).alloc _) (fun _ _ h=>h)) HL.out (zDj xs) (by have:=HB.out;unfold maxLen;omega) (by have:=HB.out;omega) (yJ _) ?_;intro ad' cap' w6 hout;have HO:=yB hout;clear hout)
   go_ret
   have hO:=HO.out;refine ⟨ad',cap',by simp,?_,hO.keeps ((yC _ _).alloc _) (fun k e hlt=>by simp [Value.ownBlock] at e;omega),fun kb e=>?_⟩
   ·have:=hO.1
    rw [yZ,List.nil_append] at this;exact this
   ·exact J124 _
theorem zJA (w:World) (g n cap:Nat) (hn:n <= cap) (hm:cap <= maxLen) :
 Calls Tryz.prog 63 #[.slice (some ⟨g,0,none⟩) n cap] w fun e w'=>e=.returned (.slice (some ⟨g,0,none⟩) n n) /\ w'=w:=by
 have h1:(0:Int) <= n:=by omega
 have h2:(n:Int) <= cap:=by omega
 have h3:(cap:Int) <= 9223372036854775807:=by unfold maxLen at hm;omega
 go_enter Tryz.func63,Tryz.ntmps63
 go_wp2
 go_ret
 exact ⟨by simp,rfl⟩
theorem zI9 (w:World) :
 Calls Tryz.prog 63 #[.slice none 0 0] w fun e w'=>e=.returned (.slice none 0 0) /\ w'=w:=by
 go_enter Tryz.func63,Tryz.ntmps63
 go_wp2
 go_ret
 exact ⟨by simp,rfl⟩
theorem zGq (w:World) (ad:Option Addr) (n cap:Nat) (xs:List Int) (h:w.ownsRow 0 3 1 (.slice ad n cap) n (ints xs)) :
 Calls Tryz.prog 63 #[.slice ad n cap] w fun e w'=>e=.returned (.slice ad n n) /\ w'=w:=by
 rcases h.2 with ⟨e,rfl⟩ | ⟨g,cap',cur,e,_,_,h1,h2,_⟩
 ·cases e;exact zI9 w
 ·cases e;exact zJA w g n cap h1 h2
def BdL:zBA Bd:=fun w F b cs=>∃ ad cap,cs=[.int .i64 b.regs, .slice ad b.acts.length cap] /\ zBD w F b.acts (.slice ad b.acts.length cap)
theorem zJl:zAX BdL 2:=⟨fun h hk hS=>by obtain ⟨ad,cap,e,h1⟩:=h;exact ⟨ad,cap,e,h1.keeps hk hS⟩,fun h hF=>by obtain ⟨ad,cap,e,h1⟩:=h;exact ⟨ad,cap,e,h1.mono hF⟩,fun h=>by obtain ⟨ad,cap,e,_⟩:=h;rw [e];rfl⟩
theorem Acc.zPW {w:World} {B n cap:Nat} {ty:TypeId} {ad:Option Addr} {bs:List Bd} {css:List (List Value)} (h:Acc BdL (fun _=>False) B 2 ty w (.slice ad n cap) bs css):zBX w (Since B w) bs ad:=by
 obtain ⟨h1,h2⟩:=h.elems zJl (ad:=ad) (n:=n) (cap:=cap) rfl;have hm:∀ k,(False \/ (B <= k /\ k < w.heap.size)) -> Since B w k:=fun k hk=>hk.elim False.elim (fun h=>h)
 intro i hi
 obtain ⟨g,o,e,hg,hl,hc⟩:=h1 i hi;obtain ⟨ba,bc,hR',hs⟩:=h2 i bs[i] (yQ hi);have hc0:=hc 0 (.int .i64 bs[i].regs) (by show (css.getD i [])[_]?=_;rw [hR'];rfl);have hc1:=hc 1 (.slice ba bs[i].acts.length bc) (by show (css.getD i [])[_]?=_;rw [hR'];rfl);refine ⟨g,o,_,e,hm g hg,hc0,?_,hs.mono hm⟩
 rw [uK];exact hc1
def zHw (T:zS) (id:Nat) (t:WTg) (v:Value):zS:=match v.ownBlock with
 | some g=>zCk T id t g
 | none=>T
theorem zID {T:zS} {id:Nat} {t:WTg} {v:Value} {w:World} (h:∀ g,v.ownBlock=some g -> T g=none /\ w.heap.size <= g):zAG T (zHw T id t v) id w:=by
 unfold zHw;cases e:v.ownBlock with
 | none=>exact uW T id w
 | some g=>exact zCG (.inr (h g e))
theorem zIO {T:zS} {id:Nat} {t:WTg} {v:Value} {g:Nat} (h:v.ownBlock=some g):zHw T id t v g=some (id,t):=by
 unfold zHw;rw [h];exact zCZ _ _ _ _
theorem zJk {T:zS} {id:Nat} {t:WTg} {v:Value} {k:Nat} (h:v.ownBlock ≠ some k):zHw T id t v k=T k:=by
 unfold zHw;cases e:v.ownBlock with
 | none=>rfl
 | some g =>
   show zCk T id t g k=T k
   unfold zCk;rw [if_neg (fun q=>h (by rw [e,q]))]
theorem zJo {T:zS} {id:Nat} {t:WTg} {g k:Nat} (h:k ≠ g):zCk T id t g k=T k:=if_neg h
def zBt:HTh:=⟨1, .slice none 0 0, .slice none 0 0⟩
theorem zBQ.own {w:World} {T:zS} {id:Nat} {t:WTg} {ad:Option Addr} {cap:Nat} {xs:List Int} {e:TypeId} (h:w.ownsRow 0 e 1 (.slice ad xs.length cap) xs.length (ints xs)) (hT:∀ g,(Value.slice ad xs.length cap).ownBlock=some g -> T g=some (id,t)):zBQ w T id t (.slice ad xs.length cap) xs :=
 zBQ.of h hT ⟨_,_,rfl⟩
theorem MaP.make {R:zBA WFr} {sz:Nat} {ty:TypeId} {B:zCf} {w W:World} {T:zS} {F:Nat -> Prop} {id bm:Nat} {u:Un} {p:zAn} {m:zm} {n:Nat} {ei:TypeId} (hT:∀ k x,T k=some x -> k < w.heap.size) (hw:w.heap.size <= W.heap.size)
 (hrow:zC W bm (p.row u.threads.length m.cells.length m.owners.length m.zM.length)) (hm:m.zM=List.replicate n ⟨1,[],[]⟩)
 (hc:W.ownsRow 0 ei 1 (.slice p.cad m.cells.length p.ccap) m.cells.length (ints m.cells)) (ho:W.ownsRow 0 ei 1 (.slice p.oad m.owners.length p.ocap) m.owners.length (ints m.owners))
 (ht:zC W p.gt (zAO (List.replicate n zBt))) (hb:B W F u.threads p.ut) (hF:∀ k,F k -> w.heap.size <= k /\ k < W.heap.size /\ k ≠ bm /\ k ≠ p.gt /\ (Value.slice p.cad m.cells.length p.ccap).ownBlock ≠ some k /\ (Value.slice p.oad m.owners.length p.ocap).ownBlock ≠ some k)
 (l1:w.heap.size <= bm) (l2:w.heap.size <= p.gt) (l3:∀ g,(Value.slice p.cad m.cells.length p.ccap).ownBlock=some g -> w.heap.size <= g /\ g ≠ bm /\ g ≠ p.gt) (l4:∀ g,(Value.slice p.oad m.owners.length p.ocap).ownBlock=some g -> w.heap.size <= g /\ g ≠ bm /\ g ≠ p.gt /\ (Value.slice p.cad m.cells.length p.ccap).ownBlock ≠ some g)
 (l5:bm ≠ p.gt) (l6:bm < W.heap.size) (l7:p.gt < W.heap.size):∃ T',MaP R sz ty B W T' F id bm u p m (List.replicate n zBt) /\ zAG T T' id w:=by
 have hn:∀ k,w.heap.size <= k -> T k=none:=fun k hk=>by
  cases e:T k with
  | none=>rfl
  | some x=>have:=hT k x e;omega
 obtain ⟨cv,hcv⟩:=eX (Value.slice p.cad m.cells.length p.ccap);obtain ⟨ov,hov⟩:=eX (Value.slice p.oad m.owners.length p.ocap);rw [<- hcv] at hc l3 l4 hF;rw [<- hov] at ho l4 hF;obtain ⟨T1,h1⟩:=eX (zCk T id .mach bm);obtain ⟨T2,h2⟩:=eX (zCk T1 id .zM p.gt);obtain ⟨T3,h3⟩:=eX (zHw T2 id .cells cv);obtain ⟨T4,h4⟩:=eX (zHw T3 id .owners ov);have e1:∀ k,k ≠ bm -> T1 k=T k:=fun k hk=>by rw [h1];exact zJo hk
 have e2:∀ k,k ≠ p.gt -> T2 k=T1 k:=fun k hk=>by rw [h2];exact zJo hk
 have e3:∀ k,cv.ownBlock ≠ some k -> T3 k=T2 k:=fun k hk=>by rw [h3];exact zJk hk
 have e4:∀ k,ov.ownBlock ≠ some k -> T4 k=T3 k:=fun k hk=>by rw [h4];exact zJk hk
 have x1:zAG T T1 id w:=by rw [h1];exact zCG (.inr ⟨hn bm l1,l1⟩)
 have x2:zAG T1 T2 id w:=by rw [h2];exact zCG (.inr ⟨by rw [e1 _ (fun e=>l5 e.symm)];exact hn _ l2,l2⟩)
 have x3:zAG T2 T3 id w:=by rw [h3];exact zID (fun g hg=>by obtain ⟨a,b,c⟩:=l3 g hg;exact ⟨by rw [e2 g c,e1 g b];exact hn g a,a⟩)
 have x4:zAG T3 T4 id w:=by rw [h4];exact zID (fun g hg=>by obtain ⟨a,b,c,d⟩:=l4 g hg;exact ⟨by rw [e3 g d,e2 g c,e1 g b];exact hn g a,a⟩)
 have hx:zAG T T4 id w:=((x1.trans x2 (yV _)).trans x3 (yV _)).trans x4 (yV _);have t1:T4 bm=some (id, .mach):=x4.1 _ _ (x3.1 _ _ (x2.1 _ _ (by rw [h1];exact zCZ _ _ _ _)));have t2:T4 p.gt=some (id, .zM):=x4.1 _ _ (x3.1 _ _ (by rw [h2];exact zCZ _ _ _ _));have t3:∀ g,cv.ownBlock=some g -> T4 g=some (id, .cells):=fun g hg=>x4.1 _ _ (by rw [h3];exact zIO hg)
 have t4:∀ g,ov.ownBlock=some g -> T4 g=some (id, .owners):=fun g hg=>by rw [h4];exact zIO hg
 have hsep:zFH W T4 F:=by
  refine ⟨fun k x e=>?_,fun k hk=>?_,fun k hk=>(hF k hk).2.1⟩
  ·by_cases c4:ov.ownBlock=some k
   ·exact zO ho c4
   ·rw [e4 k c4] at e
    by_cases c3:cv.ownBlock=some k
    ·exact zO hc c3
    ·rw [e3 k c3] at e
     by_cases c2:k=p.gt
     ·rw [c2];exact l7
     ·rw [e2 k c2] at e
      by_cases c1:k=bm
      ·rw [c1];exact l6
      ·rw [e1 k c1] at e
       exact yI (hT k x e) hw
  ·obtain ⟨a,_,b,c,d,f⟩:=hF k hk
   rw [e4 k f,e3 k d,e2 k c,e1 k b];exact hn k a
 refine ⟨T4,⟨t1,hrow,?_,?_,⟨t2,hsep,ht,by rw [hm];simp,fun i h t a b=>?_⟩,hb⟩,hx⟩
 ·rw [hcv] at hc t3
  exact zBQ.own hc t3
 ·rw [hov] at ho t4
  exact zBQ.own ho t4
 ·rw [hm] at b
  obtain ⟨_,rfl⟩:=kM.1 (vD b);obtain ⟨_,rfl⟩:=kM.1 (vD a);exact ⟨rfl,⟨none,0,rfl,fun h=>absurd rfl h⟩,[],rfl,xJ _ _ _ _,fun kb e=>by simp [zBt,Value.ownBlock] at e,⟨none,0,rfl⟩,fun j f cs e=>by simp at e⟩
structure Cnt (w:World) (q:Nat) (s v:Value):Prop where
 row:zC w q [s,v]
 no:∀ (o:Nat) (k:Int),w.cell? ⟨q,o,none⟩ ≠ some (.int .i64 k)
theorem Cnt.keeps {S:Nat -> Prop} {w w':World} {q:Nat} {s v:Value} (h:Cnt w q s v) (hk:Keeps S w w') (hq:¬ S q):Cnt w' q s v :=
 ⟨h.row.keeps hk hq,fun o k e=>h.no o k (by rw [World.cell?_of_block (a:=⟨q,o,none⟩) (hk.block q (h.row.lt (by simp)) hq)] at e;exact e)⟩
theorem Cnt.zD {w w':World} {q:Nat} {s v:Value} (h:Cnt w q s v) (hk:Keeps zA w w'):Cnt w' q s v:=h.keeps hk (fun h=>h)
theorem Cnt.zF {w:World} {q l1 c1 l2 c2:Nat} {a1 a2:Option Addr} {t:TypeId} (h:w.heap[q]?=some (.cells #[.slice a1 l1 c1, .slice a2 l2 c2] t (0,0))):Cnt w q (.slice a1 l1 c1) (.slice a2 l2 c2):=by
 refine ⟨yN h,fun o k e=>?_⟩
 rw [cell_of_row w q o _ t (0,0) h] at e;rcases o with _ | _ | o
 ·cases e
 ·cases e
 ·simp at e
theorem Cnt.set0 {w:World} {q l1 c1:Nat} {a1:Option Addr} {s v:Value} (h:Cnt w q s v):Cnt (w.setCell ⟨q,0,none⟩ (.slice a1 l1 c1)) q (.slice a1 l1 c1) v:=by
 refine ⟨h.row.set 0 (by simp) _,fun o k e=>?_⟩
 by_cases ho:o=0
 ·subst ho
  rw [yb w ⟨q,0,none⟩ _ (h.row.cell (k:=0) rfl)] at e;cases e
 ·rw [uX w ⟨q,0,none⟩ ⟨q,o,none⟩ _ (by simp <;> omega)] at e
  exact h.no o k e
theorem Cnt.set1 {w:World} {q l1 c1:Nat} {a1:Option Addr} {s v:Value} (h:Cnt w q s v):Cnt (w.setCell ⟨q,1,none⟩ (.slice a1 l1 c1)) q s (.slice a1 l1 c1):=by
 refine ⟨h.row.set 1 (by simp) _,fun o k e=>?_⟩
 by_cases ho:o=1
 ·subst ho
  rw [yb w ⟨q,1,none⟩ _ (h.row.cell (k:=1) rfl)] at e;cases e
 ·rw [uX w ⟨q,1,none⟩ ⟨q,o,none⟩ _ (by simp <;> omega)] at e
  exact h.no o k e
theorem Cnt.put {w:World} {q l1 c1 l2 c2:Nat} {a1 a2:Option Addr} {s v:Value} (h:Cnt w q s v):Cnt ((w.setCell ⟨q,0,none⟩ (.slice a1 l1 c1)).setCell ⟨q,1,none⟩ (.slice a2 l2 c2)) q (.slice a1 l1 c1) (.slice a2 l2 c2) /\ Keeps (fun k=>k=q) w ((w.setCell ⟨q,0,none⟩ (.slice a1 l1 c1)).setCell ⟨q,1,none⟩ (.slice a2 l2 c2)) :=
 ⟨h.set0.set1,((yC (fun k=>k=q) w).setCell (p:=⟨q,0,none⟩) (fun _=>rfl) _).setCell (p:=⟨q,1,none⟩) (fun _=>rfl) _⟩
theorem zQ.stored {w w':World} {b n q:Nat} {v s u:Value} (h:zQ w (fun _=>True) b n v) (hr:Cnt w q s u) (hk:Keeps (fun k=>k=q) w w'):zQ w' (fun _=>True) b n v:=by
 obtain ⟨ad,cap,e,h1⟩:=h;refine ⟨ad,cap,e,fun i hi=>?_⟩
 obtain ⟨g,o,e,hg,hcell⟩:=h1 i hi;refine ⟨g,o,e,trivial,hk.cell (p:=⟨g,_,none⟩) (fun hgq=>?_) hcell⟩
 have hgq':g=q:=hgq;subst hgq';exact hr.no _ _ hcell
theorem zBf (x y xx yy:Nat) (w:World) (s v u1 u2:Value) (hs:zQ w (fun _=>True) 1000000000 x s) (hv:zQ w (fun _=>True) 1000000000 y v) (h1:zQ w (fun _=>True) 1000000000 xx u1) (h2:zQ w (fun _=>True) 1000000000 yy u2)
 (lx:(dig 1000000000 x).length <= 100000000000) (ly:(dig 1000000000 y).length <= 100000000000) (lxx:(dig 1000000000 xx).length <= 100000000000) (lyy:(dig 1000000000 yy).length <= 100000000000) :
 Calls Tryz.prog 97 #[.agg #[s,v],u1,u2] w fun e w'=>∃ z1 z2,e=.returned (.agg #[z1,z2]) /\ zQ w' (fun _=>True) 1000000000 (x+xx) z1 /\ zQ w' (fun _=>True) 1000000000 (y+yy) z2 /\ Keeps zA w w':=by
 have HP1:Hid (∀ W,Keeps zA w W -> Calls Tryz.prog 117 #[s,u1] W fun e w'=>∃ z,e=.returned z /\ zQ w' (Since W.heap.size w') 1000000000 (x+xx) z /\ Keeps zA W w'):=fun W hk=>plusV (hs.zD hk) (h1.zD hk) lx lxx
 have HP2:Hid (∀ W,Keeps zA w W -> Calls Tryz.prog 117 #[v,u2] W fun e w'=>∃ z,e=.returned z /\ zQ w' (Since W.heap.size w') 1000000000 (y+yy) z /\ Keeps zA W w'):=fun W hk=>plusV (hv.zD hk) (h2.zD hk) ly lyy
 obtain ⟨sa,sc,rfl,_⟩:=hs;obtain ⟨wa,wc,rfl,_⟩:=hv;generalize (dig 1000000000 x).length=n at HP1;generalize (dig 1000000000 y).length=m at HP2;clear h1 h2 lx ly lxx lyy;obtain ⟨Q,hQ⟩:=eX (α:=Ending -> World -> Prop) (fun e w'=>∃ z1 z2,e=.returned (.agg #[z1,z2]) /\ zQ w' (fun _=>True) 1000000000 (x+xx) z1 /\ zQ w' (fun _=>True) 1000000000 (y+yy) z2 /\ Keeps zA w w');have HQ:=yB hQ;rw [<- hQ];clear hQ;go_enter Tryz.func97,Tryz.ntmps97
 go_upto_region 1 with fail
 obtain ⟨b3,hb3⟩:=eX w.heap.size;obtain ⟨b6,hb6⟩:=eX (w.heap.size+1);rw [<- hb6,<- hb3];obtain ⟨wA,hwA⟩:=eX (w.alloc (.cells #[.slice sa n sc, .slice wa m wc] 130));obtain ⟨w1,hw1⟩:=eX (wA.alloc (.cells #[.slice none 0 0, .slice none 0 0] 130));rw [<- hwA,<- hw1];have kA:Keeps zA w wA:=J207 _;have k1:Keeps zA wA w1:=J213 _;have sA:wA.heap.size=w.heap.size+1:=by rw [hwA];simp
 have r3:zC wA b3 [.slice sa n sc, .slice wa m wc]:=by rw [hb3,hwA];exact yN (yK w _)
 have r6:Cnt w1 b6 (.slice none 0 0) (.slice none 0 0):=by rw [hb6,<- sA,hw1];exact Cnt.zF (yK wA _)
 have R3:Hid (zC w1 b3 [.slice sa n sc, .slice wa m wc]):=r3.keeps k1 (fun h=>h);have R6:=yB r6;have K1:Hid (Keeps zA w w1):=kA.zB k1;have HS:Hid (w.heap.size <= b6):=by show _ <= _;omega
 clear hwA hw1 kA k1 sA r3 r6 hb3 hb6
 refine zL 9 (by kernel_rfl) (by kernel_rfl) (Keeps zA) (yC zA) (fun a b c h h'=>xE h h') (zAH [some (.pointer (some ⟨b3,0,none⟩)),some (.slice sa n sc),some u1,none,some (.pointer (some ⟨b3,1,none⟩)),some (.slice wa m wc),some u2] (fun j v W=>match j with
  | 3=>zQ W (fun _=>True) 1000000000 (x+xx) v
  | 7=>zQ W (fun _=>True) 1000000000 (y+yy) v
  | _=>∃ z1 z2,v=.agg #[z1,z2] /\ zQ W (fun _=>True) 1000000000 (x+xx) z1 /\ zQ W (fun _=>True) 1000000000 (y+yy) z2)) (uG (fun j v W W' h hk=>by
    revert h
    split
    ·exact fun h=>h.zD hk
    ·exact fun h=>h.zD hk
    ·rintro ⟨z1,z2,e,h1,h2⟩;exact ⟨z1,z2,e,h1.zD hk,h2.zD hk⟩)) ?_ ?_
 ·intro q oo hq ho vs W Q' hR0 hd hK
  have hR:Keeps zA w1 W:=((yC zA w1).drew).zB hR0;obtain ⟨y30,y31⟩:=(R3.out.keeps hR (fun h=>h)).two;have HKW:Hid (Keeps zA w W):=K1.out.zB hR;clear hR hR0;rcases (show q=0 \/ q=1 \/ q=2 \/ q=3 \/ q=4 \/ q=5 \/ q=6 \/ q=7 \/ q=8 by omega) with rfl | rfl | rfl | rfl | rfl | rfl | rfl | rfl | rfl
  all_goals (simp only [yD,yE,yO] at ho;subst ho;simp only [zJ,yD,yE,yL,Option.bind,Act.put,yF,yG,yH] at hK ⊢;clear hq)
  ·exact J3 _
  ·exact J150 _
  ·exact J3 _
  ·have e1:vs 1=_:=hd 1 (by kernel_rfl)
   have e2:vs 2=_:=hd 2 (by kernel_rfl);rw [e1,e2] at hK ⊢;clear hd;go_wp2_with (go_at_call 117;refine (HP1.out W HKW.out).mono ?_;rintro e W1 ⟨z1,rfl,n1,g1⟩)
   exact J50 _
  ·exact J3 _
  ·exact J154 _
  ·exact J3 _
  ·have e5:vs 5=_:=hd 5 (by kernel_rfl)
   have e6:vs 6=_:=hd 6 (by kernel_rfl);rw [e5,e6] at hK ⊢;clear hd;go_wp2_with (go_at_call 117;refine (HP2.out W HKW.out).mono ?_;rintro e W1 ⟨z1,rfl,n1,g1⟩)
   exact J50 _
  ·obtain ⟨za,zc,e3,h3⟩:=(hd 3 (by kernel_rfl):zQ W (fun _=>True) 1000000000 (x+xx) (vs 3))
   have H3:=yB h3;obtain ⟨ta,tc,e7,h7⟩:=(hd 7 (by kernel_rfl):zQ W (fun _=>True) 1000000000 (y+yy) (vs 7));have H7:=yB h7;rw [e3,e7] at hK ⊢;clear h3 h7;clear hd;go_wp2_with fail
   exact hK _ _ (yC _ _) ⟨_,_,rfl,⟨za,zc,rfl,H3.out⟩,⟨ta,tc,rfl,H7.out⟩⟩
 ·intro vs W hR0 hF
  have hR:Keeps zA w1 W:=((yC zA w1).drew).zB hR0;obtain ⟨z1,z2,e8,n1,n2⟩:=(hF 8 (by decide):∃ z1 z2,vs 8=.agg #[z1,z2] /\ zQ W (fun _=>True) 1000000000 (x+xx) z1 /\ zQ W (fun _=>True) 1000000000 (y+yy) z2);have N1:=yB n1;have N2:=yB n2;obtain ⟨za,zc,rfl,_⟩:=n1;obtain ⟨ta,tc,rfl,_⟩:=n2;simp only [zJ,yD,yE,yL,Option.bind,Act.put,yF,yG,yH,yS,yR];rw [e8];clear hF e8;generalize vs 0=y0;generalize vs 1=y1;generalize vs 2=y2;generalize vs 3=y3;generalize vs 4=y4;generalize vs 5=y5;generalize vs 6=y6;generalize vs 7=y7;have R6W:Hid (Cnt W b6 (.slice none 0 0) (.slice none 0 0)):=R6.out.zD hR;have KW:Hid (Keeps zA w W):=K1.out.zB hR;clear hR hR0 R3 R6;generalize (dig 1000000000 (x+xx)).length=p at N1 ⊢;generalize (dig 1000000000 (y+yy)).length=p2 at N2 ⊢;obtain ⟨z0,z1⟩:=R6W.out.row.two;have f0:=R6W.out.row.free (k:=0) (by simp);have f1:=R6W.out.row.free (k:=1) (by simp);go_wp2_with fail
  obtain ⟨hrow,hks⟩:=R6W.out.put (a1:=za) (l1:=p) (c1:=zc) (a2:=ta) (l2:=p2) (c2:=tc);generalize (W.setCell ⟨b6,0,none⟩ (.slice za p zc)).setCell ⟨b6,1,none⟩ (.slice ta p2 tc)=wE at hrow hks ⊢;refine xA (v:=.agg #[.slice za p zc, .slice ta p2 tc]) (by simp [results,Tryz.results97,go_sem,hrow.row.cell (k:=0) rfl,hrow.row.cell (k:=1) rfl]) rfl ?_
  rw [HQ.out];exact ⟨_,_,rfl,N1.out.stored R6W.out hks,N2.out.stored R6W.out hks,KW.out.trans hks (fun q hq e=>by have e':q=b6:=e;have:=HS.out;omega)⟩
theorem zNF (num:Int) (nm:ByteArray) (l:List Ex):Ex.pts (.mk 0 num nm l)=0:=by simp [Ex.pts]
theorem zOR {k:Int} (h:¬ k=0) (num:Int) (nm:ByteArray) (l:List Ex):Ex.pts (.mk k num nm l)=1+Ex.zF9 l:=by simp [Ex.pts,h]
theorem zJ3:∀ (x:Ex) (w:World) (F:Nat -> Prop) (ad:Option Addr) (cap:Nat),zN w F x.args ad -> x.cnt < 1000000000 →
 Calls Tryz.prog 115 #[exV x ad cap] w fun e w'=>e=.returned (.int .i64 x.pts) /\ Keeps zA w w':=by
 refine Ex.ind (fun k num nm l ih w F ad cap h hb=>?_)
 have HL:Hid (zN w F l ad):=h;have IH:=yB ih;have hl:=Ex.zAp l;have hcn:Ex.cnt (.mk k num nm l)=1+Ex.zW l:=by simp [Ex.cnt]
 have hp:=Ex.zHG l;rw [hcn] at hb;have HB:Hid (Ex.zW l < 1000000000):=by show _ < _;omega
 clear h ih hcn;obtain ⟨tot,ht⟩:=eX (Ex.zF9 l);have HT:=yB ht;rw [<- ht] at hp;have htot:tot < 1000000000:=by omega
 have hll:l.length < 1000000000:=by omega
 clear hl hb hp;obtain ⟨r,hr⟩:=eX (Ex.pts (.mk k num nm l));rw [<- hr];have HR:Hid ((k=0 -> r=0) /\ (¬ k=0 -> r=1+tot)):=⟨fun e=>by rw [hr,e,zNF],fun e=>by rw [hr,zOR e,HT.out]⟩;clear ht hr;show Calls _ _ #[.agg #[.int .i64 k, .int .i64 num, .string nm, .slice ad l.length cap]] _ _
 go_enter Tryz.func115,Tryz.ntmps115
 go_upto_region 1 with fail
 obtain ⟨b1,hb1⟩:=eX w.heap.size;have hr1:zC (w.alloc (.cells #[.int .i64 k, .int .i64 num, .string nm, .slice ad l.length cap] 65)) b1 [.int .i64 k, .int .i64 num, .string nm, .slice ad l.length cap]:=J186 _;have hk1:Keeps zA w (w.alloc (.cells #[.int .i64 k, .int .i64 num, .string nm, .slice ad l.length cap] 65)):=(yC _ _).alloc _;rw [<- hb1];generalize w.alloc (.cells #[.int .i64 k, .int .i64 num, .string nm, .slice ad l.length cap] 65)=w1 at hr1 hk1 ⊢;have K1:=yB hk1;have c0:=hr1.cell (k:=0) (v:=.int .i64 k) rfl;have c3:=hr1.cell (k:=3) (v:=.slice ad l.length cap) rfl;clear hr1 hk1 hb1;rcases (show k=0 \/ ¬ k=0 by omega) with hk0 | hk0
 ·obtain rfl:=HR.out.1 hk0
  subst hk0;clear HR;exact J38 _
 ·obtain rfl:=HR.out.2 hk0
  clear HR;have hkb:(k==0)=false:=by simpa using hk0
  go_upto_region 5 with fail
  clear c0 c3;go_loopw [3,12] (fun nv iv wr=>∃ i n:Nat,i <= l.length /\ nv=.int .i64 n /\ iv=.int .i64 i /\ Hid (n+Ex.zF9 (l.drop i)=1+tot) /\ Hid (Keeps zA w1 wr)) (fun _ iv _=>l.length - (intOf iv).toNat)
  case atStart=>exact ⟨0,1,yJ _,rfl,rfl,by show _=_;rw [yR,HT.out],yC _ _⟩
  case round =>
   obtain ⟨i,n,hi,rfl,rfl,HN,HK⟩:=hrel;by_cases hlt:i < l.length
   ·have i1:(0:Int) <= i:=by omega
    have i2:(i:Int) < l.length:=by omega
    have hd:=HN.out;rw [drop_at hlt,Ex.zF9] at hd;obtain ⟨g,o,a,c,e1,hg,d0,d1,d2,d3,hx⟩:=(HL.out.keeps (K1.out.zB HK.out) (fun _ _ h=>h)).at hlt;subst e1;have hcm:=yk (yM hlt);have HC:Hid (∀ W,Keeps zA wr W -> Calls Tryz.prog 115 #[.agg #[.int .i64 l[i].kind, .int .i64 l[i].num, .string l[i].nm, .slice a l[i].args.length c]] W fun e w'=>e=.returned (.int .i64 l[i].pts) /\ Keeps zA W w'):=fun W hk=>IH.out _ (yM hlt) W F a c (hx.keeps hk (fun _ _ h=>h)) (by have:=HB.out;omega)
    obtain ⟨m,hm⟩:=eX (l[i].pts);rw [<- hm] at HC hd;have HD:=yB hd;have b1:n+m < 1000000001:=by omega
    clear hx hm hd hcm;generalize l[i].kind=x0 at d0 HC;generalize l[i].num=x1 at d1 HC;generalize l[i].nm=x2 at d2 HC;generalize l[i].args.length=x3 at d3 HC;go_upto_region 7 with fail
    obtain ⟨b5,hb5⟩:=eX wr.heap.size;have hr5:zC (wr.alloc (.cells #[.int .i64 x0, .int .i64 x1, .string x2, .slice a x3 c] 65)) b5 [.int .i64 x0, .int .i64 x1, .string x2, .slice a x3 c]:=J210 _;have hk5:Keeps zA wr (wr.alloc (.cells #[.int .i64 x0, .int .i64 x1, .string x2, .slice a x3 c] 65)):=(yC _ _).alloc _;rw [<- hb5];generalize wr.alloc (.cells #[.int .i64 x0, .int .i64 x1, .string x2, .slice a x3 c] 65)=w5 at hr5 hk5 ⊢;obtain ⟨y0,y1,y2,y3⟩:=hr5.four;have K5:=yB hk5;clear hr5 hk5 hb5 d0 d1 d2 d3;go_wp2_with (go_at_call 115;refine (HC.out _ K5.out).mono ?_;rintro e w2 ⟨rfl,g1⟩;have G1:=yB g1;clear g1)
    go_roundw
    case rel=>exact ⟨i+1,n+m,by omega,by go_num,by go_num,by show _=_;have:=HD.out;omega,HK.out.zB (K5.out.zB G1.out)⟩
    case measure=>simp [intOf];omega
   ·obtain rfl:i=l.length:=by omega
    have hd:=HN.out;rw [xO] at hd;simp only [Ex.zF9] at hd;exact J47 _
end Go.Proofs.YtfokdllgnblamaaGreatDoor
