/- Layer L: texts joined. -/
import Derived.Test.YtfokdllgnblamaaGreatDoorL36
set_option linter.all false
set_option maxHeartbeats 2000000
set_option maxRecDepth 8000
namespace Go.Proofs.YtfokdllgnblamaaGreatDoor
open Go.RowKit
theorem J40 (P:Prop) (h:P:=by exact hK _ _ g1 (n1.mono (fun _ _=>trivial))):P:=h
theorem zKw (xs:List Int):∀ u ∈ ints xs,u.oneCell'=true:=by
 intro u hu
 simp only [ints,List.mem_map] at hu;obtain ⟨k,_,rfl⟩:=hu;rfl
theorem zD6 (w:World) (v:Value) (xs:List Int) (h:zl w v xs.length (ints xs)) (hb:xs.length*8 <= 140737488355328) :
 Calls Tryz.prog 32 #[v] w (zB3 3 1 w xs.length (ints xs)):=by
 obtain ⟨i0,hi0,hz0,hz1,hz2⟩:=info_parts zBs;have HS:=yA h;obtain ⟨ad,cap,rfl,hc⟩:=h
 have h0:ad=none -> xs=[]:=fun e=>by
  cases xs with
  | nil=>rfl
  | cons a r=>obtain ⟨g,o,e2,_⟩:=hc (by simp);rw [e] at e2;cases e2
 clear hc;cases ad with
 | none =>
   obtain rfl:=h0 rfl;have hnil:∀ W,(binOp .eql 22 (.slice none 0 cap) (.slice none 0 0)).run Tryz.prog W=.ok (.bool true) W:=fun W=>Lib.run_eql_slice_nil_nil W _ _ xO
   go_enter Tryz.func32,Tryz.ntmps32
   go_wp2
   go_ret
   exact ⟨none,0,rfl,xB _ _ _ _,yB _ _,fun kb e=>by exact J153 _⟩
 | some a =>
   clear h0;obtain ⟨n,hn⟩:∃ n,n=xs.length:=⟨_,rfl⟩
   have HL:Hid ((ints xs).length=n*1):=by show _=_;rw [zAq,hn,Nat.mul_one]
   rw [<- hn] at HS hb ⊢;have HB:Hid (n*8 <= 140737488355328):=hb;clear hb hn;have hnil:∀ W,(binOp .eql 22 (.slice (some a) n cap) (.slice none 0 0)).run Tryz.prog W=.ok (.bool false) W:=fun W=>Lib.run_eql_slice_some_nil W _ _ _ xO
   go_enter Tryz.func32,Tryz.ntmps32
   go_wp2_with (at_builtin;refine zH _ (by rfl) _ _ 22 (by rfl) 0 3 i0 _ 1 8 xO hi0 hz0 hz1 hz2 rfl (by decide) (.slice (some ⟨w.heap.size,0,none⟩) 0 0) 0 [] (by rfl) (World.ownsRow_lit w #[] 0 (yH _) (by unfold maxLen;omega) rfl) (.slice (some a) n cap) n (ints xs) (by rfl) (HS.out.keeps (S:=zA) ((yB _ _).alloc _) (fun _ _ h=>h)) HL.out (zKw xs) (by have:=HB.out;unfold maxLen;omega) (by have:=HB.out;omega) (yH _) ?_;intro ad' cap' w6 hout;have HO:=yA hout;clear hout)
   go_ret
   have hO:=HO.out;refine ⟨ad',cap',by simp,?_,hO.keeps ((yB _ _).alloc _) (fun k e hlt=>by simp [Value.ownBlock] at e;omega),fun kb e=>?_⟩
   ·have:=hO.1
    rw [xC,List.nil_append] at this;exact this
   ·exact J98 _
theorem zIN (w:World) (g n cap:Nat) (hn:n <= cap) (hm:cap <= maxLen) :
 Calls Tryz.prog 63 #[.slice (some ⟨g,0,none⟩) n cap] w fun e w'=>e=.returned (.slice (some ⟨g,0,none⟩) n n) /\ w'=w:=by
 have h1:(0:Int) <= n:=by omega
 have h2:(n:Int) <= cap:=by omega
 have h3:(cap:Int) <= 9223372036854775807:=by unfold maxLen at hm;omega
 go_enter Tryz.func63,Tryz.ntmps63
 go_wp2
 go_ret
 exact ⟨by simp,rfl⟩
theorem zIn (w:World) :
 Calls Tryz.prog 63 #[.slice none 0 0] w fun e w'=>e=.returned (.slice none 0 0) /\ w'=w:=by
 go_enter Tryz.func63,Tryz.ntmps63
 go_wp2
 go_ret
 exact ⟨by simp,rfl⟩
theorem zGQ (w:World) (ad:Option Addr) (n cap:Nat) (xs:List Int) (h:w.ownsRow 0 3 1 (.slice ad n cap) n (ints xs)) :
 Calls Tryz.prog 63 #[.slice ad n cap] w fun e w'=>e=.returned (.slice ad n n) /\ w'=w:=by
 rcases h.2 with ⟨e,rfl⟩ | ⟨g,cap',cur,e,_,_,h1,h2,_⟩
 ·cases e;exact zIn w
 ·cases e;exact zIN w g n cap h1 h2
def BdL:zA0 Bd:=fun w F b cs=>∃ ad cap,cs=[.int .i64 b.regs, .slice ad b.acts.length cap] /\ zAs w F b.acts (.slice ad b.acts.length cap)
theorem zJX:zAN BdL 2:=⟨fun h hk hS=>by obtain ⟨ad,cap,e,h1⟩:=h;exact ⟨ad,cap,e,h1.keeps hk hS⟩,fun h hF=>by obtain ⟨ad,cap,e,h1⟩:=h;exact ⟨ad,cap,e,h1.mono hF⟩,fun h=>by obtain ⟨ad,cap,e,_⟩:=h;rw [e];rfl⟩
theorem Acc.zO4 {w:World} {B n cap:Nat} {ty:TypeId} {ad:Option Addr} {bs:List Bd} {css:List (List Value)} (h:Acc BdL (fun _=>False) B 2 ty w (.slice ad n cap) bs css):zBW w (Since B w) bs ad:=by
 obtain ⟨h1,h2⟩:=h.elems zJX (ad:=ad) (n:=n) (cap:=cap) rfl;have hm:∀ k,(False \/ (B <= k /\ k < w.heap.size)) -> Since B w k:=fun k hk=>hk.elim False.elim (fun h=>h)
 intro i hi
 obtain ⟨g,o,e,hg,hl,hc⟩:=h1 i hi;obtain ⟨ba,bc,hR',hs⟩:=h2 i bs[i] (yJ hi);have hc0:=hc 0 (.int .i64 bs[i].regs) (by show (css.getD i [])[_]?=_;rw [hR'];rfl);have hc1:=hc 1 (.slice ba bs[i].acts.length bc) (by show (css.getD i [])[_]?=_;rw [hR'];rfl);refine ⟨g,o,_,e,hm g hg,hc0,?_,hs.mono hm⟩
 rw [uD];exact hc1
def zHY (T:zS) (id:Nat) (t:WTg) (v:Value):zS:=match v.ownBlock with
 | some g=>zCn T id t g
 | none=>T
theorem zHR {T:zS} {id:Nat} {t:WTg} {v:Value} {w:World} (h:∀ g,v.ownBlock=some g -> T g=none /\ w.heap.size <= g):zAQ T (zHY T id t v) id w:=by
 unfold zHY;cases e:v.ownBlock with
 | none=>exact vP T id w
 | some g=>exact zCa (.inr (h g e))
theorem zIB {T:zS} {id:Nat} {t:WTg} {v:Value} {g:Nat} (h:v.ownBlock=some g):zHY T id t v g=some (id,t):=by
 unfold zHY;rw [h];exact zCt _ _ _ _
theorem zJa {T:zS} {id:Nat} {t:WTg} {v:Value} {k:Nat} (h:v.ownBlock ≠ some k):zHY T id t v k=T k:=by
 unfold zHY;cases e:v.ownBlock with
 | none=>rfl
 | some g =>
   show zCn T id t g k=T k
   unfold zCn;rw [if_neg (fun q=>h (by rw [e,q]))]
theorem zI6 {T:zS} {id:Nat} {t:WTg} {g k:Nat} (h:k ≠ g):zCn T id t g k=T k:=if_neg h
def zDV:HTh:=⟨1, .slice none 0 0, .slice none 0 0⟩
theorem zBN.own {w:World} {T:zS} {id:Nat} {t:WTg} {ad:Option Addr} {cap:Nat} {xs:List Int} {e:TypeId} (h:w.ownsRow 0 e 1 (.slice ad xs.length cap) xs.length (ints xs)) (hT:∀ g,(Value.slice ad xs.length cap).ownBlock=some g -> T g=some (id,t)):zBN w T id t (.slice ad xs.length cap) xs :=
 zBN.of h hT ⟨_,_,rfl⟩
theorem MaP.make {R:zA0 zx} {sz:Nat} {ty:TypeId} {B:zCY} {w W:World} {T:zS} {F:Nat -> Prop} {id bm:Nat} {u:Un} {p:zBE} {m:ze} {n:Nat} {ei:TypeId} (hT:∀ k x,T k=some x -> k < w.heap.size) (hw:w.heap.size <= W.heap.size)
 (hrow:zC W bm (p.row u.threads.length m.cells.length m.owners.length m.zL.length)) (hm:m.zL=List.replicate n ⟨1,[],[]⟩)
 (hc:W.ownsRow 0 ei 1 (.slice p.cad m.cells.length p.ccap) m.cells.length (ints m.cells)) (ho:W.ownsRow 0 ei 1 (.slice p.oad m.owners.length p.ocap) m.owners.length (ints m.owners))
 (ht:zC W p.gt (zAP (List.replicate n zDV))) (hb:B W F u.threads p.ut) (hF:∀ k,F k -> w.heap.size <= k /\ k < W.heap.size /\ k ≠ bm /\ k ≠ p.gt /\ (Value.slice p.cad m.cells.length p.ccap).ownBlock ≠ some k /\ (Value.slice p.oad m.owners.length p.ocap).ownBlock ≠ some k)
 (l1:w.heap.size <= bm) (l2:w.heap.size <= p.gt) (l3:∀ g,(Value.slice p.cad m.cells.length p.ccap).ownBlock=some g -> w.heap.size <= g /\ g ≠ bm /\ g ≠ p.gt) (l4:∀ g,(Value.slice p.oad m.owners.length p.ocap).ownBlock=some g -> w.heap.size <= g /\ g ≠ bm /\ g ≠ p.gt /\ (Value.slice p.cad m.cells.length p.ccap).ownBlock ≠ some g)
 (l5:bm ≠ p.gt) (l6:bm < W.heap.size) (l7:p.gt < W.heap.size):∃ T',MaP R sz ty B W T' F id bm u p m (List.replicate n zDV) /\ zAQ T T' id w:=by
 have hn:∀ k,w.heap.size <= k -> T k=none:=fun k hk=>by
  cases e:T k with
  | none=>rfl
  | some x=>have:=hT k x e;omega
 obtain ⟨cv,hcv⟩:∃ z,z=Value.slice p.cad m.cells.length p.ccap:=⟨_,rfl⟩
 obtain ⟨ov,hov⟩:∃ z,z=Value.slice p.oad m.owners.length p.ocap:=⟨_,rfl⟩
 rw [<- hcv] at hc l3 l4 hF;rw [<- hov] at ho l4 hF;obtain ⟨T1,h1⟩:∃ T1,T1=zCn T id .mach bm:=⟨_,rfl⟩
 obtain ⟨T2,h2⟩:∃ T2,T2=zCn T1 id .zL p.gt:=⟨_,rfl⟩
 obtain ⟨T3,h3⟩:∃ T3,T3=zHY T2 id .cells cv:=⟨_,rfl⟩
 obtain ⟨T4,h4⟩:∃ T4,T4=zHY T3 id .owners ov:=⟨_,rfl⟩
 have e1:∀ k,k ≠ bm -> T1 k=T k:=fun k hk=>by rw [h1];exact zI6 hk
 have e2:∀ k,k ≠ p.gt -> T2 k=T1 k:=fun k hk=>by rw [h2];exact zI6 hk
 have e3:∀ k,cv.ownBlock ≠ some k -> T3 k=T2 k:=fun k hk=>by rw [h3];exact zJa hk
 have e4:∀ k,ov.ownBlock ≠ some k -> T4 k=T3 k:=fun k hk=>by rw [h4];exact zJa hk
 have x1:zAQ T T1 id w:=by rw [h1];exact zCa (.inr ⟨hn bm l1,l1⟩)
 have x2:zAQ T1 T2 id w:=by rw [h2];exact zCa (.inr ⟨by rw [e1 _ (fun e=>l5 e.symm)];exact hn _ l2,l2⟩)
 have x3:zAQ T2 T3 id w:=by rw [h3];exact zHR (fun g hg=>by obtain ⟨a,b,c⟩:=l3 g hg;exact ⟨by rw [e2 g c,e1 g b];exact hn g a,a⟩)
 have x4:zAQ T3 T4 id w:=by rw [h4];exact zHR (fun g hg=>by obtain ⟨a,b,c,d⟩:=l4 g hg;exact ⟨by rw [e3 g d,e2 g c,e1 g b];exact hn g a,a⟩)
 have hx:zAQ T T4 id w:=((x1.trans x2 (yV _)).trans x3 (yV _)).trans x4 (yV _);have t1:T4 bm=some (id, .mach):=x4.1 _ _ (x3.1 _ _ (x2.1 _ _ (by rw [h1];exact zCt _ _ _ _)));have t2:T4 p.gt=some (id, .zL):=x4.1 _ _ (x3.1 _ _ (by rw [h2];exact zCt _ _ _ _));have t3:∀ g,cv.ownBlock=some g -> T4 g=some (id, .cells):=fun g hg=>x4.1 _ _ (by rw [h3];exact zIB hg)
 have t4:∀ g,ov.ownBlock=some g -> T4 g=some (id, .owners):=fun g hg=>by rw [h4];exact zIB hg
 have hsep:zFL W T4 F:=by
  refine ⟨fun k x e=>?_,fun k hk=>?_,fun k hk=>(hF k hk).2.1⟩
  ·by_cases c4:ov.ownBlock=some k
   ·exact zM ho c4
   ·rw [e4 k c4] at e
    by_cases c3:cv.ownBlock=some k
    ·exact zM hc c3
    ·rw [e3 k c3] at e
     by_cases c2:k=p.gt
     ·rw [c2];exact l7
     ·rw [e2 k c2] at e
      by_cases c1:k=bm
      ·rw [c1];exact l6
      ·rw [e1 k c1] at e
       exact yI (hT k x e) hw
  ·obtain ⟨a,_,b,c,d,f⟩:=hF k hk
   rw [e4 k f,e3 k d,e2 k c,e1 k b];exact hn k a
 refine ⟨T4,⟨t1,hrow,?_,?_,⟨t2,hsep,ht,by rw [hm];simp,fun i h t a b=>?_⟩,hb⟩,hx⟩
 ·rw [hcv] at hc t3
  exact zBN.own hc t3
 ·rw [hov] at ho t4
  exact zBN.own ho t4
 ·rw [hm] at b
  obtain ⟨_,rfl⟩:=kU.1 (List.mem_of_getElem? b);obtain ⟨_,rfl⟩:=kU.1 (List.mem_of_getElem? a);exact ⟨rfl,⟨none,0,rfl,fun h=>absurd rfl h⟩,[],rfl,xB _ _ _ _,fun kb e=>by simp [zDV,Value.ownBlock] at e,⟨none,0,rfl⟩,fun j f cs e=>by simp at e⟩
structure Cnt (w:World) (q:Nat) (s v:Value):Prop where
 row:zC w q [s,v]
 no:∀ (o:Nat) (k:Int),w.cell? ⟨q,o,none⟩ ≠ some (.int .i64 k)
theorem Cnt.keeps {S:Nat -> Prop} {w w':World} {q:Nat} {s v:Value} (h:Cnt w q s v) (hk:Keeps S w w') (hq:¬ S q):Cnt w' q s v :=
 ⟨h.row.keeps hk hq,fun o k e=>h.no o k (by rw [World.cell?_of_block (a:=⟨q,o,none⟩) (hk.block q (h.row.lt (by simp)) hq)] at e;exact e)⟩
theorem Cnt.zG {w w':World} {q:Nat} {s v:Value} (h:Cnt w q s v) (hk:Keeps zA w w'):Cnt w' q s v:=h.keeps hk (fun h=>h)
theorem Cnt.zD {w:World} {q l1 c1 l2 c2:Nat} {a1 a2:Option Addr} {t:TypeId} (h:w.heap[q]?=some (.cells #[.slice a1 l1 c1, .slice a2 l2 c2] t (0,0))):Cnt w q (.slice a1 l1 c1) (.slice a2 l2 c2):=by
 refine ⟨yM h,fun o k e=>?_⟩
 rw [cell_of_row w q o _ t (0,0) h] at e;rcases o with _ | _ | o
 ·cases e
 ·cases e
 ·simp at e
theorem Cnt.set0 {w:World} {q l1 c1:Nat} {a1:Option Addr} {s v:Value} (h:Cnt w q s v):Cnt (w.setCell ⟨q,0,none⟩ (.slice a1 l1 c1)) q (.slice a1 l1 c1) v:=by
 refine ⟨h.row.set 0 (by simp) _,fun o k e=>?_⟩
 by_cases ho:o=0
 ·subst ho
  rw [kH w ⟨q,0,none⟩ _ (h.row.cell (k:=0) rfl)] at e;cases e
 ·rw [vE w ⟨q,0,none⟩ ⟨q,o,none⟩ _ (by simp <;> omega)] at e
  exact h.no o k e
theorem Cnt.set1 {w:World} {q l1 c1:Nat} {a1:Option Addr} {s v:Value} (h:Cnt w q s v):Cnt (w.setCell ⟨q,1,none⟩ (.slice a1 l1 c1)) q s (.slice a1 l1 c1):=by
 refine ⟨h.row.set 1 (by simp) _,fun o k e=>?_⟩
 by_cases ho:o=1
 ·subst ho
  rw [kH w ⟨q,1,none⟩ _ (h.row.cell (k:=1) rfl)] at e;cases e
 ·rw [vE w ⟨q,1,none⟩ ⟨q,o,none⟩ _ (by simp <;> omega)] at e
  exact h.no o k e
theorem Cnt.put {w:World} {q l1 c1 l2 c2:Nat} {a1 a2:Option Addr} {s v:Value} (h:Cnt w q s v):Cnt ((w.setCell ⟨q,0,none⟩ (.slice a1 l1 c1)).setCell ⟨q,1,none⟩ (.slice a2 l2 c2)) q (.slice a1 l1 c1) (.slice a2 l2 c2) /\ Keeps (fun k=>k=q) w ((w.setCell ⟨q,0,none⟩ (.slice a1 l1 c1)).setCell ⟨q,1,none⟩ (.slice a2 l2 c2)) :=
 ⟨h.set0.set1,((yB (fun k=>k=q) w).setCell (p:=⟨q,0,none⟩) (fun _=>rfl) _).setCell (p:=⟨q,1,none⟩) (fun _=>rfl) _⟩
theorem zN.stored {w w':World} {b n q:Nat} {v s u:Value} (h:zN w (fun _=>True) b n v) (hr:Cnt w q s u) (hk:Keeps (fun k=>k=q) w w'):zN w' (fun _=>True) b n v:=by
 obtain ⟨ad,cap,e,h1⟩:=h;refine ⟨ad,cap,e,fun i hi=>?_⟩
 obtain ⟨g,o,e,hg,hcell⟩:=h1 i hi;refine ⟨g,o,e,trivial,hk.cell (p:=⟨g,_,none⟩) (fun hgq=>?_) hcell⟩
 have hgq':g=q:=hgq;subst hgq';exact hr.no _ _ hcell
theorem zBY (x y xx yy:Nat) (w:World) (s v u1 u2:Value) (hs:zN w (fun _=>True) 1000000000 x s) (hv:zN w (fun _=>True) 1000000000 y v) (h1:zN w (fun _=>True) 1000000000 xx u1) (h2:zN w (fun _=>True) 1000000000 yy u2)
 (lx:(zn 1000000000 x).length <= 100000000000) (ly:(zn 1000000000 y).length <= 100000000000) (lxx:(zn 1000000000 xx).length <= 100000000000) (lyy:(zn 1000000000 yy).length <= 100000000000) :
 Calls Tryz.prog 97 #[.agg #[s,v],u1,u2] w fun e w'=>∃ z1 z2,e=.returned (.agg #[z1,z2]) /\ zN w' (fun _=>True) 1000000000 (x+xx) z1 /\ zN w' (fun _=>True) 1000000000 (y+yy) z2 /\ Keeps zA w w':=by
 have HP1:Hid (∀ W,Keeps zA w W -> Calls Tryz.prog 117 #[s,u1] W fun e w'=>∃ z,e=.returned z /\ zN w' (Since W.heap.size w') 1000000000 (x+xx) z /\ Keeps zA W w'):=fun W hk=>plusV (hs.zG hk) (h1.zG hk) lx lxx
 have HP2:Hid (∀ W,Keeps zA w W -> Calls Tryz.prog 117 #[v,u2] W fun e w'=>∃ z,e=.returned z /\ zN w' (Since W.heap.size w') 1000000000 (y+yy) z /\ Keeps zA W w'):=fun W hk=>plusV (hv.zG hk) (h2.zG hk) ly lyy
 obtain ⟨sa,sc,rfl,_⟩:=hs;obtain ⟨wa,wc,rfl,_⟩:=hv;generalize (zn 1000000000 x).length=n at HP1;generalize (zn 1000000000 y).length=m at HP2;clear h1 h2 lx ly lxx lyy;obtain ⟨Q,hQ⟩:∃ Q:Ending -> World -> Prop,Q=fun e w'=>∃ z1 z2,e=.returned (.agg #[z1,z2]) /\ zN w' (fun _=>True) 1000000000 (x+xx) z1 /\ zN w' (fun _=>True) 1000000000 (y+yy) z2 /\ Keeps zA w w':=⟨_,rfl⟩
 have HQ:=yA hQ;rw [<- hQ];clear hQ;go_enter Tryz.func97,Tryz.ntmps97
 go_upto_region 1 with fail
 obtain ⟨b3,hb3⟩:∃ z,z=w.heap.size:=⟨_,rfl⟩
 obtain ⟨b6,hb6⟩:∃ z,z=w.heap.size+1:=⟨_,rfl⟩
 rw [<- hb6,<- hb3];obtain ⟨wA,hwA⟩:∃ z,z=w.alloc (.cells #[.slice sa n sc, .slice wa m wc] 130):=⟨_,rfl⟩
 obtain ⟨w1,hw1⟩:∃ z,z=wA.alloc (.cells #[.slice none 0 0, .slice none 0 0] 130):=⟨_,rfl⟩
 rw [<- hwA,<- hw1];have kA:Keeps zA w wA:=J174 _;have k1:Keeps zA wA w1:=J185 _;have sA:wA.heap.size=w.heap.size+1:=by rw [hwA];simp
 have r3:zC wA b3 [.slice sa n sc, .slice wa m wc]:=by rw [hb3,hwA];exact yM (yG w _)
 have r6:Cnt w1 b6 (.slice none 0 0) (.slice none 0 0):=by rw [hb6,<- sA,hw1];exact Cnt.zD (yG wA _)
 have R3:Hid (zC w1 b3 [.slice sa n sc, .slice wa m wc]):=r3.keeps k1 (fun h=>h);have R6:=yA r6;have K1:Hid (Keeps zA w w1):=kA.zB k1;have HS:Hid (w.heap.size <= b6):=by show _ <= _;omega
 clear hwA hw1 kA k1 sA r3 r6 hb3 hb6
 refine zP 9 (by kernel_rfl) (by kernel_rfl) (Keeps zA) (yB zA) (fun a b c h h'=>xD h h') (zAp [some (.pointer (some ⟨b3,0,none⟩)),some (.slice sa n sc),some u1,none,some (.pointer (some ⟨b3,1,none⟩)),some (.slice wa m wc),some u2] (fun j v W=>match j with
  | 3=>zN W (fun _=>True) 1000000000 (x+xx) v
  | 7=>zN W (fun _=>True) 1000000000 (y+yy) v
  | _=>∃ z1 z2,v=.agg #[z1,z2] /\ zN W (fun _=>True) 1000000000 (x+xx) z1 /\ zN W (fun _=>True) 1000000000 (y+yy) z2)) (vO (fun j v W W' h hk=>by
    revert h
    split
    ·exact fun h=>h.zG hk
    ·exact fun h=>h.zG hk
    ·rintro ⟨z1,z2,e,h1,h2⟩;exact ⟨z1,z2,e,h1.zG hk,h2.zG hk⟩)) ?_ ?_
 ·intro q oo hq ho vs W Q' hR0 hd hK
  have hR:Keeps zA w1 W:=((yB zA w1).drew).zB hR0;obtain ⟨y30,y31⟩:=(R3.out.keeps hR (fun h=>h)).two;have HKW:Hid (Keeps zA w W):=K1.out.zB hR;clear hR hR0;rcases (show q=0 \/ q=1 \/ q=2 \/ q=3 \/ q=4 \/ q=5 \/ q=6 \/ q=7 \/ q=8 by omega) with rfl | rfl | rfl | rfl | rfl | rfl | rfl | rfl | rfl
  all_goals (simp only [yC,yD,yP] at ho;subst ho;simp only [zJ,yC,yD,yN,Option.bind,Act.put,yE,yK,yF] at hK ⊢;clear hq)
  ·exact J3 _
  ·exact J115 _
  ·exact J3 _
  ·have e1:vs 1=_:=hd 1 (by kernel_rfl)
   have e2:vs 2=_:=hd 2 (by kernel_rfl);rw [e1,e2] at hK ⊢;clear hd;go_wp2_with (go_at_call 117;refine (HP1.out W HKW.out).mono ?_;rintro e W1 ⟨z1,rfl,n1,g1⟩)
   exact J40 _
  ·exact J3 _
  ·exact J119 _
  ·exact J3 _
  ·have e5:vs 5=_:=hd 5 (by kernel_rfl)
   have e6:vs 6=_:=hd 6 (by kernel_rfl);rw [e5,e6] at hK ⊢;clear hd;go_wp2_with (go_at_call 117;refine (HP2.out W HKW.out).mono ?_;rintro e W1 ⟨z1,rfl,n1,g1⟩)
   exact J40 _
  ·obtain ⟨za,zc,e3,h3⟩:=(hd 3 (by kernel_rfl):zN W (fun _=>True) 1000000000 (x+xx) (vs 3))
   have H3:=yA h3;obtain ⟨ta,tc,e7,h7⟩:=(hd 7 (by kernel_rfl):zN W (fun _=>True) 1000000000 (y+yy) (vs 7));have H7:=yA h7;rw [e3,e7] at hK ⊢;clear h3 h7;clear hd;go_wp2_with fail
   exact hK _ _ (yB _ _) ⟨_,_,rfl,⟨za,zc,rfl,H3.out⟩,⟨ta,tc,rfl,H7.out⟩⟩
 ·intro vs W hR0 hF
  have hR:Keeps zA w1 W:=((yB zA w1).drew).zB hR0;obtain ⟨z1,z2,e8,n1,n2⟩:=(hF 8 (by decide):∃ z1 z2,vs 8=.agg #[z1,z2] /\ zN W (fun _=>True) 1000000000 (x+xx) z1 /\ zN W (fun _=>True) 1000000000 (y+yy) z2);have N1:=yA n1;have N2:=yA n2;obtain ⟨za,zc,rfl,_⟩:=n1;obtain ⟨ta,tc,rfl,_⟩:=n2;simp only [zJ,yC,yD,yN,Option.bind,Act.put,yE,yK,yF,yT,yQ];rw [e8];clear hF e8;generalize vs 0=y0;generalize vs 1=y1;generalize vs 2=y2;generalize vs 3=y3;generalize vs 4=y4;generalize vs 5=y5;generalize vs 6=y6;generalize vs 7=y7;have R6W:Hid (Cnt W b6 (.slice none 0 0) (.slice none 0 0)):=R6.out.zG hR;have KW:Hid (Keeps zA w W):=K1.out.zB hR;clear hR hR0 R3 R6;generalize (zn 1000000000 (x+xx)).length=p at N1 ⊢;generalize (zn 1000000000 (y+yy)).length=p2 at N2 ⊢;obtain ⟨z0,z1⟩:=R6W.out.row.two;have f0:=R6W.out.row.free (k:=0) (by simp);have f1:=R6W.out.row.free (k:=1) (by simp);go_wp2_with fail
  obtain ⟨hrow,hks⟩:=R6W.out.put (a1:=za) (l1:=p) (c1:=zc) (a2:=ta) (l2:=p2) (c2:=tc);generalize (W.setCell ⟨b6,0,none⟩ (.slice za p zc)).setCell ⟨b6,1,none⟩ (.slice ta p2 tc)=wE at hrow hks ⊢;refine xM (v:=.agg #[.slice za p zc, .slice ta p2 tc]) (by simp [results,Tryz.results97,go_sem,hrow.row.cell (k:=0) rfl,hrow.row.cell (k:=1) rfl]) rfl ?_
  rw [HQ.out];exact ⟨_,_,rfl,N1.out.stored R6W.out hks,N2.out.stored R6W.out hks,KW.out.trans hks (fun q hq e=>by have e':q=b6:=e;have:=HS.out;omega)⟩
theorem zM5 (num:Int) (nm:ByteArray) (l:List Ex):Ex.pts (.mk 0 num nm l)=0:=by simp [Ex.pts]
theorem zNh {k:Int} (h:¬ k=0) (num:Int) (nm:ByteArray) (l:List Ex):Ex.pts (.mk k num nm l)=1+Ex.zFz l:=by simp [Ex.pts,h]
theorem zKK:∀ (x:Ex) (w:World) (F:Nat -> Prop) (ad:Option Addr) (cap:Nat),zQ w F x.args ad -> x.cnt < 1000000000 →
 Calls Tryz.prog 115 #[exV x ad cap] w fun e w'=>e=.returned (.int .i64 x.pts) /\ Keeps zA w w':=by
 refine Ex.ind (fun k num nm l ih w F ad cap h hb=>?_)
 have HL:Hid (zQ w F l ad):=h;have IH:=yA ih;have hl:=Ex.zAg l;have hcn:Ex.cnt (.mk k num nm l)=1+Ex.zY l:=by simp [Ex.cnt]
 have hp:=Ex.zGr l;rw [hcn] at hb;have HB:Hid (Ex.zY l < 1000000000):=by show _ < _;omega
 clear h ih hcn;obtain ⟨tot,ht⟩:∃ t,t=Ex.zFz l:=⟨_,rfl⟩
 have HT:=yA ht;rw [<- ht] at hp;have htot:tot < 1000000000:=by omega
 have hll:l.length < 1000000000:=by omega
 clear hl hb hp;obtain ⟨r,hr⟩:∃ r,r=Ex.pts (.mk k num nm l):=⟨_,rfl⟩
 rw [<- hr];have HR:Hid ((k=0 -> r=0) /\ (¬ k=0 -> r=1+tot)):=⟨fun e=>by rw [hr,e,zM5],fun e=>by rw [hr,zNh e,HT.out]⟩;clear ht hr;show Calls _ _ #[.agg #[.int .i64 k, .int .i64 num, .string nm, .slice ad l.length cap]] _ _
 go_enter Tryz.func115,Tryz.ntmps115
 go_upto_region 1 with fail
 obtain ⟨b1,hb1⟩:∃ z,z=w.heap.size:=⟨_,rfl⟩
 have hr1:zC (w.alloc (.cells #[.int .i64 k, .int .i64 num, .string nm, .slice ad l.length cap] 65)) b1 [.int .i64 k, .int .i64 num, .string nm, .slice ad l.length cap]:=J151 _;have hk1:Keeps zA w (w.alloc (.cells #[.int .i64 k, .int .i64 num, .string nm, .slice ad l.length cap] 65)):=(yB _ _).alloc _;rw [<- hb1];generalize w.alloc (.cells #[.int .i64 k, .int .i64 num, .string nm, .slice ad l.length cap] 65)=w1 at hr1 hk1 ⊢;have K1:=yA hk1;have c0:=hr1.cell (k:=0) (v:=.int .i64 k) rfl;have c3:=hr1.cell (k:=3) (v:=.slice ad l.length cap) rfl;clear hr1 hk1 hb1;rcases (show k=0 \/ ¬ k=0 by omega) with hk0 | hk0
 ·obtain rfl:=HR.out.1 hk0
  subst hk0;clear HR;exact J32 _
 ·obtain rfl:=HR.out.2 hk0
  clear HR;have hkb:(k==0)=false:=by simpa using hk0
  go_upto_region 5 with fail
  clear c0 c3;go_loopw [3,12] (fun nv iv wr=>∃ i n:Nat,i <= l.length /\ nv=.int .i64 n /\ iv=.int .i64 i /\ Hid (n+Ex.zFz (l.drop i)=1+tot) /\ Hid (Keeps zA w1 wr)) (fun _ iv _=>l.length - (intOf iv).toNat)
  case atStart=>exact ⟨0,1,yH _,rfl,rfl,by show _=_;rw [yQ,HT.out],yB _ _⟩
  case round =>
   obtain ⟨i,n,hi,rfl,rfl,HN,HK⟩:=hrel;by_cases hlt:i < l.length
   ·have i1:(0:Int) <= i:=by omega
    have i2:(i:Int) < l.length:=by omega
    have hd:=HN.out;rw [drop_at hlt,Ex.zFz] at hd;obtain ⟨g,o,a,c,e1,hg,d0,d1,d2,d3,hx⟩:=(HL.out.keeps (K1.out.zB HK.out) (fun _ _ h=>h)).at hlt;subst e1;have hcm:=Ex.zB6 (yL hlt);have HC:Hid (∀ W,Keeps zA wr W -> Calls Tryz.prog 115 #[.agg #[.int .i64 l[i].kind, .int .i64 l[i].num, .string l[i].nm, .slice a l[i].args.length c]] W fun e w'=>e=.returned (.int .i64 l[i].pts) /\ Keeps zA W w'):=fun W hk=>IH.out _ (yL hlt) W F a c (hx.keeps hk (fun _ _ h=>h)) (by have:=HB.out;omega)
    obtain ⟨m,hm⟩:∃ m,m=l[i].pts:=⟨_,rfl⟩
    rw [<- hm] at HC hd;have HD:=yA hd;have b1:n+m < 1000000001:=by omega
    clear hx hm hd hcm;generalize l[i].kind=x0 at d0 HC;generalize l[i].num=x1 at d1 HC;generalize l[i].nm=x2 at d2 HC;generalize l[i].args.length=x3 at d3 HC;go_upto_region 7 with fail
    obtain ⟨b5,hb5⟩:∃ z,z=wr.heap.size:=⟨_,rfl⟩
    have hr5:zC (wr.alloc (.cells #[.int .i64 x0, .int .i64 x1, .string x2, .slice a x3 c] 65)) b5 [.int .i64 x0, .int .i64 x1, .string x2, .slice a x3 c]:=J177 _;have hk5:Keeps zA wr (wr.alloc (.cells #[.int .i64 x0, .int .i64 x1, .string x2, .slice a x3 c] 65)):=(yB _ _).alloc _;rw [<- hb5];generalize wr.alloc (.cells #[.int .i64 x0, .int .i64 x1, .string x2, .slice a x3 c] 65)=w5 at hr5 hk5 ⊢;obtain ⟨y0,y1,y2,y3⟩:=hr5.four;have K5:=yA hk5;clear hr5 hk5 hb5 d0 d1 d2 d3;go_wp2_with (go_at_call 115;refine (HC.out _ K5.out).mono ?_;rintro e w2 ⟨rfl,g1⟩;have G1:=yA g1;clear g1)
    go_roundw
    case rel=>exact ⟨i+1,n+m,by omega,by go_num,by go_num,by show _=_;have:=HD.out;omega,HK.out.zB (K5.out.zB G1.out)⟩
    case measure=>simp [intOf];omega
   ·obtain rfl:i=l.length:=by omega
    have hd:=HN.out;rw [xI] at hd;simp only [Ex.zFz] at hd;exact J38 _
end Go.Proofs.YtfokdllgnblamaaGreatDoor
