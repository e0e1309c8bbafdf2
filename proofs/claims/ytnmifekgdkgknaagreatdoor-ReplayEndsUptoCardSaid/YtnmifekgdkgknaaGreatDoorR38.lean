/- Layer R: texts joined. -/
import Derived.Test.YtnmifekgdkgknaaGreatDoorR29
import Derived.Test.YtnmifekgdkgknaaGreatDoorR13
import Derived.Test.YtnmifekgdkgknaaGreatDoorR15
import Derived.Lib.BufferMore
import Derived.Test.YtnmifekgdkgknaaGreatDoorR36
import Derived.Test.YtnmifekgdkgknaaGreatDoorR37
import Derived.Test.YtnmifekgdkgknaaGreatDoorR28
import Derived.Test.YtnmifekgdkgknaaGreatDoorR02
import Derived.Test.YtnmifekgdkgknaaGreatDoorR21
set_option linter.unusedVariables false
set_option linter.unusedSimpArgs false
set_option linter.unnecessarySimpa false
namespace Go.Proofs.YtnmifekgdkgknaaGreatDoor
open Go.RowKit
theorem ints_one (xs:List Int):∀ u ∈ ints xs,u.oneCell'=true:=by
 intro u hu
 simp only [ints,List.mem_map] at hu;obtain ⟨k,_,rfl⟩:=hu;rfl
set_option maxRecDepth 8000 in
set_option maxHeartbeats 1000000 in
theorem clone_ints (w:World) (v:Value) (xs:List Int) (h:SrcAt w v xs.length (ints xs)) (hb:xs.length*8 <= 140737488355328) :
 Calls Tryz.prog 41 #[v] w (NewRow 3 1 w xs.length (ints xs)):=by
 obtain ⟨i0,hi0,hz0,hz1,hz2⟩:=info_parts infoInt;have HS:=Lib.hid h;obtain ⟨ad,cap,rfl,hc⟩:=h
 have h0:ad=none -> xs=[]:=fun e=>by
  cases xs with
  | nil=>rfl
  | cons a r=>obtain ⟨g,o,e2,_⟩:=hc (by simp);rw [e] at e2;cases e2
 clear hc;cases ad with
 | none =>
   obtain rfl:=h0 rfl;have hnil:∀ W,(binOp .eql 22 (.slice none 0 cap) (.slice none 0 0)).run Tryz.prog W=.ok (.bool true) W:=fun W=>Lib.run_eql_slice_nil_nil W _ _ Tryz.underlying22
   go_enter Tryz.func41,Tryz.ntmps41
   go_wp2
   go_ret
   exact ⟨none,0,rfl,World.ownsRow_nil _ _ _ _,Keeps.refl _ _,fun kb e=>by simp [Value.ownBlock] at e⟩
 | some a =>
   clear h0;obtain ⟨n,hn⟩:∃ n,n=xs.length:=⟨_,rfl⟩
   have HL:Hid ((ints xs).length=n*1):=by show _=_;rw [ints_len,hn,Nat.mul_one]
   rw [<- hn] at HS hb ⊢;have HB:Hid (n*8 <= 140737488355328):=hb;clear hb hn;have hnil:∀ W,(binOp .eql 22 (.slice (some a) n cap) (.slice none 0 0)).run Tryz.prog W=.ok (.bool false) W:=fun W=>Lib.run_eql_slice_some_nil W _ _ _ Tryz.underlying22
   go_enter Tryz.func41,Tryz.ntmps41
   go_wp2_with (at_builtin;refine wpList_append_src _ (by rfl) _ _ 22 (by rfl) 0 3 i0 _ 1 8 Tryz.underlying22 hi0 hz0 hz1 hz2 rfl (by decide) (.slice (some ⟨w.heap.size,0,none⟩) 0 0) 0 [] (by rfl) (World.ownsRow_lit w #[] 0 (Nat.zero_le _) (by unfold maxLen;omega) rfl) (.slice (some a) n cap) n (ints xs) (by rfl) (HS.out.keeps (S:=NoBlk) ((Keeps.refl _ _).alloc _) (fun _ _ h=>h)) HL.out (ints_one xs) (by have:=HB.out;unfold maxLen;omega) (by have:=HB.out;omega) (Nat.zero_le _) ?_;intro ad' cap' w6 hout;have HO:=Lib.hid hout;clear hout)
   go_ret
   have hO:=HO.out;refine ⟨ad',cap',by simp,?_,hO.keeps ((Keeps.refl _ _).alloc _) (fun k e hlt=>by simp [Value.ownBlock] at e;omega),fun kb e=>?_⟩
   ·have:=hO.1
    rw [Nat.zero_add,List.nil_append] at this;exact this
   ·rcases hO.2.2 kb (by rw [Nat.zero_add];exact e) with h1 | h1
    ·simp [Value.ownBlock] at h1;omega
    ·simp at h1;omega
set_option maxRecDepth 8000 in
set_option maxHeartbeats 1000000 in
theorem clipI_some (w:World) (g n cap:Nat) (hn:n <= cap) (hm:cap <= maxLen) :
 Calls Tryz.prog 63 #[.slice (some ⟨g,0,none⟩) n cap] w fun e w'=>e=.returned (.slice (some ⟨g,0,none⟩) n n) /\ w'=w:=by
 have h1:(0:Int) <= n:=by omega
 have h2:(n:Int) <= cap:=by omega
 have h3:(cap:Int) <= 9223372036854775807:=by unfold maxLen at hm;omega
 go_enter Tryz.func63,Tryz.ntmps63
 go_wp2
 go_ret
 exact ⟨by simp,rfl⟩
set_option maxRecDepth 8000 in
set_option maxHeartbeats 1000000 in
theorem clipI_none (w:World) :
 Calls Tryz.prog 63 #[.slice none 0 0] w fun e w'=>e=.returned (.slice none 0 0) /\ w'=w:=by
 go_enter Tryz.func63,Tryz.ntmps63
 go_wp2
 go_ret
 exact ⟨by simp,rfl⟩
theorem clipI_any (w:World) (ad:Option Addr) (n cap:Nat) (xs:List Int) (h:w.ownsRow 0 3 1 (.slice ad n cap) n (ints xs)) :
 Calls Tryz.prog 63 #[.slice ad n cap] w fun e w'=>e=.returned (.slice ad n n) /\ w'=w:=by
 rcases h.2 with ⟨e,rfl⟩ | ⟨g,cap',cur,e,_,_,h1,h2,_⟩
 ·cases e;exact clipI_none w
 ·cases e;exact clipI_some w g n cap h1 h2
def BdL:Lies Bd:=fun w F b cs=>∃ ad cap,cs=[.int .i64 b.regs, .slice ad b.acts.length cap] /\ AcsC w F b.acts (.slice ad b.acts.length cap)
theorem bdLOk:LiesOk BdL 2:=⟨fun h hk hS=>by obtain ⟨ad,cap,e,h1⟩:=h;exact ⟨ad,cap,e,h1.keeps hk hS⟩,fun h hF=>by obtain ⟨ad,cap,e,h1⟩:=h;exact ⟨ad,cap,e,h1.mono hF⟩,fun h=>by obtain ⟨ad,cap,e,_⟩:=h;rw [e];rfl⟩
theorem Acc.bdsC {w:World} {B n cap:Nat} {ty:TypeId} {ad:Option Addr} {bs:List Bd} {css:List (List Value)} (h:Acc BdL (fun _=>False) B 2 ty w (.slice ad n cap) bs css):BdsC w (Since B w) bs ad:=by
 obtain ⟨h1,h2⟩:=h.elems bdLOk (ad:=ad) (n:=n) (cap:=cap) rfl;have hm:∀ k,(False \/ (B <= k /\ k < w.heap.size)) -> Since B w k:=fun k hk=>hk.elim False.elim (fun h=>h)
 intro i hi
 obtain ⟨g,o,e,hg,hl,hc⟩:=h1 i hi;obtain ⟨ba,bc,hR',hs⟩:=h2 i bs[i] (List.getElem?_eq_getElem hi);have hc0:=hc 0 (.int .i64 bs[i].regs) (by show (css.getD i [])[_]?=_;rw [hR'];rfl);have hc1:=hc 1 (.slice ba bs[i].acts.length bc) (by show (css.getD i [])[_]?=_;rw [hR'];rfl);refine ⟨g,o,_,e,hm g hg,hc0,?_,hs.mono hm⟩
 rw [Nat.add_assoc];exact hc1
def tagO (T:WTags) (id:Nat) (t:WTg) (v:Value):WTags:=match v.ownBlock with
 | some g=>tagW T id t g
 | none=>T
theorem tagO_ext {T:WTags} {id:Nat} {t:WTg} {v:Value} {w:World} (h:∀ g,v.ownBlock=some g -> T g=none /\ w.heap.size <= g):WExt T (tagO T id t v) id w:=by
 unfold tagO;cases e:v.ownBlock with
 | none=>exact WExt.refl T id w
 | some g=>exact tagW_ext (.inr (h g e))
theorem tagO_own {T:WTags} {id:Nat} {t:WTg} {v:Value} {g:Nat} (h:v.ownBlock=some g):tagO T id t v g=some (id,t):=by
 unfold tagO;rw [h];exact tagW_own _ _ _ _
theorem tagO_ne {T:WTags} {id:Nat} {t:WTg} {v:Value} {k:Nat} (h:v.ownBlock ≠ some k):tagO T id t v k=T k:=by
 unfold tagO;cases e:v.ownBlock with
 | none=>rfl
 | some g =>
   show tagW T id t g k=T k
   unfold tagW;rw [if_neg (fun q=>h (by rw [e,q]))]
theorem tagW_ne {T:WTags} {id:Nat} {t:WTg} {g k:Nat} (h:k ≠ g):tagW T id t g k=T k:=if_neg h
def idleH:HTh:=⟨1, .slice none 0 0, .slice none 0 0⟩
theorem IRow.own {w:World} {T:WTags} {id:Nat} {t:WTg} {ad:Option Addr} {cap:Nat} {xs:List Int} {e:TypeId} (h:w.ownsRow 0 e 1 (.slice ad xs.length cap) xs.length (ints xs)) (hT:∀ g,(Value.slice ad xs.length cap).ownBlock=some g -> T g=some (id,t)):IRow w T id t (.slice ad xs.length cap) xs :=
 IRow.of h hT ⟨_,_,rfl⟩
theorem MaP.make {R:Lies WFr} {sz:Nat} {ty:TypeId} {B:LiesB} {w W:World} {T:WTags} {F:Nat -> Prop} {id bm:Nat} {u:Un} {p:MPar} {m:WMa} {n:Nat} {ei:TypeId} (hT:∀ k x,T k=some x -> k < w.heap.size) (hw:w.heap.size <= W.heap.size)
 (hrow:RowAt W bm (p.row u.threads.length m.cells.length m.owners.length m.ths.length)) (hm:m.ths=List.replicate n ⟨1,[],[]⟩)
 (hc:W.ownsRow 0 ei 1 (.slice p.cad m.cells.length p.ccap) m.cells.length (ints m.cells)) (ho:W.ownsRow 0 ei 1 (.slice p.oad m.owners.length p.ocap) m.owners.length (ints m.owners))
 (ht:RowAt W p.gt (thCells (List.replicate n idleH))) (hb:B W F u.threads p.ut) (hF:∀ k,F k -> w.heap.size <= k /\ k < W.heap.size /\ k ≠ bm /\ k ≠ p.gt /\ (Value.slice p.cad m.cells.length p.ccap).ownBlock ≠ some k /\ (Value.slice p.oad m.owners.length p.ocap).ownBlock ≠ some k)
 (l1:w.heap.size <= bm) (l2:w.heap.size <= p.gt) (l3:∀ g,(Value.slice p.cad m.cells.length p.ccap).ownBlock=some g -> w.heap.size <= g /\ g ≠ bm /\ g ≠ p.gt) (l4:∀ g,(Value.slice p.oad m.owners.length p.ocap).ownBlock=some g -> w.heap.size <= g /\ g ≠ bm /\ g ≠ p.gt /\ (Value.slice p.cad m.cells.length p.ccap).ownBlock ≠ some g)
 (l5:bm ≠ p.gt) (l6:bm < W.heap.size) (l7:p.gt < W.heap.size):∃ T',MaP R sz ty B W T' F id bm u p m (List.replicate n idleH) /\ WExt T T' id w:=by
 have hn:∀ k,w.heap.size <= k -> T k=none:=fun k hk=>by
  cases e:T k with
  | none=>rfl
  | some x=>have:=hT k x e;omega
 obtain ⟨cv,hcv⟩:∃ z,z=Value.slice p.cad m.cells.length p.ccap:=⟨_,rfl⟩
 obtain ⟨ov,hov⟩:∃ z,z=Value.slice p.oad m.owners.length p.ocap:=⟨_,rfl⟩
 rw [<- hcv] at hc l3 l4 hF;rw [<- hov] at ho l4 hF;obtain ⟨T1,h1⟩:∃ T1,T1=tagW T id .mach bm:=⟨_,rfl⟩
 obtain ⟨T2,h2⟩:∃ T2,T2=tagW T1 id .ths p.gt:=⟨_,rfl⟩
 obtain ⟨T3,h3⟩:∃ T3,T3=tagO T2 id .cells cv:=⟨_,rfl⟩
 obtain ⟨T4,h4⟩:∃ T4,T4=tagO T3 id .owners ov:=⟨_,rfl⟩
 have e1:∀ k,k ≠ bm -> T1 k=T k:=fun k hk=>by rw [h1];exact tagW_ne hk
 have e2:∀ k,k ≠ p.gt -> T2 k=T1 k:=fun k hk=>by rw [h2];exact tagW_ne hk
 have e3:∀ k,cv.ownBlock ≠ some k -> T3 k=T2 k:=fun k hk=>by rw [h3];exact tagO_ne hk
 have e4:∀ k,ov.ownBlock ≠ some k -> T4 k=T3 k:=fun k hk=>by rw [h4];exact tagO_ne hk
 have x1:WExt T T1 id w:=by rw [h1];exact tagW_ext (.inr ⟨hn bm l1,l1⟩)
 have x2:WExt T1 T2 id w:=by rw [h2];exact tagW_ext (.inr ⟨by rw [e1 _ (fun e=>l5 e.symm)];exact hn _ l2,l2⟩)
 have x3:WExt T2 T3 id w:=by rw [h3];exact tagO_ext (fun g hg=>by obtain ⟨a,b,c⟩:=l3 g hg;exact ⟨by rw [e2 g c,e1 g b];exact hn g a,a⟩)
 have x4:WExt T3 T4 id w:=by rw [h4];exact tagO_ext (fun g hg=>by obtain ⟨a,b,c,d⟩:=l4 g hg;exact ⟨by rw [e3 g d,e2 g c,e1 g b];exact hn g a,a⟩)
 have hx:WExt T T4 id w:=((x1.trans x2 (Nat.le_refl _)).trans x3 (Nat.le_refl _)).trans x4 (Nat.le_refl _);have t1:T4 bm=some (id, .mach):=x4.1 _ _ (x3.1 _ _ (x2.1 _ _ (by rw [h1];exact tagW_own _ _ _ _)));have t2:T4 p.gt=some (id, .ths):=x4.1 _ _ (x3.1 _ _ (by rw [h2];exact tagW_own _ _ _ _));have t3:∀ g,cv.ownBlock=some g -> T4 g=some (id, .cells):=fun g hg=>x4.1 _ _ (by rw [h3];exact tagO_own hg)
 have t4:∀ g,ov.ownBlock=some g -> T4 g=some (id, .owners):=fun g hg=>by rw [h4];exact tagO_own hg
 have hsep:WSep W T4 F:=by
  refine ⟨fun k x e=>?_,fun k hk=>?_,fun k hk=>(hF k hk).2.1⟩
  ·by_cases c4:ov.ownBlock=some k
   ·exact ownsRow_lt ho c4
   ·rw [e4 k c4] at e
    by_cases c3:cv.ownBlock=some k
    ·exact ownsRow_lt hc c3
    ·rw [e3 k c3] at e
     by_cases c2:k=p.gt
     ·rw [c2];exact l7
     ·rw [e2 k c2] at e
      by_cases c1:k=bm
      ·rw [c1];exact l6
      ·rw [e1 k c1] at e
       exact Nat.lt_of_lt_of_le (hT k x e) hw
  ·obtain ⟨a,_,b,c,d,f⟩:=hF k hk
   rw [e4 k f,e3 k d,e2 k c,e1 k b];exact hn k a
 refine ⟨T4,⟨t1,hrow,?_,?_,⟨t2,hsep,ht,by rw [hm];simp,fun i h t a b=>?_⟩,hb⟩,hx⟩
 ·rw [hcv] at hc t3
  exact IRow.own hc t3
 ·rw [hov] at ho t4
  exact IRow.own ho t4
 ·rw [hm] at b
  obtain ⟨_,rfl⟩:=List.mem_replicate.1 (List.mem_of_getElem? b);obtain ⟨_,rfl⟩:=List.mem_replicate.1 (List.mem_of_getElem? a);exact ⟨rfl,⟨none,0,rfl,fun h=>absurd rfl h⟩,[],rfl,World.ownsRow_nil _ _ _ _,fun kb e=>by simp [idleH,Value.ownBlock] at e,⟨none,0,rfl⟩,fun j f cs e=>by simp at e⟩
structure Cnt (w:World) (q:Nat) (s v:Value):Prop where
 row:RowAt w q [s,v]
 no:∀ (o:Nat) (k:Int),w.cell? ⟨q,o,none⟩ ≠ some (.int .i64 k)
theorem Cnt.keeps {S:Nat -> Prop} {w w':World} {q:Nat} {s v:Value} (h:Cnt w q s v) (hk:Keeps S w w') (hq:¬ S q):Cnt w' q s v :=
 ⟨h.row.keeps hk hq,fun o k e=>h.no o k (by rw [World.cell?_of_block (a:=⟨q,o,none⟩) (hk.block q (h.row.lt (by simp)) hq)] at e;exact e)⟩
theorem Cnt.keeps0 {w w':World} {q:Nat} {s v:Value} (h:Cnt w q s v) (hk:Keeps NoBlk w w'):Cnt w' q s v:=h.keeps hk (fun h=>h)
theorem Cnt.ofBlock {w:World} {q l1 c1 l2 c2:Nat} {a1 a2:Option Addr} {t:TypeId} (h:w.heap[q]?=some (.cells #[.slice a1 l1 c1, .slice a2 l2 c2] t (0,0))):Cnt w q (.slice a1 l1 c1) (.slice a2 l2 c2):=by
 refine ⟨RowAt.ofBlock h,fun o k e=>?_⟩
 rw [cell_of_row w q o _ t (0,0) h] at e;rcases o with _ | _ | o
 ·cases e
 ·cases e
 ·simp at e
theorem Cnt.set0 {w:World} {q l1 c1:Nat} {a1:Option Addr} {s v:Value} (h:Cnt w q s v):Cnt (w.setCell ⟨q,0,none⟩ (.slice a1 l1 c1)) q (.slice a1 l1 c1) v:=by
 refine ⟨h.row.set 0 (by simp) _,fun o k e=>?_⟩
 by_cases ho:o=0
 ·subst ho
  rw [World.cell?_setCell_same w ⟨q,0,none⟩ _ (h.row.cell (k:=0) rfl)] at e;cases e
 ·rw [World.cell?_setCell_other w ⟨q,0,none⟩ ⟨q,o,none⟩ _ (by simp <;> omega)] at e
  exact h.no o k e
theorem Cnt.set1 {w:World} {q l1 c1:Nat} {a1:Option Addr} {s v:Value} (h:Cnt w q s v):Cnt (w.setCell ⟨q,1,none⟩ (.slice a1 l1 c1)) q s (.slice a1 l1 c1):=by
 refine ⟨h.row.set 1 (by simp) _,fun o k e=>?_⟩
 by_cases ho:o=1
 ·subst ho
  rw [World.cell?_setCell_same w ⟨q,1,none⟩ _ (h.row.cell (k:=1) rfl)] at e;cases e
 ·rw [World.cell?_setCell_other w ⟨q,1,none⟩ ⟨q,o,none⟩ _ (by simp <;> omega)] at e
  exact h.no o k e
theorem Cnt.put {w:World} {q l1 c1 l2 c2:Nat} {a1 a2:Option Addr} {s v:Value} (h:Cnt w q s v):Cnt ((w.setCell ⟨q,0,none⟩ (.slice a1 l1 c1)).setCell ⟨q,1,none⟩ (.slice a2 l2 c2)) q (.slice a1 l1 c1) (.slice a2 l2 c2) /\ Keeps (fun k=>k=q) w ((w.setCell ⟨q,0,none⟩ (.slice a1 l1 c1)).setCell ⟨q,1,none⟩ (.slice a2 l2 c2)) :=
 ⟨h.set0.set1,((Keeps.refl (fun k=>k=q) w).setCell (p:=⟨q,0,none⟩) (fun _=>rfl) _).setCell (p:=⟨q,1,none⟩) (fun _=>rfl) _⟩
theorem NumV.stored {w w':World} {b n q:Nat} {v s u:Value} (h:NumV w (fun _=>True) b n v) (hr:Cnt w q s u) (hk:Keeps (fun k=>k=q) w w'):NumV w' (fun _=>True) b n v:=by
 obtain ⟨ad,cap,e,h1⟩:=h;refine ⟨ad,cap,e,fun i hi=>?_⟩
 obtain ⟨g,o,e,hg,hcell⟩:=h1 i hi;refine ⟨g,o,e,trivial,hk.cell (p:=⟨g,_,none⟩) (fun hgq=>?_) hcell⟩
 have hgq':g=q:=hgq;subst hgq';exact hr.no _ _ hcell
set_option maxRecDepth 8000 in
set_option maxHeartbeats 2000000 in
theorem countPlus_any (x y xx yy:Nat) (w:World) (s v u1 u2:Value) (hs:NumV w (fun _=>True) 1000000000 x s) (hv:NumV w (fun _=>True) 1000000000 y v) (h1:NumV w (fun _=>True) 1000000000 xx u1) (h2:NumV w (fun _=>True) 1000000000 yy u2)
 (lx:(dig 1000000000 x).length <= 100000000000) (ly:(dig 1000000000 y).length <= 100000000000) (lxx:(dig 1000000000 xx).length <= 100000000000) (lyy:(dig 1000000000 yy).length <= 100000000000) :
 Calls Tryz.prog 98 #[.agg #[s,v],u1,u2] w fun e w'=>∃ z1 z2,e=.returned (.agg #[z1,z2]) /\ NumV w' (fun _=>True) 1000000000 (x+xx) z1 /\ NumV w' (fun _=>True) 1000000000 (y+yy) z2 /\ Keeps NoBlk w w':=by
 have HP1:Hid (∀ W,Keeps NoBlk w W -> Calls Tryz.prog 121 #[s,u1] W fun e w'=>∃ z,e=.returned z /\ NumV w' (Since W.heap.size w') 1000000000 (x+xx) z /\ Keeps NoBlk W w'):=fun W hk=>plusV (hs.keeps0 hk) (h1.keeps0 hk) lx lxx
 have HP2:Hid (∀ W,Keeps NoBlk w W -> Calls Tryz.prog 121 #[v,u2] W fun e w'=>∃ z,e=.returned z /\ NumV w' (Since W.heap.size w') 1000000000 (y+yy) z /\ Keeps NoBlk W w'):=fun W hk=>plusV (hv.keeps0 hk) (h2.keeps0 hk) ly lyy
 obtain ⟨sa,sc,rfl,_⟩:=hs;obtain ⟨wa,wc,rfl,_⟩:=hv;generalize (dig 1000000000 x).length=n at HP1;generalize (dig 1000000000 y).length=m at HP2;clear h1 h2 lx ly lxx lyy;obtain ⟨Q,hQ⟩:∃ Q:Ending -> World -> Prop,Q=fun e w'=>∃ z1 z2,e=.returned (.agg #[z1,z2]) /\ NumV w' (fun _=>True) 1000000000 (x+xx) z1 /\ NumV w' (fun _=>True) 1000000000 (y+yy) z2 /\ Keeps NoBlk w w':=⟨_,rfl⟩
 have HQ:=Lib.hid hQ;rw [<- hQ];clear hQ;go_enter Tryz.func98,Tryz.ntmps98
 go_upto_region 1 with fail
 obtain ⟨b3,hb3⟩:∃ z,z=w.heap.size:=⟨_,rfl⟩
 obtain ⟨b6,hb6⟩:∃ z,z=w.heap.size+1:=⟨_,rfl⟩
 rw [<- hb6,<- hb3];obtain ⟨wA,hwA⟩:∃ z,z=w.alloc (.cells #[.slice sa n sc, .slice wa m wc] 132):=⟨_,rfl⟩
 obtain ⟨w1,hw1⟩:∃ z,z=wA.alloc (.cells #[.slice none 0 0, .slice none 0 0] 132):=⟨_,rfl⟩
 rw [<- hwA,<- hw1];have kA:Keeps NoBlk w wA:=by rw [hwA];exact (Keeps.refl _ _).alloc _
 have k1:Keeps NoBlk wA w1:=by rw [hw1];exact (Keeps.refl _ _).alloc _
 have sA:wA.heap.size=w.heap.size+1:=by rw [hwA];simp
 have r3:RowAt wA b3 [.slice sa n sc, .slice wa m wc]:=by rw [hb3,hwA];exact RowAt.ofBlock (heap_alloc_new w _)
 have r6:Cnt w1 b6 (.slice none 0 0) (.slice none 0 0):=by rw [hb6,<- sA,hw1];exact Cnt.ofBlock (heap_alloc_new wA _)
 have R3:Hid (RowAt w1 b3 [.slice sa n sc, .slice wa m wc]):=r3.keeps k1 (fun h=>h);have R6:=Lib.hid r6;have K1:Hid (Keeps NoBlk w w1):=kA.trans0 k1;have HS:Hid (w.heap.size <= b6):=by show _ <= _;omega
 clear hwA hw1 kA k1 sA r3 r6 hb3 hb6
 refine wp_region_table 9 (by kernel_rfl) (by kernel_rfl) (Keeps NoBlk) (Keeps.refl NoBlk) (fun a b c h h'=>Keeps.trans0 h h') (TabV [some (.pointer (some ⟨b3,0,none⟩)),some (.slice sa n sc),some u1,none,some (.pointer (some ⟨b3,1,none⟩)),some (.slice wa m wc),some u2] (fun j v W=>match j with
  | 3=>NumV W (fun _=>True) 1000000000 (x+xx) v
  | 7=>NumV W (fun _=>True) 1000000000 (y+yy) v
  | _=>∃ z1 z2,v=.agg #[z1,z2] /\ NumV W (fun _=>True) 1000000000 (x+xx) z1 /\ NumV W (fun _=>True) 1000000000 (y+yy) z2)) (TabV.st (fun j v W W' h hk=>by
    revert h
    split
    ·exact fun h=>h.keeps0 hk
    ·exact fun h=>h.keeps0 hk
    ·rintro ⟨z1,z2,e,h1,h2⟩;exact ⟨z1,z2,e,h1.keeps0 hk,h2.keeps0 hk⟩)) ?_ ?_
 ·intro q oo hq ho vs W Q' hR0 hd hK
  have hR:Keeps NoBlk w1 W:=((Keeps.refl NoBlk w1).drew).trans0 hR0;obtain ⟨y30,y31⟩:=(R3.out.keeps hR (fun h=>h)).two;have HKW:Hid (Keeps NoBlk w W):=K1.out.trans0 hR;clear hR hR0;rcases (show q=0 \/ q=1 \/ q=2 \/ q=3 \/ q=4 \/ q=5 \/ q=6 \/ q=7 \/ q=8 by omega) with rfl | rfl | rfl | rfl | rfl | rfl | rfl | rfl | rfl
  all_goals (simp only [List.getElem?_cons_zero,List.getElem?_cons_succ,Option.some.injEq] at ho;subst ho;simp only [putsTo,List.getElem?_cons_zero,List.getElem?_cons_succ,Option.bind_some,Option.bind,Act.put,List.setIfInBounds_toArray,List.set_cons_zero,List.set_cons_succ] at hK ⊢;clear hq)
  ·clear hd
   go_wp2_with fail
   exact hK _ _ (Keeps.refl _ _) rfl
  ·have e0:vs 0=_:=hd 0 (by kernel_rfl)
   rw [e0] at hK ⊢;clear hd;go_wp2_with fail
   exact hK _ _ (Keeps.refl _ _) rfl
  ·clear hd
   go_wp2_with fail
   exact hK _ _ (Keeps.refl _ _) rfl
  ·have e1:vs 1=_:=hd 1 (by kernel_rfl)
   have e2:vs 2=_:=hd 2 (by kernel_rfl);rw [e1,e2] at hK ⊢;clear hd;go_wp2_with (go_at_call 121;refine (HP1.out W HKW.out).mono ?_;rintro e W1 ⟨z1,rfl,n1,g1⟩)
   exact hK _ _ g1 (n1.mono (fun _ _=>trivial))
  ·clear hd
   go_wp2_with fail
   exact hK _ _ (Keeps.refl _ _) rfl
  ·have e4:vs 4=_:=hd 4 (by kernel_rfl)
   rw [e4] at hK ⊢;clear hd;go_wp2_with fail
   exact hK _ _ (Keeps.refl _ _) rfl
  ·clear hd
   go_wp2_with fail
   exact hK _ _ (Keeps.refl _ _) rfl
  ·have e5:vs 5=_:=hd 5 (by kernel_rfl)
   have e6:vs 6=_:=hd 6 (by kernel_rfl);rw [e5,e6] at hK ⊢;clear hd;go_wp2_with (go_at_call 121;refine (HP2.out W HKW.out).mono ?_;rintro e W1 ⟨z1,rfl,n1,g1⟩)
   exact hK _ _ g1 (n1.mono (fun _ _=>trivial))
  ·obtain ⟨za,zc,e3,h3⟩:=(hd 3 (by kernel_rfl):NumV W (fun _=>True) 1000000000 (x+xx) (vs 3))
   have H3:=Lib.hid h3;obtain ⟨ta,tc,e7,h7⟩:=(hd 7 (by kernel_rfl):NumV W (fun _=>True) 1000000000 (y+yy) (vs 7));have H7:=Lib.hid h7;rw [e3,e7] at hK ⊢;clear h3 h7;clear hd;go_wp2_with fail
   exact hK _ _ (Keeps.refl _ _) ⟨_,_,rfl,⟨za,zc,rfl,H3.out⟩,⟨ta,tc,rfl,H7.out⟩⟩
 ·intro vs W hR0 hF
  have hR:Keeps NoBlk w1 W:=((Keeps.refl NoBlk w1).drew).trans0 hR0;obtain ⟨z1,z2,e8,n1,n2⟩:=(hF 8 (by decide):∃ z1 z2,vs 8=.agg #[z1,z2] /\ NumV W (fun _=>True) 1000000000 (x+xx) z1 /\ NumV W (fun _=>True) 1000000000 (y+yy) z2);have N1:=Lib.hid n1;have N2:=Lib.hid n2;obtain ⟨za,zc,rfl,_⟩:=n1;obtain ⟨ta,tc,rfl,_⟩:=n2;simp only [putsTo,List.getElem?_cons_zero,List.getElem?_cons_succ,Option.bind_some,Option.bind,Act.put,List.setIfInBounds_toArray,List.set_cons_zero,List.set_cons_succ,List.drop_succ_cons,List.drop_zero];rw [e8];clear hF e8;generalize vs 0=y0;generalize vs 1=y1;generalize vs 2=y2;generalize vs 3=y3;generalize vs 4=y4;generalize vs 5=y5;generalize vs 6=y6;generalize vs 7=y7;have R6W:Hid (Cnt W b6 (.slice none 0 0) (.slice none 0 0)):=R6.out.keeps0 hR;have KW:Hid (Keeps NoBlk w W):=K1.out.trans0 hR;clear hR hR0 R3 R6;generalize (dig 1000000000 (x+xx)).length=p at N1 ⊢;generalize (dig 1000000000 (y+yy)).length=p2 at N2 ⊢;obtain ⟨z0,z1⟩:=R6W.out.row.two;have f0:=R6W.out.row.free (k:=0) (by simp);have f1:=R6W.out.row.free (k:=1) (by simp);go_wp2_with fail
  obtain ⟨hrow,hks⟩:=R6W.out.put (a1:=za) (l1:=p) (c1:=zc) (a2:=ta) (l2:=p2) (c2:=tc);generalize (W.setCell ⟨b6,0,none⟩ (.slice za p zc)).setCell ⟨b6,1,none⟩ (.slice ta p2 tc)=wE at hrow hks ⊢;refine bodyPost_ret (v:=.agg #[.slice za p zc, .slice ta p2 tc]) (by simp [results,Tryz.results98,go_sem,hrow.row.cell (k:=0) rfl,hrow.row.cell (k:=1) rfl]) rfl ?_
  rw [HQ.out];exact ⟨_,_,rfl,N1.out.stored R6W.out hks,N2.out.stored R6W.out hks,KW.out.trans hks (fun q hq e=>by have e':q=b6:=e;have:=HS.out;omega)⟩
theorem pts_mk0 (num:Int) (nm:ByteArray) (l:List Ex):Ex.pts (.mk 0 num nm l)=0:=by simp [Ex.pts]
theorem pts_mk {k:Int} (h:¬ k=0) (num:Int) (nm:ByteArray) (l:List Ex):Ex.pts (.mk k num nm l)=1+Ex.ptsL l:=by simp [Ex.pts,h]
set_option maxRecDepth 8000 in
theorem parts_any:∀ (x:Ex) (w:World) (F:Nat -> Prop) (ad:Option Addr) (cap:Nat),ExsAt w F x.args ad -> x.cnt < 1000000000 →
 Calls Tryz.prog 119 #[exV x ad cap] w fun e w'=>e=.returned (.int .i64 x.pts) /\ Keeps NoBlk w w':=by
 refine Ex.ind (fun k num nm l ih w F ad cap h hb=>?_)
 have HL:Hid (ExsAt w F l ad):=h;have IH:=Lib.hid ih;have hl:=Ex.len_le l;have hcn:Ex.cnt (.mk k num nm l)=1+Ex.cntL l:=by simp [Ex.cnt]
 have hp:=Ex.ptsL_le l;rw [hcn] at hb;have HB:Hid (Ex.cntL l < 1000000000):=by show _ < _;omega
 clear h ih hcn;obtain ⟨tot,ht⟩:∃ t,t=Ex.ptsL l:=⟨_,rfl⟩
 have HT:=Lib.hid ht;rw [<- ht] at hp;have htot:tot < 1000000000:=by omega
 have hll:l.length < 1000000000:=by omega
 clear hl hb hp;obtain ⟨r,hr⟩:∃ r,r=Ex.pts (.mk k num nm l):=⟨_,rfl⟩
 rw [<- hr];have HR:Hid ((k=0 -> r=0) /\ (¬ k=0 -> r=1+tot)):=⟨fun e=>by rw [hr,e,pts_mk0],fun e=>by rw [hr,pts_mk e,HT.out]⟩;clear ht hr;show Calls _ _ #[.agg #[.int .i64 k, .int .i64 num, .string nm, .slice ad l.length cap]] _ _
 go_enter Tryz.func119,Tryz.ntmps119
 go_upto_region 1 with fail
 obtain ⟨b1,hb1⟩:∃ z,z=w.heap.size:=⟨_,rfl⟩
 have hr1:RowAt (w.alloc (.cells #[.int .i64 k, .int .i64 num, .string nm, .slice ad l.length cap] 72)) b1 [.int .i64 k, .int .i64 num, .string nm, .slice ad l.length cap]:=by rw [hb1];exact RowAt.ofBlock (heap_alloc_new w _)
 have hk1:Keeps NoBlk w (w.alloc (.cells #[.int .i64 k, .int .i64 num, .string nm, .slice ad l.length cap] 72)):=(Keeps.refl _ _).alloc _;rw [<- hb1];generalize w.alloc (.cells #[.int .i64 k, .int .i64 num, .string nm, .slice ad l.length cap] 72)=w1 at hr1 hk1 ⊢;have K1:=Lib.hid hk1;have c0:=hr1.cell (k:=0) (v:=.int .i64 k) rfl;have c3:=hr1.cell (k:=3) (v:=.slice ad l.length cap) rfl;clear hr1 hk1 hb1;rcases (show k=0 \/ ¬ k=0 by omega) with hk0 | hk0
 ·obtain rfl:=HR.out.1 hk0
  subst hk0;clear HR;go_wp2_with fail
  go_ret
  exact ⟨rfl,K1.out⟩
 ·obtain rfl:=HR.out.2 hk0
  clear HR;have hkb:(k==0)=false:=by simpa using hk0
  go_upto_region 5 with fail
  clear c0 c3;go_loopw [3,12] (fun nv iv wr=>∃ i n:Nat,i <= l.length /\ nv=.int .i64 n /\ iv=.int .i64 i /\ Hid (n+Ex.ptsL (l.drop i)=1+tot) /\ Hid (Keeps NoBlk w1 wr)) (fun _ iv _=>l.length - (intOf iv).toNat)
  case atStart=>exact ⟨0,1,Nat.zero_le _,rfl,rfl,by show _=_;rw [List.drop_zero,HT.out],Keeps.refl _ _⟩
  case round =>
   obtain ⟨i,n,hi,rfl,rfl,HN,HK⟩:=hrel;by_cases hlt:i < l.length
   ·have i1:(0:Int) <= i:=by omega
    have i2:(i:Int) < l.length:=by omega
    have hd:=HN.out;rw [drop_at hlt,Ex.ptsL] at hd;obtain ⟨g,o,a,c,e1,hg,d0,d1,d2,d3,hx⟩:=(HL.out.keeps (K1.out.trans0 HK.out) (fun _ _ h=>h)).at hlt;subst e1;have hcm:=Ex.cnt_mem (List.getElem_mem hlt);have HC:Hid (∀ W,Keeps NoBlk wr W -> Calls Tryz.prog 119 #[.agg #[.int .i64 l[i].kind, .int .i64 l[i].num, .string l[i].nm, .slice a l[i].args.length c]] W fun e w'=>e=.returned (.int .i64 l[i].pts) /\ Keeps NoBlk W w'):=fun W hk=>IH.out _ (List.getElem_mem hlt) W F a c (hx.keeps hk (fun _ _ h=>h)) (by have:=HB.out;omega)
    obtain ⟨m,hm⟩:∃ m,m=l[i].pts:=⟨_,rfl⟩
    rw [<- hm] at HC hd;have HD:=Lib.hid hd;have b1:n+m < 1000000001:=by omega
    clear hx hm hd hcm;generalize l[i].kind=x0 at d0 HC;generalize l[i].num=x1 at d1 HC;generalize l[i].nm=x2 at d2 HC;generalize l[i].args.length=x3 at d3 HC;go_upto_region 7 with fail
    obtain ⟨b5,hb5⟩:∃ z,z=wr.heap.size:=⟨_,rfl⟩
    have hr5:RowAt (wr.alloc (.cells #[.int .i64 x0, .int .i64 x1, .string x2, .slice a x3 c] 72)) b5 [.int .i64 x0, .int .i64 x1, .string x2, .slice a x3 c]:=by rw [hb5];exact RowAt.ofBlock (heap_alloc_new wr _)
    have hk5:Keeps NoBlk wr (wr.alloc (.cells #[.int .i64 x0, .int .i64 x1, .string x2, .slice a x3 c] 72)):=(Keeps.refl _ _).alloc _;rw [<- hb5];generalize wr.alloc (.cells #[.int .i64 x0, .int .i64 x1, .string x2, .slice a x3 c] 72)=w5 at hr5 hk5 ⊢;obtain ⟨y0,y1,y2,y3⟩:=hr5.four;have K5:=Lib.hid hk5;clear hr5 hk5 hb5 d0 d1 d2 d3;go_wp2_with (go_at_call 119;refine (HC.out _ K5.out).mono ?_;rintro e w2 ⟨rfl,g1⟩;have G1:=Lib.hid g1;clear g1)
    go_roundw
    case rel=>exact ⟨i+1,n+m,by omega,by go_num,by go_num,by show _=_;have:=HD.out;omega,HK.out.trans0 (K5.out.trans0 G1.out)⟩
    case measure=>simp [intOf];omega
   ·obtain rfl:i=l.length:=by omega
    have hd:=HN.out;rw [List.drop_length] at hd;simp only [Ex.ptsL] at hd;go_wp2_with fail
    go_ret
    exact ⟨by rw [<- hd];rfl,K1.out.trans0 HK.out⟩
end Go.Proofs.YtnmifekgdkgknaaGreatDoor
