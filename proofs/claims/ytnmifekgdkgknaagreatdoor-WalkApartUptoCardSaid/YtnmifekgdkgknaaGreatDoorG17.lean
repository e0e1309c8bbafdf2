/- Layer G: texts joined. -/
import Derived.Test.YtnmifekgdkgknaaGreatDoorG13
import Derived.Test.YtnmifekgdkgknaaGreatDoorG16
import Derived.Test.YtnmifekgdkgknaaGreatDoorG04
import Derived.WalkSmall
set_option linter.unusedVariables false
set_option linter.unusedSimpArgs false
set_option linter.unnecessarySimpa false
namespace Go.Proofs.YtnmifekgdkgknaaGreatDoor
open Go.RowKit
def ClLies:Lies Int:=fun w F x cs=>cs=[.string xNm, .int .i64 x]
theorem clOk:LiesOk ClLies 2:=⟨fun h _ _=>h,fun h _=>h,fun h=>by rw [h];rfl⟩
def ThLies:Lies (List St):=fun w F t cs=>∃ ba bc,cs=[.string xNm, .slice ba t.length bc] /\ StsAt w F t ba
theorem thOk:LiesOk ThLies 2:=⟨fun h hk hS=>by obtain ⟨ba,bc,e,h1⟩:=h;exact ⟨ba,bc,e,h1.keeps hk hS⟩,fun h hF=>by obtain ⟨ba,bc,e,h1⟩:=h;exact ⟨ba,bc,e,h1.mono hF⟩,fun h=>by obtain ⟨ba,bc,e,h1⟩:=h;rw [e];rfl⟩
theorem ClsAt.mono {F F':Nat -> Prop} {w:World} {cs:List Int} {ad:Option Addr} (h:ClsAt w F cs ad) (hF:∀ k,F k -> F' k):ClsAt w F' cs ad:=by
 intro i hi
 obtain ⟨g,o,e,hg,c0,c1⟩:=h i hi;exact ⟨g,o,e,hF g hg,c0,c1⟩
theorem NmsAt.mono {F F':Nat -> Prop} {w:World} {v:Value} {n:Nat} (h:NmsAt w F v n) (hF:∀ k,F k -> F' k):NmsAt w F' v n:=by
 obtain ⟨ad,cap,e,h1⟩:=h;refine ⟨ad,cap,e,fun i hi=>?_⟩
 obtain ⟨g,o,e,hg,c0⟩:=h1 i hi;exact ⟨g,o,e,hF g hg,c0⟩
theorem Acc.cls {w:World} {B n cap:Nat} {ty:TypeId} {ad:Option Addr} {cs:List Int} {css:List (List Value)} (h:Acc ClLies (fun _=>False) B 2 ty w (.slice ad n cap) cs css):ClsAt w (Since B w) cs ad:=by
 obtain ⟨h1,h2⟩:=h.elems clOk (ad:=ad) (n:=n) (cap:=cap) rfl;intro i hi
 obtain ⟨g,o,e,hg,hl,hc⟩:=h1 i hi;have hR:=h2 i cs[i] (List.getElem?_eq_getElem hi);have hR':css.getD i []=[.string xNm, .int .i64 cs[i]]:=hR;have hc0:=hc 0 (.string xNm) (by show (css.getD i [])[_]?=_;rw [hR'];rfl);have hc1:=hc 1 (.int .i64 cs[i]) (by show (css.getD i [])[_]?=_;rw [hR'];rfl);refine ⟨g,o,e,hg.elim False.elim (fun h=>h),hc0,?_⟩
 rw [Nat.add_assoc];exact hc1
theorem Acc.ths {w:World} {B n cap:Nat} {ty:TypeId} {ad:Option Addr} {ts:List (List St)} {css:List (List Value)} (h:Acc ThLies (fun _=>False) B 2 ty w (.slice ad n cap) ts css) (hl:ts.length <= 1000):ThsAt w (Since B w) xNm ts ad:=by
 obtain ⟨h1,h2⟩:=h.elems thOk (ad:=ad) (n:=n) (cap:=cap) rfl;refine ⟨hl,fun i hi=>?_⟩
 obtain ⟨g,o,e,hg,hl,hc⟩:=h1 i hi;obtain ⟨ba,bc,hR',hs⟩:=h2 i ts[i] (List.getElem?_eq_getElem hi);have hc0:=hc 0 (.string xNm) (by show (css.getD i [])[_]?=_;rw [hR'];rfl);have hc1:=hc 1 (.slice ba ts[i].length bc) (by show (css.getD i [])[_]?=_;rw [hR'];rfl);have hm:∀ k,(False \/ (B <= k /\ k < w.heap.size)) -> Since B w k:=fun k hk=>hk.elim False.elim (fun h=>h)
 refine ⟨g,o,ba,bc,e,hm g hg,hc0,?_,hs.mono hm⟩
 rw [Nat.add_assoc];exact hc1
def NumsAt (w:World) (F:Nat -> Prop) (cs:List Int) (ad:Option Addr):Prop :=
 ∀ i (hi:i < cs.length),∃ g o,ad=some ⟨g,o,none⟩ /\ F g /\ w.cell? ⟨g,o+i,none⟩=some (.int .i64 cs[i])
theorem NumsAt.keeps {S F:Nat -> Prop} {w w':World} {cs:List Int} {ad:Option Addr} (h:NumsAt w F cs ad) (hk:Keeps S w w') (hS:∀ k,F k -> ¬ S k):NumsAt w' F cs ad:=by
 intro i hi
 obtain ⟨g,o,e,hg,c0⟩:=h i hi;exact ⟨g,o,e,hg,hk.cell (p:=⟨g,_,none⟩) (hS g hg) c0⟩
def BdsAt (w:World) (F:Nat -> Prop) (bs:List Bd) (ad:Option Addr):Prop :=
 ∀ i (hi:i < bs.length),∃ g o ba bc,ad=some ⟨g,o,none⟩ /\ F g /\ w.cell? ⟨g,o+i*2,none⟩=some (.int .i64 bs[i].regs) /\ w.cell? ⟨g,o+i*2+1,none⟩=some (.slice ba bs[i].acts.length bc) /\ AcsAt w F bs[i].acts ba
theorem BdsAt.keeps {S F:Nat -> Prop} {w w':World} {bs:List Bd} {ad:Option Addr} (h:BdsAt w F bs ad) (hk:Keeps S w w') (hS:∀ k,F k -> ¬ S k):BdsAt w' F bs ad:=by
 intro i hi
 obtain ⟨g,o,ba,bc,e,hg,c0,c1,h1⟩:=h i hi;exact ⟨g,o,ba,bc,e,hg,hk.cell (p:=⟨g,_,none⟩) (hS g hg) c0,hk.cell (p:=⟨g,_,none⟩) (hS g hg) c1,h1.keeps hk hS⟩
def RgsAt (w:World) (F:Nat -> Prop) (rs:List Nat) (ad:Option Addr):Prop :=
 ∀ i (hi:i < rs.length),∃ g o ra rc,ad=some ⟨g,o,none⟩ /\ F g /\ w.cell? ⟨g,o+i,none⟩=some (.slice ra rs[i] rc) /\ NmsAt w F (.slice ra rs[i] rc) rs[i]
theorem RgsAt.keeps {S F:Nat -> Prop} {w w':World} {rs:List Nat} {ad:Option Addr} (h:RgsAt w F rs ad) (hk:Keeps S w w') (hS:∀ k,F k -> ¬ S k):RgsAt w' F rs ad:=by
 intro i hi
 obtain ⟨g,o,ra,rc,e,hg,c0,h1⟩:=h i hi;exact ⟨g,o,ra,rc,e,hg,hk.cell (p:=⟨g,_,none⟩) (hS g hg) c0,h1.keeps hk hS⟩
theorem RowAt.two {w:World} {g:Nat} {a b:Value} (r:RowAt w g [a,b]):w.cell? ⟨g,0,none⟩=some a /\ w.cell? ⟨g,1,none⟩=some b:=⟨r.cell (k:=0) rfl,r.cell (k:=1) rfl⟩
theorem infoCell:(Tryz.prog.info? 178).map (fun i=>(i.zero,i.size,i.bytes))=some (some (.agg #[.string noNm, .int .i64 0]),2,24):=by kernel_rfl
theorem infoThread:(Tryz.prog.info? 121).map (fun i=>(i.zero,i.size,i.bytes))=some (some (.agg #[.string noNm, .slice none 0 0]),2,40):=by kernel_rfl
inductive WTg where
 | mach | cells | owners | ths
 | regs (i:Nat) | fs (i:Nat)
deriving DecidableEq
abbrev WTags:=Nat -> Option (Nat × WTg)
def WOwn (T:WTags) (id:Nat) (k:Nat):Prop:=∃ t,T k=some (id,t)
def WThb (T:WTags) (id:Nat) (k:Nat):Prop:=T k=some (id, .ths) \/ ∃ i,T k=some (id, .regs i) \/ T k=some (id, .fs i)
theorem WThb.own {T:WTags} {id k:Nat} (h:WThb T id k):WOwn T id k:=by
 rcases h with h | ⟨i,h | h⟩ <;> exact ⟨_,h⟩
structure WSep (w:World) (T:WTags) (F:Nat -> Prop):Prop where
 ok:∀ k x,T k=some x -> k < w.heap.size
 sep:∀ k,F k -> T k=none
 low:∀ k,F k -> k < w.heap.size
theorem WSep.keeps {S:Nat -> Prop} {w w':World} {T:WTags} {F:Nat -> Prop} (h:WSep w T F) (hk:Keeps S w w'):WSep w' T F :=
 ⟨fun k x e=>Nat.lt_of_lt_of_le (h.ok k x e) hk.size,h.sep,fun k hF=>Nat.lt_of_lt_of_le (h.low k hF) hk.size⟩
def WExt (T T':WTags) (id:Nat) (w:World):Prop:=(∀ k y,T k=some y -> T' k=some y) /\ ∀ k y,T' k=some y -> T k=some y \/ (w.heap.size <= k /\ y.1=id)
theorem WExt.refl (T:WTags) (id:Nat) (w:World):WExt T T id w:=⟨fun _ _ h=>h,fun _ _ h=>.inl h⟩
theorem WExt.trans {T1 T2 T3:WTags} {id:Nat} {w w':World} (h:WExt T1 T2 id w) (h':WExt T2 T3 id w') (hs:w.heap.size <= w'.heap.size):WExt T1 T3 id w :=
 ⟨fun k y e=>h'.1 k y (h.1 k y e),fun k y e=>by
  rcases h'.2 k y e with h1 | h1
  ·exact h.2 k y h1
  ·exact .inr ⟨Nat.le_trans hs h1.1,h1.2⟩⟩
theorem WExt.none {T T':WTags} {id:Nat} {w:World} (h:WExt T T' id w) {k:Nat} (h1:T k=none) (h2:k < w.heap.size):T' k=none:=by
 cases e:T' k with
 | none=>rfl
 | some y =>
   rcases h.2 k y e with h3 | h3
   ·rw [h1] at h3;cases h3
   ·omega
theorem WExt.own {T T':WTags} {id:Nat} {w:World} (h:WExt T T' id w) {k i:Nat} (hk:WOwn T' i k) (h2:k < w.heap.size):WOwn T i k:=by
 obtain ⟨t,e⟩:=hk;rcases h.2 k _ e with h3 | h3
 ·exact ⟨t,h3⟩
 ·omega
def tagW (T:WTags) (id:Nat) (t:WTg) (g:Nat):WTags:=fun q=>if q=g then some (id,t) else T q
theorem tagW_ext {T:WTags} {id:Nat} {t:WTg} {g:Nat} {w:World} (h:T g=some (id,t) \/ (T g=none /\ w.heap.size <= g)):WExt T (tagW T id t g) id w:=by
 refine ⟨fun k y e=>?_,fun k y e=>?_⟩
 ·unfold tagW
  by_cases hk:k=g
  ·subst hk
   rw [if_pos rfl];rcases h with h | h
   ·rw [<- e,h]
   ·rw [h.1] at e;cases e
  ·rw [if_neg hk];exact e
 ·unfold tagW at e
  by_cases hk:k=g
  ·subst hk
   rw [if_pos rfl] at e;cases e;rcases h with h | h
   ·exact .inl h
   ·exact .inr ⟨h.2,rfl⟩
  ·rw [if_neg hk] at e;exact .inl e
theorem tagW_own (T:WTags) (id:Nat) (t:WTg) (g:Nat):tagW T id t g g=some (id,t):=if_pos rfl
theorem WSep.tag {w:World} {T:WTags} {F:Nat -> Prop} (h:WSep w T F) {id:Nat} {t:WTg} {g:Nat} (hg:g < w.heap.size) (hF:¬ F g):WSep w (tagW T id t g) F:=by
 refine ⟨fun k x e=>?_,fun k hk=>?_,h.low⟩
 ·unfold tagW at e
  by_cases hk:k=g
  ·subst hk;exact hg
  ·rw [if_neg hk] at e;exact h.ok k x e
 ·unfold tagW
  rw [if_neg (fun e=>hF (by rw [<- e];exact hk))];exact h.sep k hk
theorem WSep.free {w:World} {T:WTags} {F:Nat -> Prop} (h:WSep w T F) {g:Nat} (hg:w.heap.size <= g):T g=none /\ ¬ F g:=by
 refine ⟨?_,fun hF=>by have:=h.low g hF;omega⟩
 cases e:T g with
 | none=>rfl
 | some y=>have:=h.ok g y e;omega
def IRow (w:World) (T:WTags) (id:Nat) (t:WTg) (v:Value) (xs:List Int):Prop :=
 ∃ ad cap,v=.slice ad xs.length cap /\ (xs ≠ [] -> ∃ g,ad=some ⟨g,0,none⟩ /\ T g=some (id,t) /\ RowAt w g (ints xs))
section
variable {S:Nat -> Prop} {w w':World} {T T':WTags} {id:Nat} {t:WTg} {v:Value} {xs:List Int}
theorem IRow.keeps (h:IRow w T id t v xs) (hk:Keeps S w w') (hS:∀ k,T k=some (id,t) -> ¬ S k):IRow w' T id t v xs:=by
 obtain ⟨ad,cap,e,h1⟩:=h;refine ⟨ad,cap,e,fun hn=>?_⟩
 obtain ⟨g,e1,e2,e3⟩:=h1 hn;exact ⟨g,e1,e2,e3.keeps hk (hS g e2)⟩
theorem IRow.ext (h:IRow w T id t v xs) (hx:∀ k y,T k=some y -> T' k=some y):IRow w T' id t v xs:=by
 obtain ⟨ad,cap,e,h1⟩:=h;refine ⟨ad,cap,e,fun hn=>?_⟩
 obtain ⟨g,e1,e2,e3⟩:=h1 hn;exact ⟨g,e1,hx _ _ e2,e3⟩
theorem IRow.at (h:IRow w T id t v xs) {k:Nat} (hk:k < xs.length):∃ g cap,v=.slice (some ⟨g,0,none⟩) xs.length cap /\ T g=some (id,t) /\ RowAt w g (ints xs):=by
 obtain ⟨ad,cap,e,h1⟩:=h;obtain ⟨g,e1,e2,e3⟩:=h1 (fun e=>by rw [e] at hk;simp at hk);subst e1;exact ⟨g,cap,e,e2,e3⟩
theorem IRow.set {g cap:Nat} (hT:T g=some (id,t)) (h:RowAt w g (ints xs)) (k:Nat) (hk:k < xs.length) (u:Int) :
 IRow (w.setCell ⟨g,k,none⟩ (.int .i64 u)) T id t (.slice (some ⟨g,0,none⟩) xs.length cap) (xs.set k u):=by
 have:=h.set k (by rw [ints_len];exact hk) (.int .i64 u)
 rw [ints_set] at this;exact ⟨_,cap,by rw [List.length_set],fun _=>⟨g,rfl,hT,this⟩⟩
theorem IRow.src (h:IRow w T id t v xs):SrcAt w v xs.length (ints xs):=by
 obtain ⟨ad,cap,e,h1⟩:=h;refine ⟨ad,cap,e,fun hn=>?_⟩
 obtain ⟨g,e1,_,e3⟩:=h1 (fun e=>by rw [e] at hn;exact hn rfl);exact ⟨g,0,e1,e3.rng⟩
theorem IRow.of {e:TypeId} {base:Nat} (h:w.ownsRow base e 1 v xs.length (ints xs)) (hT:∀ kb,v.ownBlock=some kb -> T kb=some (id,t)) (hv:∃ ad cap,v=.slice ad xs.length cap):IRow w T id t v xs:=by
 obtain ⟨ad,cap,rfl⟩:=hv;refine ⟨ad,cap,rfl,fun hn=>?_⟩
 rcases h.2 with ⟨_,h1⟩ | ⟨g,c,cur,h1,_⟩
 ·exact absurd (List.eq_nil_of_length_eq_zero h1) hn
 ·simp only [Value.slice.injEq] at h1
  obtain ⟨rfl,_,rfl⟩:=h1;exact ⟨g,rfl,hT g rfl,RowAt.ofOwns h⟩
end
section
variable (R:Lies WFr) (sz:Nat) (ty:TypeId)
def FsAt (w:World) (T:WTags) (F:Nat -> Prop) (id i:Nat) (v:Value) (fs:List WFr):Prop :=
 ∃ css:List (List Value),css.length=fs.length /\ w.ownsRow 0 ty sz v fs.length css.flatten /\ (∀ kb,v.ownBlock=some kb -> T kb=some (id, .fs i)) /\ (∃ ad cap,v=.slice ad fs.length cap) ∧
   ∀ (j:Nat) (f:WFr) (cs:List Value),fs[j]?=some f -> css[j]?=some cs -> R w F f cs
structure HTh where
 st:Int
 rv:Value
 fv:Value
def HTh.cells (h:HTh):List Value:=[.int .i64 h.st,h.rv,h.fv]
theorem hth_len (h:HTh):h.cells.length=3:=rfl
def thCells (H:List HTh):List Value:=H.flatMap HTh.cells
structure ThsG (w:World) (T:WTags) (F:Nat -> Prop) (id g:Nat) (H:List HTh) (ths:List WTh):Prop where
 tag:T g=some (id, .ths)
 sep:WSep w T F
 row:RowAt w g (thCells H)
 len:H.length=ths.length
 each:∀ i h t,H[i]?=some h -> ths[i]?=some t -> h.st=t.st /\ IRow w T id (.regs i) h.rv t.regs /\ FsAt R sz ty w T F id i h.fv t.fs
end
section
variable {R:Lies WFr} {sz:Nat} {ty:TypeId} (L:LiesOk R sz)
include L
variable {S:Nat -> Prop} {w w':World} {T T':WTags} {F:Nat -> Prop} {id i g:Nat} {v:Value} {fs:List WFr} {H:List HTh} {ths:List WTh}
theorem FsAt.keeps (h:FsAt R sz ty w T F id i v fs) (hk:Keeps S w w') (hS:∀ k,T k=some (id, .fs i) -> ¬ S k) (hF:∀ k,F k -> ¬ S k):FsAt R sz ty w' T F id i v fs:=by
 obtain ⟨css,h1,h2,h3,h4,h5⟩:=h;exact ⟨css,h1,ownsRow_keeps h2 hk (fun k e=>hS k (h3 k e)),h3,h4,fun j f cs e1 e2=>L.keeps (h5 j f cs e1 e2) hk hF⟩
theorem ThsG.keeps (h:ThsG R sz ty w T F id g H ths) (hk:Keeps S w w') (hS:∀ k,WThb T id k \/ F k -> ¬ S k):ThsG R sz ty w' T F id g H ths :=
 ⟨h.tag,h.sep.keeps hk,h.row.keeps hk (hS g (.inl (.inl h.tag))),h.len,fun i a t e1 e2=>by
  obtain ⟨h1,h2,h3⟩:=h.each i a t e1 e2;exact ⟨h1,h2.keeps hk (fun k e=>hS k (.inl (.inr ⟨i, .inl e⟩))),FsAt.keeps L h3 hk (fun k e=>hS k (.inl (.inr ⟨i, .inr e⟩))) (fun k e=>hS k (.inr e))⟩⟩
end
section
variable {R:Lies WFr} {sz:Nat} {ty:TypeId} {w w':World} {T T':WTags} {F:Nat -> Prop} {id i g:Nat} {v:Value} {fs:List WFr} {H:List HTh} {ths:List WTh}
theorem FsAt.ext (h:FsAt R sz ty w T F id i v fs) (hx:∀ k y,T k=some y -> T' k=some y):FsAt R sz ty w T' F id i v fs:=by
 obtain ⟨css,h1,h2,h3,h4,h5⟩:=h;exact ⟨css,h1,h2,fun k e=>hx _ _ (h3 k e),h4,h5⟩
theorem ThsG.get (h:ThsG R sz ty w T F id g H ths) {t:WTh} (ht:ths[i]?=some t):∃ rv fv,H[i]?=some ⟨t.st,rv,fv⟩ /\ IRow w T id (.regs i) rv t.regs /\ FsAt R sz ty w T F id i fv t.fs:=by
 have hi:i < ths.length:=(List.getElem?_eq_some_iff.1 ht).1;have hi':i < H.length:=by rw [h.len];exact hi
 have hH:H[i]?=some H[i]:=List.getElem?_eq_getElem hi';obtain ⟨e1,e2,e3⟩:=h.each i _ t hH ht;exact ⟨H[i].rv,H[i].fv,by rw [hH,<- e1],e2,e3⟩
theorem th_cell {a:HTh} (hr:RowAt w g (thCells H)) (ha:H[i]?=some a) (j:Nat) {u:Value} (hu:a.cells[j]?=some u):w.cell? ⟨g,i*3+j,none⟩=some u:=by
 refine hr.cell ?_
 have hj:j < 3:=(List.getElem?_eq_some_iff.1 hu).1;show (H.flatMap HTh.cells)[i*3+j]?=_
 rw [get_cells _ 3 hth_len H i j hj,ha];exact hu
theorem th_free (hr:RowAt w g (thCells H)) (hi:i < H.length) (j:Nat) (hj:j < 3):w.frozen? ⟨g,i*3+j,none⟩=false :=
 hr.free (by unfold thCells;rw [length_cells _ 3 hth_len];omega)
theorem th_three (hr:RowAt w g (thCells H)) {a:HTh} (ha:H[i]?=some a):w.cell? ⟨g,i*3,none⟩=some (.int .i64 a.st) /\ w.cell? ⟨g,i*3+1,none⟩=some a.rv /\ w.cell? ⟨g,i*3+2,none⟩=some a.fv :=
 ⟨th_cell hr ha 0 rfl,th_cell hr ha 1 rfl,th_cell hr ha 2 rfl⟩
theorem th_set (hr:RowAt w g (thCells H)) {a:HTh} (ha:H[i]?=some a) (j:Nat) (hj:j < 3) (u:Value) (a':HTh) (hc:a'.cells=a.cells.set j u):RowAt (w.setCell ⟨g,i*3+j,none⟩ u) g (thCells (H.set i a')):=by
 have:=hr.set (i*3+j) (by unfold thCells;rw [length_cells _ 3 hth_len];have:=(List.getElem?_eq_some_iff.1 ha).1;omega) u
 have e:(thCells H).set (i*3+j) u=thCells (H.set i a'):=set_cells _ 3 hth_len H i j hj u a a' ha hc;rwa [e] at this
theorem ThsG.upd (L:LiesOk R sz) (h:ThsG R sz ty w T F id g H ths) (hx:WExt T T' id w) (hsep:WSep w' T' F) (hk:Keeps (fun k=>k=g \/ T k=some (id, .regs i) \/ T k=some (id, .fs i)) w w') {a':HTh} {t':WTh}
 (hr:RowAt w' g (thCells (H.set i a'))) (h1:a'.st=t'.st) (h2:IRow w' T' id (.regs i) a'.rv t'.regs) (h3:FsAt R sz ty w' T' F id i a'.fv t'.fs):ThsG R sz ty w' T' F id g (H.set i a') (ths.set i t'):=by
 refine ⟨hx.1 _ _ h.tag,hsep,hr,by simp [h.len],fun k b t hb ht=>?_⟩
 by_cases e:i=k
 ·subst e
  rw [List.getElem?_set_self'] at hb ht;obtain ⟨b0,hb0,rfl⟩:=Option.map_eq_some_iff.1 hb;obtain ⟨t0,ht0,rfl⟩:=Option.map_eq_some_iff.1 ht;exact ⟨h1,h2,h3⟩
 ·rw [List.getElem?_set_ne e] at hb ht
  obtain ⟨e1,e2,e3⟩:=h.each k b t hb ht
  have hF:∀ q,F q -> ¬ (q=g \/ T q=some (id, .regs i) \/ T q=some (id, .fs i)):=fun q hq hn=>by
   have:=h.sep.sep q hq
   rcases hn with rfl | hn | hn
   ·rw [h.tag] at this;cases this
   ·rw [hn] at this;cases this
   ·rw [hn] at this;cases this
  refine ⟨e1,(e2.keeps hk (fun q hq hn=>?_)).ext hx.1,(FsAt.keeps L e3 hk (fun q hq hn=>?_) hF).ext hx.1⟩
  ·rcases hn with rfl | hn | hn
   ·rw [h.tag] at hq;cases hq
   ·rw [hn] at hq;cases hq;exact e rfl
   ·rw [hn] at hq;cases hq
  ·rcases hn with rfl | hn | hn
   ·rw [h.tag] at hq;cases hq
   ·rw [hn] at hq;cases hq
   ·rw [hn] at hq;cases hq;exact e rfl
theorem upd_keeps (h:ThsG R sz ty w T F id g H ths) (hk:Keeps (fun k=>k=g \/ T k=some (id, .regs i) \/ T k=some (id, .fs i)) w w'):Keeps (WThb T id) w w' :=
 hk.mono (fun k _ hn=>by
  rcases hn with rfl | hn | hn
  ·exact .inl h.tag
  ·exact .inr ⟨i, .inl hn⟩
  ·exact .inr ⟨i, .inr hn⟩)
end
theorem flat_one {α:Type} {sz:Nat}:∀ (l:List (List α)),(∀ ds,ds ∈ l -> ds.length=sz) -> l.flatten.length=l.length*sz
 | [],_=>by simp
 | x :: r,h=>by
   rw [List.flatten_cons,List.length_append,h x List.mem_cons_self,flat_one r (fun ds hd=>h ds (List.mem_cons_of_mem _ hd)),List.length_cons,Nat.add_mul];omega
section
variable {R:Lies WFr} {sz:Nat} {ty:TypeId} (L:LiesOk R sz)
include L
variable {w w':World} {T:WTags} {F:Nat -> Prop} {id i:Nat} {v:Value} {fs:List WFr} {f:WFr}
theorem FsAt.split (h:FsAt R sz ty w T F id i v (fs++[f])):∃ (g cap:Nat) (css:List (List Value)) (cs:List Value),v=.slice (some ⟨g,0,none⟩) (fs.length+1) cap /\ T g=some (id, .fs i) /\ css.length=fs.length /\ css.flatten.length=fs.length*sz /\ cs.length=sz ∧
 w.ownsRow 0 ty sz (.slice (some ⟨g,0,none⟩) (fs.length+1) cap) (fs.length+1) (css.flatten++cs) /\ R w F f cs /\ (∀ (j:Nat) (y:WFr) (ds:List Value),fs[j]?=some y -> css[j]?=some ds -> R w F y ds) /\ fs.length+1 <= cap /\ cap <= maxLen:=by
 obtain ⟨css,h1,h2,h3,⟨ad,cap,rfl⟩,h5⟩:=h;rw [List.length_append,List.length_singleton] at h1 h2 h3;have hne:css ≠ []:=fun e=>by rw [e] at h1;simp at h1
 have hs:=List.dropLast_concat_getLast hne;obtain ⟨cs0,hc0⟩:∃ z,z=css.dropLast:=⟨_,rfl⟩
 obtain ⟨cl,hcl⟩:∃ z,z=css.getLast hne:=⟨_,rfl⟩
 rw [<- hc0,<- hcl] at hs;have hl0:cs0.length=fs.length:=by rw [hc0,List.length_dropLast];omega
 have hR:∀ (j:Nat) (y:WFr) (ds:List Value),fs[j]?=some y -> cs0[j]?=some ds -> R w F y ds:=fun j y ds e1 e2=>h5 j y ds (by rw [List.getElem?_append_left ((List.getElem?_eq_some_iff.1 e1).1)];exact e1) (by rw [<- hs,List.getElem?_append_left ((List.getElem?_eq_some_iff.1 e2).1)];exact e2)
 have hRl:R w F f cl:=h5 fs.length f cl (by rw [List.getElem?_append_right (Nat.le_refl _)];simp) (by rw [<- hs,List.getElem?_append_right (by omega)];simp [hl0])
 have hfl:cs0.flatten.length=fs.length*sz:=by
  rw [flat_one (sz:=sz) cs0 (fun ds hd=>?_),hl0];obtain ⟨j,hj,e⟩:=List.mem_iff_getElem.1 hd;have hj2:j < fs.length:=by omega
  exact L.len (hR j fs[j] ds (List.getElem?_eq_getElem hj2) (by rw [List.getElem?_eq_getElem hj,e]))
 have hfe:css.flatten=cs0.flatten++cl:=by rw [<- hs];simp
 rw [hfe] at h2;rcases h2.2 with ⟨_,h6⟩ | ⟨g,c,cur,hv,hb,hg,hnc,hcm,_⟩
 ·omega
 ·simp only [Value.slice.injEq] at hv
  obtain ⟨rfl,_,rfl⟩:=hv;refine ⟨g,cap,cs0,cl,by simp,h3 g rfl,hl0,hfl,L.len hRl,h2,hRl,hR,hnc,hcm⟩
end
section
variable {R:Lies WFr} {sz:Nat} {ty:TypeId} {w w':World} {T:WTags} {F:Nat -> Prop} {id i:Nat} {v:Value} {fs:List WFr} {f:WFr}
theorem FsAt.join {g cap:Nat} {css:List (List Value)} {cs:List Value} (ho:w.ownsRow 0 ty sz (.slice (some ⟨g,0,none⟩) (fs.length+1) cap) (fs.length+1) (css.flatten++cs)) (hg:T g=some (id, .fs i)) (hl:css.length=fs.length) (hR:R w F f cs)
 (hRs:∀ (j:Nat) (y:WFr) (ds:List Value),fs[j]?=some y -> css[j]?=some ds -> R w F y ds):FsAt R sz ty w T F id i (.slice (some ⟨g,0,none⟩) (fs.length+1) cap) (fs++[f]):=by
 refine ⟨css++[cs],by simp [hl],?_,fun kb e=>?_,⟨some ⟨g,0,none⟩,cap,by simp⟩,fun j y ds e1 e2=>?_⟩
 ·have e:(css++[cs]).flatten=css.flatten++cs:=by simp
  rw [e,List.length_append,List.length_singleton];exact ho
 ·have e':g=kb:=by simpa [Value.ownBlock] using e
  rw [<- e'];exact hg
 ·rcases Nat.lt_or_ge j fs.length with hj | hj
  ·rw [List.getElem?_append_left hj] at e1
   rw [List.getElem?_append_left (by omega)] at e2;exact hRs j y ds e1 e2
  ·rw [List.getElem?_append_right hj] at e1
   rw [List.getElem?_append_right (by omega),hl] at e2
   have hz:j - fs.length=0:=by
    have:=(List.getElem?_eq_some_iff.1 e1).1
    simpa using this
   rw [hz] at e1 e2;simp only [List.getElem?_cons_zero,Option.some.injEq] at e1 e2;subst e1 e2;exact hR
theorem FsAt.pop {g cap:Nat} {css:List (List Value)} {cs:List Value} (ho:w.ownsRow 0 ty sz (.slice (some ⟨g,0,none⟩) (fs.length+1) cap) (fs.length+1) (css.flatten++cs)) (hg:T g=some (id, .fs i)) (hl:css.length=fs.length) (hfl:css.flatten.length=fs.length*sz)
 (hRs:∀ (j:Nat) (y:WFr) (ds:List Value),fs[j]?=some y -> css[j]?=some ds -> R w F y ds):FsAt R sz ty w T F id i (.slice (some ⟨g,0,none⟩) fs.length cap) fs :=
 ⟨css,hl,ownsRow_pop hfl ho,fun kb e=>by
  have e':g=kb:=by simpa [Value.ownBlock] using e
  rw [<- e'];exact hg,⟨_,cap,rfl⟩,hRs⟩
end
section
variable {R:Lies WFr} {sz:Nat} {ty:TypeId} (L:LiesOk R sz)
include L
variable {w w':World} {T:WTags} {F:Nat -> Prop} {id i:Nat} {v:Value} {fs:List WFr} {f:WFr}
theorem FsAt.push {T':WTags} {ad:Option Addr} {n cap:Nat} {cs:List Value} (h:FsAt R sz ty w T F id i v fs) (hk:Keeps NoBlk w w') (hx:∀ k y,T k=some y -> T' k=some y) {w2:World} (ha:∀ css:List (List Value),css.length=fs.length -> w'.ownsRow 0 ty sz v fs.length css.flatten -> AppOut w' 0 ty sz v (fs.length+1) (css.flatten++cs) ad cap w2)
 (hT:∀ kb,(Value.slice ad (fs.length+1) cap).ownBlock=some kb -> T' kb=some (id, .fs i)) (hR:R w F f cs) (hF:∀ k,F k -> T k=none):FsAt R sz ty w2 T' F id i (.slice ad (fs.length+1) cap) (fs++[f]):=by
 obtain ⟨css,h1,h2,h3,h4,h5⟩:=h;have h2':=ownsRow_keeps h2 hk (fun _ _ h=>h);have ha':=ha css h1 h2';have hkA:Keeps (fun q=>v.ownBlock=some q) w' w2:=AppOut.keeps ha' (Keeps.refl _ _) (fun q e _=>e)
 have hkeep:∀ y ds,R w F y ds -> R w2 F y ds:=fun y ds hy=>L.keeps (L.keeps hy hk (fun _ _ h=>h)) hkA (fun k hf hs=>by
  have:=h3 k hs
  rw [hF k hf] at this;cases this)
 refine ⟨css++[cs],by simp [h1],?_,hT,⟨ad,cap,by simp⟩,fun j y ds e1 e2=>?_⟩
 ·have e:(css++[cs]).flatten=css.flatten++cs:=by simp
  rw [e,List.length_append,List.length_singleton];exact ha'.1
 ·rcases Nat.lt_or_ge j fs.length with hj | hj
  ·rw [List.getElem?_append_left hj] at e1
   rw [List.getElem?_append_left (by omega)] at e2;exact hkeep y ds (h5 j y ds e1 e2)
  ·rw [List.getElem?_append_right hj] at e1
   rw [List.getElem?_append_right (by omega),h1] at e2
   have hz:j - fs.length=0:=by
    have:=(List.getElem?_eq_some_iff.1 e1).1
    simpa using this
   rw [hz] at e1 e2;simp only [List.getElem?_cons_zero,Option.some.injEq] at e1 e2;subst e1 e2;exact hkeep _ _ hR
end
def Went (R:Lies WFr) (sz:Nat) (ty:TypeId) (w:World) (T:WTags) (F:Nat -> Prop) (id g i:Nat) (ths:List WTh) (t':WTh) (w':World):Prop :=
 ∃ T' H',ThsG R sz ty w' T' F id g H' (ths.set i t') /\ WExt T T' id w /\ Keeps (WThb T id) w w'
theorem Went.before {R:Lies WFr} {sz:Nat} {ty:TypeId} {w w1 w':World} {T:WTags} {F:Nat -> Prop} {id g i:Nat} {ths:List WTh} {t':WTh} (h:Went R sz ty w1 T F id g i ths t' w') (hk:Keeps NoBlk w w1):Went R sz ty w T F id g i ths t' w':=by
 obtain ⟨T',H',h1,h2,h3⟩:=h;exact ⟨T',H',h1,⟨h2.1,fun k y e=>(h2.2 k y e).imp (fun h=>h) (fun h=>⟨Nat.le_trans hk.size h.1,h.2⟩)⟩,(hk.mono (fun _ _ h=>h.elim)).trans h3 (fun _ _ h=>h)⟩
theorem Went.after {R:Lies WFr} {sz:Nat} {ty:TypeId} (L:LiesOk R sz) {w w' w2:World} {T:WTags} {F:Nat -> Prop} {id g i:Nat} {ths:List WTh} {t':WTh} (h:Went R sz ty w T F id g i ths t' w') (hk:Keeps NoBlk w' w2):Went R sz ty w T F id g i ths t' w2:=by
 obtain ⟨T',H',h1,h2,h3⟩:=h;exact ⟨T',H',ThsG.keeps L h1 hk (fun _ _ h=>h),h2,h3.trans hk (fun _ _ h=>h.elim)⟩
inductive AcC (w:World) (F:Nat -> Prop):Ac -> List Value -> Prop where
 | mk (k reg obj:Int) (ex:Ex) (count:Int) (t e:List Ac) (xs:List Value) (ta ea:Option Addr) (tc ec:Nat) (tss ess:Nat -> List Value) (hx:ExAt w F ex xs) (ht:t.length <= tc) (he:e.length <= ec)
    (t0:Elems w F 10 t.length ta tss) (t1:∀ i x,t[i]?=some x -> AcC w F x (tss i)) (e0:Elems w F 10 e.length ea ess) (e1:∀ i x,e[i]?=some x -> AcC w F x (ess i)) :
    AcC w F (.mk k reg obj ex count t e) ([.int .i64 k, .int .i64 reg, .int .i64 obj]++xs++[.int .i64 count, .slice ta t.length tc, .slice ea e.length ec])
section
variable {S F F':Nat -> Prop} {w w':World} {x:Ac} {cs:List Value} {l:List Ac} {v:Value}
theorem AcC.keeps (h:AcC w F x cs) (hk:Keeps S w w') (hS:∀ k,F k -> ¬ S k):AcC w' F x cs:=by
 induction h with
 | mk k reg obj ex count t e xs ta ea tc ec tss ess hx ht he t0 _ e0 _ ih1 ih2=>exact .mk k reg obj ex count t e xs ta ea tc ec tss ess (hx.keeps hk hS) ht he (t0.keeps hk hS) ih1 (e0.keeps hk hS) ih2
theorem AcC.mono (h:AcC w F x cs) (hF:∀ k,F k -> F' k):AcC w F' x cs:=by
 induction h with
 | mk k reg obj ex count t e xs ta ea tc ec tss ess hx ht he t0 _ e0 _ ih1 ih2=>exact .mk k reg obj ex count t e xs ta ea tc ec tss ess (hx.mono hF) ht he (t0.mono hF) ih1 (e0.mono hF) ih2
theorem AcC.len (h:AcC w F x cs):cs.length=10:=by
 cases h with
 | mk k reg obj ex count t e xs ta ea tc ec tss ess hx=>simp [hx.len]
theorem acCOk:LiesOk AcC 10:=⟨fun h=>h.keeps,fun h=>h.mono,fun h=>h.len⟩
def AcsC (w:World) (F:Nat -> Prop) (l:List Ac) (v:Value):Prop:=∃ ad cap css,v=.slice ad l.length cap /\ l.length <= cap /\ Elems w F 10 l.length ad css /\ ∀ i y,l[i]?=some y -> AcC w F y (css i)
theorem AcsC.keeps (h:AcsC w F l v) (hk:Keeps S w w') (hS:∀ k,F k -> ¬ S k):AcsC w' F l v:=by
 obtain ⟨ad,cap,css,e,hc,h0,h1⟩:=h;exact ⟨ad,cap,css,e,hc,h0.keeps hk hS,fun i y e=>(h1 i y e).keeps hk hS⟩
theorem AcsC.mono (h:AcsC w F l v) (hF:∀ k,F k -> F' k):AcsC w F' l v:=by
 obtain ⟨ad,cap,css,e,hc,h0,h1⟩:=h;exact ⟨ad,cap,css,e,hc,h0.mono hF,fun i y e=>(h1 i y e).mono hF⟩
theorem AcsC.nil (w:World) (F:Nat -> Prop):AcsC w F [] (.slice none 0 0):=⟨none,0,fun _=>[],rfl,Nat.le_refl _,fun i hi=>absurd hi (Nat.not_lt_zero _),fun i y e=>by simp at e⟩
theorem AcsC.slice (h:AcsC w F l v):∃ ad cap,v=.slice ad l.length cap:=by
 obtain ⟨ad,cap,css,e,_⟩:=h;exact ⟨ad,cap,e⟩
theorem AcC.cells (h:AcC w F x cs):∃ xa xc tv ev,cs=[.int .i64 x.kind, .int .i64 x.reg, .int .i64 x.obj, .int .i64 x.ex.kind, .int .i64 x.ex.num, .string x.ex.nm, .slice xa x.ex.args.length xc, .int .i64 x.count,tv,ev] ∧
 ExsAt w F x.ex.args xa /\ AcsC w F x.thn tv /\ AcsC w F x.els ev:=by
 cases h with
 | mk k r o ex c t e xs ta ea tc ec tss ess hx ht he t0 t1 e0 e1 =>
   obtain ⟨xa,xc,rfl,hxs⟩:=hx.exs;exact ⟨xa,xc,_,_,rfl,hxs,⟨ta,tc,tss,rfl,ht,t0,t1⟩,ea,ec,ess,rfl,he,e0,e1⟩
theorem AcC.ofCells (x:Ac) {xa:Option Addr} {xc:Nat} {tv ev:Value} (hx:ExsAt w F x.ex.args xa) (ht:AcsC w F x.thn tv) (he:AcsC w F x.els ev) :
 AcC w F x [.int .i64 x.kind, .int .i64 x.reg, .int .i64 x.obj, .int .i64 x.ex.kind, .int .i64 x.ex.num, .string x.ex.nm, .slice xa x.ex.args.length xc, .int .i64 x.count,tv,ev]:=by
 obtain ⟨ta,tc,tss,rfl,hc,t0,t1⟩:=ht;obtain ⟨ea,ec,ess,rfl,hc2,e0,e1⟩:=he;cases x with
 | mk k r o ex c t e=>exact .mk k r o ex c t e _ ta ea tc ec tss ess (ExAt.ofExs hx) hc hc2 t0 t1 e0 e1
theorem AcsC.head {a:Ac} {r:List Ac} (h:AcsC w F (a :: r) v):∃ g o cap xa xc tv ev,v=.slice (some ⟨g,o,none⟩) (r.length+1) cap /\ F g /\ ExsAt w F a.ex.args xa /\ AcsC w F a.thn tv /\ AcsC w F a.els ev ∧
 (w.cell? ⟨g,o,none⟩=some (.int .i64 a.kind) /\ w.cell? ⟨g,o+1,none⟩=some (.int .i64 a.reg) /\ w.cell? ⟨g,o+2,none⟩=some (.int .i64 a.obj) /\ w.cell? ⟨g,o+3,none⟩=some (.int .i64 a.ex.kind) /\ w.cell? ⟨g,o+4,none⟩=some (.int .i64 a.ex.num) ∧
   w.cell? ⟨g,o+5,none⟩=some (.string a.ex.nm) /\ w.cell? ⟨g,o+6,none⟩=some (.slice xa a.ex.args.length xc) /\ w.cell? ⟨g,o+7,none⟩=some (.int .i64 a.count) /\ w.cell? ⟨g,o+8,none⟩=some tv /\ w.cell? ⟨g,o+9,none⟩=some ev):=by
 obtain ⟨ad,cap,css,rfl,hc,h0,h1⟩:=h;obtain ⟨xa,xc,tv,ev,e,h2,h3,h4⟩:=(h1 0 a rfl).cells;obtain ⟨g,o,rfl,hg,hl,hs⟩:=h0 0 (Nat.succ_pos _);rw [e] at hs;refine ⟨g,o,cap,xa,xc,tv,ev,rfl,hg,h2,h3,h4,?_⟩
 have q:∀ j u,([.int .i64 a.kind, .int .i64 a.reg, .int .i64 a.obj, .int .i64 a.ex.kind, .int .i64 a.ex.num, .string a.ex.nm, .slice xa a.ex.args.length xc, .int .i64 a.count,tv,ev]:List Value)[j]?=some u -> w.cell? ⟨g,o+j,none⟩=some u:=fun j u hj=>by
  have:=hs j u hj
  rwa [Nat.zero_mul,Nat.zero_add] at this
 exact ⟨q 0 _ rfl,q 1 _ rfl,q 2 _ rfl,q 3 _ rfl,q 4 _ rfl,q 5 _ rfl,q 6 _ rfl,q 7 _ rfl,q 8 _ rfl,q 9 _ rfl⟩
theorem acsSlice:Tryz.prog.underlying 73=some (.slice (Tryz.prog.elem 73)):=by simp [Program.elem,Tryz.underlying73]
theorem infoAc:(Tryz.prog.info? 75).map (fun i=>(i.zero,i.size,i.bytes))=some (some (.agg #[.int .i64 0, .int .i64 0, .int .i64 0, .int .i64 0, .int .i64 0, .string noNm, .slice none 0 0, .int .i64 0, .slice none 0 0, .slice none 0 0]),10,136):=by kernel_rfl
theorem acsSize (w:World):(Go.sizeOf (Tryz.prog.elem 73)).run Tryz.prog w=.ok 10 w:=by
 have he:Tryz.prog.elem 73=75:=by simp [Program.elem,Tryz.underlying73]
 obtain ⟨i0,hi0,hz0,hz1,hz2⟩:=info_parts infoAc;rw [he];simp [go_sem,hi0,hz1]
theorem AcsC.tail {a:Ac} {r:List Ac} (h:AcsC w F (a :: r) v):∃ v',(∀ W,(Instr.slice 73 v (some (.int .i64 1)) none none).run Tryz.prog W=.ok v' W) /\ AcsC w F r v':=by
 obtain ⟨ad,cap,css,rfl,hc,h0,h1⟩:=h;have hc':r.length+1 <= cap:=hc;refine ⟨.slice (if cap=1 then ad else ad.map (·.add (1*10))) r.length (cap - 1),fun W=>?_,_,cap - 1,fun i=>css (i+1),rfl,by omega,fun i hi=>?_,fun i y e=>h1 (i+1) y (by simpa using e)⟩
 ·rw [run_slice_l W 73 _ _ _ acsSlice .i64 _ (by omega) (by simp;omega),acsSize]
  simp [Result.andThen,sliced]
 ·obtain ⟨g,o,rfl,hg,hl,hs⟩:=h0 (i+1) (by simpa using hi)
  refine ⟨g,o+10,?_,hg,hl,fun j u hj=>?_⟩
  ·rw [if_neg (by omega)]
   simp [Addr.add]
  ·have:=hs j u hj
   rwa [show o+10+(i*10+j)=o+((i+1)*10+j) by omega]
end
end Go.Proofs.YtnmifekgdkgknaaGreatDoor
