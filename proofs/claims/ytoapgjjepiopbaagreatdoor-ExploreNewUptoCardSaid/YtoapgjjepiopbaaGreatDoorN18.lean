/- Layer N: texts joined. -/
import Derived.Test.YtoapgjjepiopbaaGreatDoorN17
set_option linter.all false
namespace Go.Proofs.YtoapgjjepiopbaaGreatDoor
open Go.RowKit
theorem J68 (P:Prop) (h:P:=by
 obtain ⟨T',H',h1,h2,h3⟩:=h;exact ⟨T',H',h1,⟨h2.1,fun k y e=>(h2.2 k y e).imp (fun h=>h) (fun h=>⟨Nat.le_trans hk.size h.1,h.2⟩)⟩,(hk.mono (fun _ _ h=>h.elim)).trans h3 (fun _ _ h=>h)⟩):P:=h
theorem J129 (P:Prop) (h:P:=by
 have hd2:v=tot:=by rw [<- hd];omega
 exact J13 _):P:=h
theorem J193 (P:Prop) (h:P:=by obtain ⟨ba,bc,e,h1⟩:=h;exact ⟨ba,bc,e,h1.keeps hk hS⟩):P:=h
theorem J198 (P:Prop) (h:P:=by obtain ⟨ba,bc,e,h1⟩:=h;exact ⟨ba,bc,e,h1.mono hF⟩):P:=h
def zFZ:zBA Int:=fun w F x cs=>cs=[.string xNm, .int .i64 x]
theorem zMe:zAN zFZ 2:=⟨fun h _ _=>h,fun h _=>h,fun h=>by rw [h];rfl⟩
def zEY:zBA (List St):=fun w F t cs=>∃ ba bc,cs=[.string xNm, .slice ba t.length bc] /\ zm w F t ba
theorem zMN:zAN zEY 2:=⟨fun h hk hS=>by exact J193 _,fun h hF=>by exact J198 _,fun h=>by obtain ⟨ba,bc,e,h1⟩:=h;rw [e];rfl⟩
theorem zBo.mono {F F':Nat -> Prop} {w:World} {cs:List Int} {ad:Option Addr} (h:zBo w F cs ad) (hF:∀ k,F k -> F' k):zBo w F' cs ad:=by
 intro i hi
 obtain ⟨g,o,e,hg,c0,c1⟩:=h i hi;exact ⟨g,o,e,hF g hg,c0,c1⟩
theorem zX.mono {F F':Nat -> Prop} {w:World} {v:Value} {n:Nat} (h:zX w F v n) (hF:∀ k,F k -> F' k):zX w F' v n:=by
 obtain ⟨ad,cap,e,h1⟩:=h;refine ⟨ad,cap,e,fun i hi=>?_⟩
 obtain ⟨g,o,e,hg,c0⟩:=h1 i hi;exact ⟨g,o,e,hF g hg,c0⟩
theorem Acc.cls {w:World} {B n cap:Nat} {ty:TypeId} {ad:Option Addr} {cs:List Int} {css:List (List Value)} (h:Acc zFZ (fun _=>False) B 2 ty w (.slice ad n cap) cs css):zBo w (Since B w) cs ad:=by
 obtain ⟨h1,h2⟩:=h.elems zMe (ad:=ad) (n:=n) (cap:=cap) rfl;intro i hi
 obtain ⟨g,o,e,hg,hl,hc⟩:=h1 i hi;have hR:=h2 i cs[i] (List.getElem?_eq_getElem hi);have hR':css.getD i []=[.string xNm, .int .i64 cs[i]]:=hR;have hc0:=hc 0 (.string xNm) (by show (css.getD i [])[_]?=_;rw [hR'];rfl);have hc1:=hc 1 (.int .i64 cs[i]) (by show (css.getD i [])[_]?=_;rw [hR'];rfl);refine ⟨g,o,e,hg.elim False.elim (fun h=>h),hc0,?_⟩
 rw [Nat.add_assoc];exact hc1
theorem Acc.ths {w:World} {B n cap:Nat} {ty:TypeId} {ad:Option Addr} {ts:List (List St)} {css:List (List Value)} (h:Acc zEY (fun _=>False) B 2 ty w (.slice ad n cap) ts css) (hl:ts.length <= 1000):zAP w (Since B w) xNm ts ad:=by
 obtain ⟨h1,h2⟩:=h.elems zMN (ad:=ad) (n:=n) (cap:=cap) rfl;refine ⟨hl,fun i hi=>?_⟩
 obtain ⟨g,o,e,hg,hl,hc⟩:=h1 i hi;obtain ⟨ba,bc,hR',hs⟩:=h2 i ts[i] (List.getElem?_eq_getElem hi);have hc0:=hc 0 (.string xNm) (by show (css.getD i [])[_]?=_;rw [hR'];rfl);have hc1:=hc 1 (.slice ba ts[i].length bc) (by show (css.getD i [])[_]?=_;rw [hR'];rfl);have hm:∀ k,(False \/ (B <= k /\ k < w.heap.size)) -> Since B w k:=fun k hk=>hk.elim False.elim (fun h=>h)
 refine ⟨g,o,ba,bc,e,hm g hg,hc0,?_,hs.mono hm⟩
 rw [Nat.add_assoc];exact hc1
def zAn (w:World) (F:Nat -> Prop) (cs:List Int) (ad:Option Addr):Prop :=
 ∀ i (hi:i < cs.length),∃ g o,ad=some ⟨g,o,none⟩ /\ F g /\ w.cell? ⟨g,o+i,none⟩=some (.int .i64 cs[i])
theorem zAn.keeps {S F:Nat -> Prop} {w w':World} {cs:List Int} {ad:Option Addr} (h:zAn w F cs ad) (hk:Keeps S w w') (hS:∀ k,F k -> ¬ S k):zAn w' F cs ad:=by
 exact J106 _
def zBa (w:World) (F:Nat -> Prop) (bs:List Bd) (ad:Option Addr):Prop :=
 ∀ i (hi:i < bs.length),∃ g o ba bc,ad=some ⟨g,o,none⟩ /\ F g /\ w.cell? ⟨g,o+i*2,none⟩=some (.int .i64 bs[i].regs) /\ w.cell? ⟨g,o+i*2+1,none⟩=some (.slice ba bs[i].acts.length bc) /\ zAG w F bs[i].acts ba
theorem zBa.keeps {S F:Nat -> Prop} {w w':World} {bs:List Bd} {ad:Option Addr} (h:zBa w F bs ad) (hk:Keeps S w w') (hS:∀ k,F k -> ¬ S k):zBa w' F bs ad:=by
 intro i hi
 obtain ⟨g,o,ba,bc,e,hg,c0,c1,h1⟩:=h i hi;exact ⟨g,o,ba,bc,e,hg,hk.cell (p:=⟨g,_,none⟩) (hS g hg) c0,hk.cell (p:=⟨g,_,none⟩) (hS g hg) c1,h1.keeps hk hS⟩
def zDc (w:World) (F:Nat -> Prop) (rs:List Nat) (ad:Option Addr):Prop :=
 ∀ i (hi:i < rs.length),∃ g o ra rc,ad=some ⟨g,o,none⟩ /\ F g /\ w.cell? ⟨g,o+i,none⟩=some (.slice ra rs[i] rc) /\ zX w F (.slice ra rs[i] rc) rs[i]
theorem zDc.keeps {S F:Nat -> Prop} {w w':World} {rs:List Nat} {ad:Option Addr} (h:zDc w F rs ad) (hk:Keeps S w w') (hS:∀ k,F k -> ¬ S k):zDc w' F rs ad:=by
 intro i hi
 obtain ⟨g,o,ra,rc,e,hg,c0,h1⟩:=h i hi;exact ⟨g,o,ra,rc,e,hg,hk.cell (p:=⟨g,_,none⟩) (hS g hg) c0,h1.keeps hk hS⟩
theorem zC.two {w:World} {g:Nat} {a b:Value} (r:zC w g [a,b]):w.cell? ⟨g,0,none⟩=some a /\ w.cell? ⟨g,1,none⟩=some b:=⟨r.cell (k:=0) rfl,r.cell (k:=1) rfl⟩
theorem zKS:(Tryz.prog.info? 182).map (fun i=>(i.zero,i.size,i.bytes))=some (some (.agg #[.string zn, .int .i64 0]),2,24):=by kernel_rfl
theorem zE3:(Tryz.prog.info? 111).map (fun i=>(i.zero,i.size,i.bytes))=some (some (.agg #[.string zn, .slice none 0 0]),2,40):=by kernel_rfl
inductive WTg where
 | mach | cells | owners | ths
 | regs (i:Nat) | fs (i:Nat)
deriving DecidableEq
abbrev zAA:=Nat -> Option (Nat × WTg)
def zFr (T:zAA) (id:Nat) (k:Nat):Prop:=∃ t,T k=some (id,t)
def zHx (T:zAA) (id:Nat) (k:Nat):Prop:=T k=some (id, .ths) \/ ∃ i,T k=some (id, .regs i) \/ T k=some (id, .fs i)
theorem zHx.own {T:zAA} {id k:Nat} (h:zHx T id k):zFr T id k:=by
 rcases h with h | ⟨i,h | h⟩ <;> exact ⟨_,h⟩
structure zFx (w:World) (T:zAA) (F:Nat -> Prop):Prop where
 ok:∀ k x,T k=some x -> k < w.heap.size
 sep:∀ k,F k -> T k=none
 low:∀ k,F k -> k < w.heap.size
theorem zFx.keeps {S:Nat -> Prop} {w w':World} {T:zAA} {F:Nat -> Prop} (h:zFx w T F) (hk:Keeps S w w'):zFx w' T F :=
 ⟨fun k x e=>Nat.lt_of_lt_of_le (h.ok k x e) hk.size,h.sep,fun k hF=>Nat.lt_of_lt_of_le (h.low k hF) hk.size⟩
def zCT (T T':zAA) (id:Nat) (w:World):Prop:=(∀ k y,T k=some y -> T' k=some y) /\ ∀ k y,T' k=some y -> T k=some y \/ (w.heap.size <= k /\ y.1=id)
theorem zCT.refl (T:zAA) (id:Nat) (w:World):zCT T T id w:=⟨fun _ _ h=>h,fun _ _ h=>.inl h⟩
theorem zCT.trans {T1 T2 T3:zAA} {id:Nat} {w w':World} (h:zCT T1 T2 id w) (h':zCT T2 T3 id w') (hs:w.heap.size <= w'.heap.size):zCT T1 T3 id w :=
 ⟨fun k y e=>h'.1 k y (h.1 k y e),fun k y e=>by
  rcases h'.2 k y e with h1 | h1
  ·exact h.2 k y h1
  ·exact .inr ⟨Nat.le_trans hs h1.1,h1.2⟩⟩
theorem zCT.none {T T':zAA} {id:Nat} {w:World} (h:zCT T T' id w) {k:Nat} (h1:T k=none) (h2:k < w.heap.size):T' k=none:=by
 cases e:T' k with
 | none=>rfl
 | some y =>
   rcases h.2 k y e with h3 | h3
   ·rw [h1] at h3;cases h3
   ·omega
theorem zCT.own {T T':zAA} {id:Nat} {w:World} (h:zCT T T' id w) {k i:Nat} (hk:zFr T' i k) (h2:k < w.heap.size):zFr T i k:=by
 obtain ⟨t,e⟩:=hk;rcases h.2 k _ e with h3 | h3
 ·exact ⟨t,h3⟩
 ·omega
def zNW (T:zAA) (id:Nat) (t:WTg) (g:Nat):zAA:=fun q=>if q=g then some (id,t) else T q
theorem zFx.tag {w:World} {T:zAA} {F:Nat -> Prop} (h:zFx w T F) {id:Nat} {t:WTg} {g:Nat} (hg:g < w.heap.size) (hF:¬ F g):zFx w (zNW T id t g) F:=by
 refine ⟨fun k x e=>?_,fun k hk=>?_,h.low⟩
 ·unfold zNW at e
  by_cases hk:k=g
  ·subst hk;exact hg
  ·rw [if_neg hk] at e;exact h.ok k x e
 ·unfold zNW
  rw [if_neg (fun e=>hF (by rw [<- e];exact hk))];exact h.sep k hk
theorem zFx.free {w:World} {T:zAA} {F:Nat -> Prop} (h:zFx w T F) {g:Nat} (hg:w.heap.size <= g):T g=none /\ ¬ F g:=by
 refine ⟨?_,fun hF=>by have:=h.low g hF;omega⟩
 cases e:T g with
 | none=>rfl
 | some y=>have:=h.ok g y e;omega
def zBS (w:World) (T:zAA) (id:Nat) (t:WTg) (v:Value) (xs:List Int):Prop :=
 ∃ ad cap,v=.slice ad xs.length cap /\ (xs ≠ [] -> ∃ g,ad=some ⟨g,0,none⟩ /\ T g=some (id,t) /\ zC w g (ints xs))
section
variable {S:Nat -> Prop} {w w':World} {T T':zAA} {id:Nat} {t:WTg} {v:Value} {xs:List Int}
theorem zBS.keeps (h:zBS w T id t v xs) (hk:Keeps S w w') (hS:∀ k,T k=some (id,t) -> ¬ S k):zBS w' T id t v xs:=by
 obtain ⟨ad,cap,e,h1⟩:=h;refine ⟨ad,cap,e,fun hn=>?_⟩
 obtain ⟨g,e1,e2,e3⟩:=h1 hn;exact ⟨g,e1,e2,e3.keeps hk (hS g e2)⟩
theorem zBS.ext (h:zBS w T id t v xs) (hx:∀ k y,T k=some y -> T' k=some y):zBS w T' id t v xs:=by
 obtain ⟨ad,cap,e,h1⟩:=h;refine ⟨ad,cap,e,fun hn=>?_⟩
 obtain ⟨g,e1,e2,e3⟩:=h1 hn;exact ⟨g,e1,hx _ _ e2,e3⟩
theorem zBS.at (h:zBS w T id t v xs) {k:Nat} (hk:k < xs.length):∃ g cap,v=.slice (some ⟨g,0,none⟩) xs.length cap /\ T g=some (id,t) /\ zC w g (ints xs):=by
 obtain ⟨ad,cap,e,h1⟩:=h;obtain ⟨g,e1,e2,e3⟩:=h1 (fun e=>by rw [e] at hk;simp at hk);subst e1;exact ⟨g,cap,e,e2,e3⟩
theorem zBS.set {g cap:Nat} (hT:T g=some (id,t)) (h:zC w g (ints xs)) (k:Nat) (hk:k < xs.length) (u:Int) :
 zBS (w.setCell ⟨g,k,none⟩ (.int .i64 u)) T id t (.slice (some ⟨g,0,none⟩) xs.length cap) (xs.set k u):=by
 have:=h.set k (by rw [zCX];exact hk) (.int .i64 u)
 rw [ints_set] at this;exact ⟨_,cap,by rw [List.length_set],fun _=>⟨g,rfl,hT,this⟩⟩
theorem zBS.src (h:zBS w T id t v xs):zU w v xs.length (ints xs):=by
 obtain ⟨ad,cap,e,h1⟩:=h;refine ⟨ad,cap,e,fun hn=>?_⟩
 obtain ⟨g,e1,_,e3⟩:=h1 (fun e=>by rw [e] at hn;exact hn rfl);exact ⟨g,0,e1,e3.rng⟩
theorem zBS.of {e:TypeId} {base:Nat} (h:w.ownsRow base e 1 v xs.length (ints xs)) (hT:∀ kb,v.ownBlock=some kb -> T kb=some (id,t)) (hv:∃ ad cap,v=.slice ad xs.length cap):zBS w T id t v xs:=by
 obtain ⟨ad,cap,rfl⟩:=hv;refine ⟨ad,cap,rfl,fun hn=>?_⟩
 rcases h.2 with ⟨_,h1⟩ | ⟨g,c,cur,h1,_⟩
 ·exact absurd (List.eq_nil_of_length_eq_zero h1) hn
 ·simp only [Value.slice.injEq] at h1
  obtain ⟨rfl,_,rfl⟩:=h1;exact ⟨g,rfl,hT g rfl,zC.zAM h⟩
end
section
variable (R:zBA WFr) (sz:Nat) (ty:TypeId)
def zCY (w:World) (T:zAA) (F:Nat -> Prop) (id i:Nat) (v:Value) (fs:List WFr):Prop :=
 ∃ css:List (List Value),css.length=fs.length /\ w.ownsRow 0 ty sz v fs.length css.flatten /\ (∀ kb,v.ownBlock=some kb -> T kb=some (id, .fs i)) /\ (∃ ad cap,v=.slice ad fs.length cap) ∧
   ∀ (j:Nat) (f:WFr) (cs:List Value),fs[j]?=some f -> css[j]?=some cs -> R w F f cs
structure HTh where
 st:Int
 rv:Value
 fv:Value
def HTh.cells (h:HTh):List Value:=[.int .i64 h.st,h.rv,h.fv]
theorem zIg (h:HTh):h.cells.length=3:=rfl
def zCt (H:List HTh):List Value:=H.flatMap HTh.cells
structure zCq (w:World) (T:zAA) (F:Nat -> Prop) (id g:Nat) (H:List HTh) (ths:List WTh):Prop where
 tag:T g=some (id, .ths)
 sep:zFx w T F
 row:zC w g (zCt H)
 len:H.length=ths.length
 each:∀ i h t,H[i]?=some h -> ths[i]?=some t -> h.st=t.st /\ zBS w T id (.regs i) h.rv t.regs /\ zCY R sz ty w T F id i h.fv t.fs
end
section
variable {R:zBA WFr} {sz:Nat} {ty:TypeId} (L:zAN R sz)
include L
variable {S:Nat -> Prop} {w w':World} {T T':zAA} {F:Nat -> Prop} {id i g:Nat} {v:Value} {fs:List WFr} {H:List HTh} {ths:List WTh}
theorem zCY.keeps (h:zCY R sz ty w T F id i v fs) (hk:Keeps S w w') (hS:∀ k,T k=some (id, .fs i) -> ¬ S k) (hF:∀ k,F k -> ¬ S k):zCY R sz ty w' T F id i v fs:=by
 obtain ⟨css,h1,h2,h3,h4,h5⟩:=h;exact ⟨css,h1,zF h2 hk (fun k e=>hS k (h3 k e)),h3,h4,fun j f cs e1 e2=>L.keeps (h5 j f cs e1 e2) hk hF⟩
theorem zCq.keeps (h:zCq R sz ty w T F id g H ths) (hk:Keeps S w w') (hS:∀ k,zHx T id k \/ F k -> ¬ S k):zCq R sz ty w' T F id g H ths :=
 ⟨h.tag,h.sep.keeps hk,h.row.keeps hk (hS g (.inl (.inl h.tag))),h.len,fun i a t e1 e2=>by
  obtain ⟨h1,h2,h3⟩:=h.each i a t e1 e2;exact ⟨h1,h2.keeps hk (fun k e=>hS k (.inl (.inr ⟨i, .inl e⟩))),zCY.keeps L h3 hk (fun k e=>hS k (.inl (.inr ⟨i, .inr e⟩))) (fun k e=>hS k (.inr e))⟩⟩
end
section
variable {R:zBA WFr} {sz:Nat} {ty:TypeId} {w w':World} {T T':zAA} {F:Nat -> Prop} {id i g:Nat} {v:Value} {fs:List WFr} {H:List HTh} {ths:List WTh}
theorem zCY.ext (h:zCY R sz ty w T F id i v fs) (hx:∀ k y,T k=some y -> T' k=some y):zCY R sz ty w T' F id i v fs:=by
 obtain ⟨css,h1,h2,h3,h4,h5⟩:=h;exact ⟨css,h1,h2,fun k e=>hx _ _ (h3 k e),h4,h5⟩
theorem zCq.get (h:zCq R sz ty w T F id g H ths) {t:WTh} (ht:ths[i]?=some t):∃ rv fv,H[i]?=some ⟨t.st,rv,fv⟩ /\ zBS w T id (.regs i) rv t.regs /\ zCY R sz ty w T F id i fv t.fs:=by
 have hi:i < ths.length:=(List.getElem?_eq_some_iff.1 ht).1;have hi':i < H.length:=by rw [h.len];exact hi
 have hH:H[i]?=some H[i]:=List.getElem?_eq_getElem hi';obtain ⟨e1,e2,e3⟩:=h.each i _ t hH ht;exact ⟨H[i].rv,H[i].fv,by rw [hH,<- e1],e2,e3⟩
theorem zGT {a:HTh} (hr:zC w g (zCt H)) (ha:H[i]?=some a) (j:Nat) {u:Value} (hu:a.cells[j]?=some u):w.cell? ⟨g,i*3+j,none⟩=some u:=by
 refine hr.cell ?_
 have hj:j < 3:=(List.getElem?_eq_some_iff.1 hu).1;show (H.flatMap HTh.cells)[i*3+j]?=_
 rw [zAu _ 3 zIg H i j hj,ha];exact hu
theorem zMj (hr:zC w g (zCt H)) (hi:i < H.length) (j:Nat) (hj:j < 3):w.frozen? ⟨g,i*3+j,none⟩=false :=
 hr.free (by unfold zCt;rw [zAC _ 3 zIg];omega)
theorem zDB (hr:zC w g (zCt H)) {a:HTh} (ha:H[i]?=some a):w.cell? ⟨g,i*3,none⟩=some (.int .i64 a.st) /\ w.cell? ⟨g,i*3+1,none⟩=some a.rv /\ w.cell? ⟨g,i*3+2,none⟩=some a.fv :=
 ⟨zGT hr ha 0 rfl,zGT hr ha 1 rfl,zGT hr ha 2 rfl⟩
theorem zCq.upd (L:zAN R sz) (h:zCq R sz ty w T F id g H ths) (hx:zCT T T' id w) (hsep:zFx w' T' F) (hk:Keeps (fun k=>k=g \/ T k=some (id, .regs i) \/ T k=some (id, .fs i)) w w') {a':HTh} {t':WTh}
 (hr:zC w' g (zCt (H.set i a'))) (h1:a'.st=t'.st) (h2:zBS w' T' id (.regs i) a'.rv t'.regs) (h3:zCY R sz ty w' T' F id i a'.fv t'.fs):zCq R sz ty w' T' F id g (H.set i a') (ths.set i t'):=by
 refine ⟨hx.1 _ _ h.tag,hsep,hr,by simp [h.len],fun k b t hb ht=>?_⟩
 by_cases e:i=k
 ·subst e
  rw [List.getElem?_set_self'] at hb ht;obtain ⟨b0,hb0,rfl⟩:=Option.map_eq_some_iff.1 hb;obtain ⟨t0,ht0,rfl⟩:=Option.map_eq_some_iff.1 ht;exact ⟨h1,h2,h3⟩
 ·rw [List.getElem?_set_ne e] at hb ht
  obtain ⟨e1,e2,e3⟩:=h.each k b t hb ht
  have hF:∀ q,F q -> ¬ (q=g \/ T q=some (id, .regs i) \/ T q=some (id, .fs i)):=fun q hq hn=>by
   have:=h.sep.sep q hq
   rcases hn with rfl | hn | hn
   ·rw [h.tag] at this;cases this
   ·rw [hn] at this;cases this
   ·rw [hn] at this;cases this
  refine ⟨e1,(e2.keeps hk (fun q hq hn=>?_)).ext hx.1,(zCY.keeps L e3 hk (fun q hq hn=>?_) hF).ext hx.1⟩
  ·rcases hn with rfl | hn | hn
   ·rw [h.tag] at hq;cases hq
   ·rw [hn] at hq;cases hq;exact e rfl
   ·rw [hn] at hq;cases hq
  ·rcases hn with rfl | hn | hn
   ·rw [h.tag] at hq;cases hq
   ·rw [hn] at hq;cases hq
   ·rw [hn] at hq;cases hq;exact e rfl
end
theorem zHP {α:Type} {sz:Nat}:∀ (l:List (List α)),(∀ ds,ds ∈ l -> ds.length=sz) -> l.flatten.length=l.length*sz
 | [],_=>by simp
 | x :: r,h=>by
   rw [List.flatten_cons,List.length_append,h x List.mem_cons_self,zHP r (fun ds hd=>h ds (List.mem_cons_of_mem _ hd)),List.length_cons,Nat.add_mul];omega
section
variable {R:zBA WFr} {sz:Nat} {ty:TypeId} (L:zAN R sz)
include L
variable {w w':World} {T:zAA} {F:Nat -> Prop} {id i:Nat} {v:Value} {fs:List WFr} {f:WFr}
theorem zCY.split (h:zCY R sz ty w T F id i v (fs++[f])):∃ (g cap:Nat) (css:List (List Value)) (cs:List Value),v=.slice (some ⟨g,0,none⟩) (fs.length+1) cap /\ T g=some (id, .fs i) /\ css.length=fs.length /\ css.flatten.length=fs.length*sz /\ cs.length=sz ∧
 w.ownsRow 0 ty sz (.slice (some ⟨g,0,none⟩) (fs.length+1) cap) (fs.length+1) (css.flatten++cs) /\ R w F f cs /\ (∀ (j:Nat) (y:WFr) (ds:List Value),fs[j]?=some y -> css[j]?=some ds -> R w F y ds) /\ fs.length+1 <= cap /\ cap <= maxLen:=by
 obtain ⟨css,h1,h2,h3,⟨ad,cap,rfl⟩,h5⟩:=h;rw [List.length_append,List.length_singleton] at h1 h2 h3;have hne:css ≠ []:=fun e=>by rw [e] at h1;simp at h1
 have hs:=List.dropLast_concat_getLast hne;obtain ⟨cs0,hc0⟩:=eX css.dropLast;obtain ⟨cl,hcl⟩:=eX (css.getLast hne);rw [<- hc0,<- hcl] at hs;have hl0:cs0.length=fs.length:=by rw [hc0,List.length_dropLast];omega
 have hR:∀ (j:Nat) (y:WFr) (ds:List Value),fs[j]?=some y -> cs0[j]?=some ds -> R w F y ds:=fun j y ds e1 e2=>h5 j y ds (by rw [List.getElem?_append_left ((List.getElem?_eq_some_iff.1 e1).1)];exact e1) (by rw [<- hs,List.getElem?_append_left ((List.getElem?_eq_some_iff.1 e2).1)];exact e2)
 have hRl:R w F f cl:=h5 fs.length f cl (by rw [List.getElem?_append_right (Nat.le_refl _)];simp) (by rw [<- hs,List.getElem?_append_right (by omega)];simp [hl0])
 have hfl:cs0.flatten.length=fs.length*sz:=by
  rw [zHP (sz:=sz) cs0 (fun ds hd=>?_),hl0];obtain ⟨j,hj,e⟩:=List.mem_iff_getElem.1 hd;have hj2:j < fs.length:=by omega
  exact L.len (hR j fs[j] ds (List.getElem?_eq_getElem hj2) (by rw [List.getElem?_eq_getElem hj,e]))
 have hfe:css.flatten=cs0.flatten++cl:=by rw [<- hs];simp
 rw [hfe] at h2;rcases h2.2 with ⟨_,h6⟩ | ⟨g,c,cur,hv,hb,hg,hnc,hcm,_⟩
 ·omega
 ·simp only [Value.slice.injEq] at hv
  obtain ⟨rfl,_,rfl⟩:=hv;refine ⟨g,cap,cs0,cl,by simp,h3 g rfl,hl0,hfl,L.len hRl,h2,hRl,hR,hnc,hcm⟩
end
section
variable {R:zBA WFr} {sz:Nat} {ty:TypeId} {w w':World} {T:zAA} {F:Nat -> Prop} {id i:Nat} {v:Value} {fs:List WFr} {f:WFr}
theorem zCY.join {g cap:Nat} {css:List (List Value)} {cs:List Value} (ho:w.ownsRow 0 ty sz (.slice (some ⟨g,0,none⟩) (fs.length+1) cap) (fs.length+1) (css.flatten++cs)) (hg:T g=some (id, .fs i)) (hl:css.length=fs.length) (hR:R w F f cs)
 (hRs:∀ (j:Nat) (y:WFr) (ds:List Value),fs[j]?=some y -> css[j]?=some ds -> R w F y ds):zCY R sz ty w T F id i (.slice (some ⟨g,0,none⟩) (fs.length+1) cap) (fs++[f]):=by
 refine ⟨css++[cs],by simp [hl],?_,fun kb e=>?_,⟨some ⟨g,0,none⟩,cap,by simp⟩,fun j y ds e1 e2=>?_⟩
 ·have e:(css++[cs]).flatten=css.flatten++cs:=by simp
  rw [e,List.length_append,List.length_singleton];exact ho
 ·have e':g=kb:=by simpa [Value.ownBlock] using e
  rw [<- e'];exact hg
 ·rcases Nat.lt_or_ge j fs.length with hj | hj
  ·rw [List.getElem?_append_left hj] at e1
   rw [List.getElem?_append_left (by omega)] at e2;exact hRs j y ds e1 e2
  ·rw [List.getElem?_append_right hj] at e1
   rw [List.getElem?_append_right (by omega),hl] at e2
   have hz:j - fs.length=0:=by
    have:=(List.getElem?_eq_some_iff.1 e1).1
    simpa using this
   rw [hz] at e1 e2;simp only [List.getElem?_cons_zero,Option.some.injEq] at e1 e2;subst e1 e2;exact hR
end
section
variable {R:zBA WFr} {sz:Nat} {ty:TypeId} (L:zAN R sz)
include L
variable {w w':World} {T:zAA} {F:Nat -> Prop} {id i:Nat} {v:Value} {fs:List WFr} {f:WFr}
theorem zCY.push {T':zAA} {ad:Option Addr} {n cap:Nat} {cs:List Value} (h:zCY R sz ty w T F id i v fs) (hk:Keeps zA w w') (hx:∀ k y,T k=some y -> T' k=some y) {w2:World} (ha:∀ css:List (List Value),css.length=fs.length -> w'.ownsRow 0 ty sz v fs.length css.flatten -> zi w' 0 ty sz v (fs.length+1) (css.flatten++cs) ad cap w2)
 (hT:∀ kb,(Value.slice ad (fs.length+1) cap).ownBlock=some kb -> T' kb=some (id, .fs i)) (hR:R w F f cs) (hF:∀ k,F k -> T k=none):zCY R sz ty w2 T' F id i (.slice ad (fs.length+1) cap) (fs++[f]):=by
 obtain ⟨css,h1,h2,h3,h4,h5⟩:=h;have h2':=zF h2 hk (fun _ _ h=>h);have ha':=ha css h1 h2';have hkA:Keeps (fun q=>v.ownBlock=some q) w' w2:=zi.keeps ha' (Keeps.refl _ _) (fun q e _=>e)
 have hkeep:∀ y ds,R w F y ds -> R w2 F y ds:=fun y ds hy=>L.keeps (L.keeps hy hk (fun _ _ h=>h)) hkA (fun k hf hs=>by
  have:=h3 k hs
  rw [hF k hf] at this;cases this)
 refine ⟨css++[cs],by simp [h1],?_,hT,⟨ad,cap,by simp⟩,fun j y ds e1 e2=>?_⟩
 ·have e:(css++[cs]).flatten=css.flatten++cs:=by simp
  rw [e,List.length_append,List.length_singleton];exact ha'.1
 ·rcases Nat.lt_or_ge j fs.length with hj | hj
  ·rw [List.getElem?_append_left hj] at e1
   rw [List.getElem?_append_left (by omega)] at e2;exact hkeep y ds (h5 j y ds e1 e2)
  ·rw [List.getElem?_append_right hj] at e1
   rw [List.getElem?_append_right (by omega),h1] at e2
   have hz:j - fs.length=0:=by
    have:=(List.getElem?_eq_some_iff.1 e1).1
    simpa using this
   rw [hz] at e1 e2;simp only [List.getElem?_cons_zero,Option.some.injEq] at e1 e2;subst e1 e2;exact hkeep _ _ hR
end
def zE5 (R:zBA WFr) (sz:Nat) (ty:TypeId) (w:World) (T:zAA) (F:Nat -> Prop) (id g i:Nat) (ths:List WTh) (t':WTh) (w':World):Prop :=
 ∃ T' H',zCq R sz ty w' T' F id g H' (ths.set i t') /\ zCT T T' id w /\ Keeps (zHx T id) w w'
theorem zE5.before {R:zBA WFr} {sz:Nat} {ty:TypeId} {w w1 w':World} {T:zAA} {F:Nat -> Prop} {id g i:Nat} {ths:List WTh} {t':WTh} (h:zE5 R sz ty w1 T F id g i ths t' w') (hk:Keeps zA w w1):zE5 R sz ty w T F id g i ths t' w':=by
 exact J68 _
theorem zE5.after {R:zBA WFr} {sz:Nat} {ty:TypeId} (L:zAN R sz) {w w' w2:World} {T:zAA} {F:Nat -> Prop} {id g i:Nat} {ths:List WTh} {t':WTh} (h:zE5 R sz ty w T F id g i ths t' w') (hk:Keeps zA w' w2):zE5 R sz ty w T F id g i ths t' w2:=by
 obtain ⟨T',H',h1,h2,h3⟩:=h;exact ⟨T',H',zCq.keeps L h1 hk (fun _ _ h=>h),h2,h3.trans hk (fun _ _ h=>h.elim)⟩
inductive AcC (w:World) (F:Nat -> Prop):Ac -> List Value -> Prop where
 | mk (k reg obj:Int) (ex:Ex) (count:Int) (t e:List Ac) (xs:List Value) (ta ea:Option Addr) (tc ec:Nat) (tss ess:Nat -> List Value) (hx:zA5 w F ex xs) (ht:t.length <= tc) (he:e.length <= ec)
    (t0:zAx w F 10 t.length ta tss) (t1:∀ i x,t[i]?=some x -> AcC w F x (tss i)) (e0:zAx w F 10 e.length ea ess) (e1:∀ i x,e[i]?=some x -> AcC w F x (ess i)) :
    AcC w F (.mk k reg obj ex count t e) ([.int .i64 k, .int .i64 reg, .int .i64 obj]++xs++[.int .i64 count, .slice ta t.length tc, .slice ea e.length ec])
section
variable {S F F':Nat -> Prop} {w w':World} {x:Ac} {cs:List Value} {l:List Ac} {v:Value}
theorem AcC.keeps (h:AcC w F x cs) (hk:Keeps S w w') (hS:∀ k,F k -> ¬ S k):AcC w' F x cs:=by
 induction h with
 | mk k reg obj ex count t e xs ta ea tc ec tss ess hx ht he t0 _ e0 _ ih1 ih2=>exact .mk k reg obj ex count t e xs ta ea tc ec tss ess (hx.keeps hk hS) ht he (t0.keeps hk hS) ih1 (e0.keeps hk hS) ih2
theorem AcC.mono (h:AcC w F x cs) (hF:∀ k,F k -> F' k):AcC w F' x cs:=by
 induction h with
 | mk k reg obj ex count t e xs ta ea tc ec tss ess hx ht he t0 _ e0 _ ih1 ih2=>exact .mk k reg obj ex count t e xs ta ea tc ec tss ess (hx.mono hF) ht he (t0.mono hF) ih1 (e0.mono hF) ih2
theorem AcC.len (h:AcC w F x cs):cs.length=10:=by
 cases h with
 | mk k reg obj ex count t e xs ta ea tc ec tss ess hx=>simp [hx.len]
def zBm (w:World) (F:Nat -> Prop) (l:List Ac) (v:Value):Prop:=∃ ad cap css,v=.slice ad l.length cap /\ l.length <= cap /\ zAx w F 10 l.length ad css /\ ∀ i y,l[i]?=some y -> AcC w F y (css i)
theorem zBm.keeps (h:zBm w F l v) (hk:Keeps S w w') (hS:∀ k,F k -> ¬ S k):zBm w' F l v:=by
 obtain ⟨ad,cap,css,e,hc,h0,h1⟩:=h;exact ⟨ad,cap,css,e,hc,h0.keeps hk hS,fun i y e=>(h1 i y e).keeps hk hS⟩
theorem zBm.mono (h:zBm w F l v) (hF:∀ k,F k -> F' k):zBm w F' l v:=by
 obtain ⟨ad,cap,css,e,hc,h0,h1⟩:=h;exact ⟨ad,cap,css,e,hc,h0.mono hF,fun i y e=>(h1 i y e).mono hF⟩
theorem zBm.nil (w:World) (F:Nat -> Prop):zBm w F [] (.slice none 0 0):=⟨none,0,fun _=>[],rfl,Nat.le_refl _,fun i hi=>absurd hi (Nat.not_lt_zero _),fun i y e=>by simp at e⟩
theorem zBm.slice (h:zBm w F l v):∃ ad cap,v=.slice ad l.length cap:=by
 obtain ⟨ad,cap,css,e,_⟩:=h;exact ⟨ad,cap,e⟩
theorem AcC.cells (h:AcC w F x cs):∃ xa xc tv ev,cs=[.int .i64 x.kind, .int .i64 x.reg, .int .i64 x.obj, .int .i64 x.ex.kind, .int .i64 x.ex.num, .string x.ex.nm, .slice xa x.ex.args.length xc, .int .i64 x.count,tv,ev] ∧
 zR w F x.ex.args xa /\ zBm w F x.thn tv /\ zBm w F x.els ev:=by
 cases h with
 | mk k r o ex c t e xs ta ea tc ec tss ess hx ht he t0 t1 e0 e1 =>
   obtain ⟨xa,xc,rfl,hxs⟩:=hx.exs;exact ⟨xa,xc,_,_,rfl,hxs,⟨ta,tc,tss,rfl,ht,t0,t1⟩,ea,ec,ess,rfl,he,e0,e1⟩
theorem AcC.zE1 (x:Ac) {xa:Option Addr} {xc:Nat} {tv ev:Value} (hx:zR w F x.ex.args xa) (ht:zBm w F x.thn tv) (he:zBm w F x.els ev) :
 AcC w F x [.int .i64 x.kind, .int .i64 x.reg, .int .i64 x.obj, .int .i64 x.ex.kind, .int .i64 x.ex.num, .string x.ex.nm, .slice xa x.ex.args.length xc, .int .i64 x.count,tv,ev]:=by
 obtain ⟨ta,tc,tss,rfl,hc,t0,t1⟩:=ht;obtain ⟨ea,ec,ess,rfl,hc2,e0,e1⟩:=he;cases x with
 | mk k r o ex c t e=>exact .mk k r o ex c t e _ ta ea tc ec tss ess (zA5.zI4 hx) hc hc2 t0 t1 e0 e1
theorem zBm.head {a:Ac} {r:List Ac} (h:zBm w F (a :: r) v):∃ g o cap xa xc tv ev,v=.slice (some ⟨g,o,none⟩) (r.length+1) cap /\ F g /\ zR w F a.ex.args xa /\ zBm w F a.thn tv /\ zBm w F a.els ev ∧
 (w.cell? ⟨g,o,none⟩=some (.int .i64 a.kind) /\ w.cell? ⟨g,o+1,none⟩=some (.int .i64 a.reg) /\ w.cell? ⟨g,o+2,none⟩=some (.int .i64 a.obj) /\ w.cell? ⟨g,o+3,none⟩=some (.int .i64 a.ex.kind) /\ w.cell? ⟨g,o+4,none⟩=some (.int .i64 a.ex.num) ∧
   w.cell? ⟨g,o+5,none⟩=some (.string a.ex.nm) /\ w.cell? ⟨g,o+6,none⟩=some (.slice xa a.ex.args.length xc) /\ w.cell? ⟨g,o+7,none⟩=some (.int .i64 a.count) /\ w.cell? ⟨g,o+8,none⟩=some tv /\ w.cell? ⟨g,o+9,none⟩=some ev):=by
 obtain ⟨ad,cap,css,rfl,hc,h0,h1⟩:=h;obtain ⟨xa,xc,tv,ev,e,h2,h3,h4⟩:=(h1 0 a rfl).cells;obtain ⟨g,o,rfl,hg,hl,hs⟩:=h0 0 (Nat.succ_pos _);rw [e] at hs;refine ⟨g,o,cap,xa,xc,tv,ev,rfl,hg,h2,h3,h4,?_⟩
 have q:∀ j u,([.int .i64 a.kind, .int .i64 a.reg, .int .i64 a.obj, .int .i64 a.ex.kind, .int .i64 a.ex.num, .string a.ex.nm, .slice xa a.ex.args.length xc, .int .i64 a.count,tv,ev]:List Value)[j]?=some u -> w.cell? ⟨g,o+j,none⟩=some u:=fun j u hj=>by
  have:=hs j u hj
  rwa [Nat.zero_mul,Nat.zero_add] at this
 exact ⟨q 0 _ rfl,q 1 _ rfl,q 2 _ rfl,q 3 _ rfl,q 4 _ rfl,q 5 _ rfl,q 6 _ rfl,q 7 _ rfl,q 8 _ rfl,q 9 _ rfl⟩
theorem zK1:Tryz.prog.underlying 46=some (.slice (Tryz.prog.elem 46)):=by simp [Program.elem,Tryz.underlying46]
theorem zNe:(Tryz.prog.info? 146).map (fun i=>(i.zero,i.size,i.bytes))=some (some (.agg #[.int .i64 0, .int .i64 0, .int .i64 0, .int .i64 0, .int .i64 0, .string zn, .slice none 0 0, .int .i64 0, .slice none 0 0, .slice none 0 0]),10,136):=by kernel_rfl
theorem zMm (w:World):(Go.sizeOf (Tryz.prog.elem 46)).run Tryz.prog w=.ok 10 w:=by
 have he:Tryz.prog.elem 46=146:=by simp [Program.elem,Tryz.underlying46]
 obtain ⟨i0,hi0,hz0,hz1,hz2⟩:=info_parts zNe;rw [he];simp [go_sem,hi0,hz1]
theorem zBm.tail {a:Ac} {r:List Ac} (h:zBm w F (a :: r) v):∃ v',(∀ W,(Instr.slice 46 v (some (.int .i64 1)) none none).run Tryz.prog W=.ok v' W) /\ zBm w F r v':=by
 obtain ⟨ad,cap,css,rfl,hc,h0,h1⟩:=h;have hc':r.length+1 <= cap:=hc;refine ⟨.slice (if cap=1 then ad else ad.map (·.add (1*10))) r.length (cap - 1),fun W=>?_,_,cap - 1,fun i=>css (i+1),rfl,by omega,fun i hi=>?_,fun i y e=>h1 (i+1) y (by simpa using e)⟩
 ·rw [run_slice_l W 46 _ _ _ zK1 .i64 _ (by omega) (by simp;omega),zMm]
  simp [Result.andThen,sliced]
 ·obtain ⟨g,o,rfl,hg,hl,hs⟩:=h0 (i+1) (by simpa using hi)
  refine ⟨g,o+10,?_,hg,hl,fun j u hj=>?_⟩
  ·rw [if_neg (by omega)]
   simp [Addr.add]
  ·have:=hs j u hj
   rwa [show o+10+(i*10+j)=o+((i+1)*10+j) by omega]
end
def zHD (w:World) (F:Nat -> Prop) (bs:List Bd) (ad:Option Addr):Prop :=
 ∀ i (hi:i < bs.length),∃ g o v,ad=some ⟨g,o,none⟩ /\ F g /\ w.cell? ⟨g,o+i*2,none⟩=some (.int .i64 bs[i].regs) /\ w.cell? ⟨g,o+i*2+1,none⟩=some v /\ zBm w F bs[i].acts v
theorem zHD.keeps {S F:Nat -> Prop} {w w':World} {bs:List Bd} {ad:Option Addr} (h:zHD w F bs ad) (hk:Keeps S w w') (hS:∀ k,F k -> ¬ S k):zHD w' F bs ad:=by
 intro i hi
 obtain ⟨g,o,v,e,hg,c0,c1,h1⟩:=h i hi;exact ⟨g,o,v,e,hg,hk.cell (p:=⟨g,_,none⟩) (hS g hg) c0,hk.cell (p:=⟨g,_,none⟩) (hS g hg) c1,h1.keeps hk hS⟩
abbrev zDx:=World -> (Nat -> Prop) -> List Bd -> Option Addr -> Prop
structure BOk (B:zDx):Prop where
 keeps:∀ {S F:Nat -> Prop} {w w':World} {bs:List Bd} {ad:Option Addr},B w F bs ad -> Keeps S w w' -> (∀ k,F k -> ¬ S k) -> B w' F bs ad
theorem zLR:BOk zHD:=⟨fun h=>h.keeps⟩
structure zDP where
 ca:Option Addr
 cn:Nat
 cc:Nat
 mu:Int
 ut:Option Addr
 utc:Nat
 cad:Option Addr
 ccap:Nat
 oad:Option Addr
 ocap:Nat
 gt:Nat
 ct:Nat
def zDP.row (p:zDP) (nt nc no n:Nat):List Value:=[.slice p.ca p.cn p.cc, .int .i64 p.mu, .slice p.ut nt p.utc, .slice p.cad nc p.ccap, .slice p.oad no p.ocap, .slice (some ⟨p.gt,0,none⟩) n p.ct]
structure MaP (R:zBA WFr) (sz:Nat) (ty:TypeId) (B:zDx) (w:World) (T:zAA) (F:Nat -> Prop) (id b:Nat) (u:Un) (p:zDP) (m:WMa) (H:List HTh):Prop where
 tag:T b=some (id, .mach)
 row:zC w b (p.row u.threads.length m.cells.length m.owners.length m.ths.length)
 cells:zBS w T id .cells (.slice p.cad m.cells.length p.ccap) m.cells
 owners:zBS w T id .owners (.slice p.oad m.owners.length p.ocap) m.owners
 ths:zCq R sz ty w T F id p.gt H m.ths
 bds:B w F u.threads p.ut
def zCA (R:zBA WFr) (sz:Nat) (ty:TypeId) (B:zDx) (w:World) (T:zAA) (F:Nat -> Prop) (id b:Nat) (u:Un) (p:zDP) (m':WMa) (w':World):Prop :=
 ∃ T' H',MaP R sz ty B w' T' F id b u p m' H' /\ zCT T T' id w /\ Keeps (zFr T id) w w'
section
variable {R:zBA WFr} {sz:Nat} {ty:TypeId} {B:zDx} (L:zAN R sz) (LB:BOk B) {S:Nat -> Prop} {w w' w2:World} {T T':zAA} {F:Nat -> Prop} {id b i:Nat} {u:Un} {p:zDP} {m m':WMa} {H:List HTh} {t t':WTh}
theorem MaP.free (h:MaP R sz ty B w T F id b u p m H):∀ k,F k -> ¬ zFr T id k:=fun k hk ⟨t,e⟩=>by
 have:=h.ths.sep.sep k hk
 rw [e] at this;cases this
include L LB in
theorem MaP.keeps (h:MaP R sz ty B w T F id b u p m H) (hk:Keeps S w w') (hS:∀ k,zFr T id k \/ F k -> ¬ S k):MaP R sz ty B w' T F id b u p m H :=
 ⟨h.tag,h.row.keeps hk (hS b (.inl ⟨_,h.tag⟩)),h.cells.keeps hk (fun k e=>hS k (.inl ⟨_,e⟩)),h.owners.keeps hk (fun k e=>hS k (.inl ⟨_,e⟩)),
  zCq.keeps L h.ths hk (fun k e=>hS k (e.imp zHx.own (fun h=>h))),LB.keeps h.bds hk (fun k e=>hS k (.inr e))⟩
include L LB in
theorem MaP.zD (h:MaP R sz ty B w T F id b u p m H) (hk:Keeps zA w w'):MaP R sz ty B w' T F id b u p m H:=MaP.keeps L LB h hk (fun _ _ h=>h)
theorem zCA.before (h:zCA R sz ty B w' T F id b u p m' w2) (hk:Keeps zA w w'):zCA R sz ty B w T F id b u p m' w2:=by
 exact J68 _
include L LB in
theorem zCA.after (h:zCA R sz ty B w T F id b u p m' w') (hk:Keeps zA w' w2):zCA R sz ty B w T F id b u p m' w2:=by
 obtain ⟨T',H',h1,h2,h3⟩:=h;exact ⟨T',H',MaP.zD L LB h1 hk,h2,h3.trans hk (fun _ _ h=>h.elim)⟩
theorem zCA.trans (hx:zCT T T' id w) (hk:Keeps (zFr T id) w w') (h:zCA R sz ty B w' T' F id b u p m' w2):zCA R sz ty B w T F id b u p m' w2:=by
 obtain ⟨T2,H2,h1,h2,h3⟩:=h;exact ⟨T2,H2,h1,hx.trans h2 hk.size,hk.trans h3 (fun k hlt hs=>hx.own hs hlt)⟩
include LB in
theorem MaP.went (h:MaP R sz ty B w T F id b u p m H) (hw:zE5 R sz ty w T F id p.gt i m.ths t' w'):zCA R sz ty B w T F id b u p (m.zC9 i t') w':=by
 obtain ⟨T',H',h1,h2,h3⟩:=hw
 have hn:∀ k t,T k=some (id,t) -> (t=.mach \/ t=.cells \/ t=.owners) -> ¬ zHx T id k:=fun k t e ht hb=>by
  rcases hb with hb | ⟨j,hb | hb⟩ <;> (rw [hb] at e;cases e;rcases ht with ht | ht | ht <;> cases ht)
 refine ⟨T',H',⟨h2.1 _ _ h.tag,?_,(h.cells.keeps h3 (fun k e=>hn k _ e (.inr (.inl rfl)))).ext h2.1,(h.owners.keeps h3 (fun k e=>hn k _ e (.inr (.inr rfl)))).ext h2.1,h1,LB.keeps h.bds h3 (fun k hk hb=>h.free k hk hb.own)⟩,h2,h3.mono (fun k _ e=>e.own)⟩
 have e:(m.zC9 i t').ths.length=m.ths.length:=List.length_set;rw [e];exact h.row.keeps h3 (hn b _ h.tag (.inl rfl))
include L LB in
theorem MaP.cell (h:MaP R sz ty B w T F id b u p m H) {k:Nat} (hk:k < m.cells.length):∃ g,p.cad=some ⟨g,0,none⟩ /\ zC w g (ints m.cells) /\ ∀ v,zCA R sz ty B w T F id b u p { m with cells:=m.cells.set k v } (w.setCell ⟨g,k,none⟩ (.int .i64 v)):=by
 obtain ⟨g,cap,e,hT,hr⟩:=h.cells.at hk;simp only [Value.slice.injEq] at e;obtain ⟨e1,_,e2⟩:=e;refine ⟨g,e1,hr,fun v=>?_⟩
 have hkp:Keeps (fun q=>q=g) w (w.setCell ⟨g,k,none⟩ (.int .i64 v)):=(Keeps.refl (fun q=>q=g) w).setCell (p:=⟨g,k,none⟩) (fun _=>rfl) _;have hF:∀ q,F q -> ¬ q=g:=fun q hq e=>h.free q hq (by rw [e];exact ⟨_,hT⟩)
 have ho:∀ q t,T q=some (id,t) -> t ≠ .cells -> ¬ q=g:=fun q t e1 e2 e3=>by rw [e3,hT] at e1;cases e1;exact e2 rfl
 refine ⟨T,H,⟨h.tag,?_,?_,h.owners.keeps hkp (fun q e=>ho q _ e (by decide)),zCq.keeps L h.ths hkp (fun q e=>?_),LB.keeps h.bds hkp hF⟩,zCT.refl T id w,hkp.mono (fun q _ e=>by rw [e];exact ⟨_,hT⟩)⟩
 ·show zC _ _ (p.row _ (m.cells.set k v).length _ _)
  rw [List.length_set];exact h.row.keeps hkp (ho b _ h.tag (by decide))
 ·have:=zBS.set (id:=id) (t:=.cells) (cap:=p.ccap) hT hr k hk v
  show zBS _ _ _ _ (.slice p.cad (m.cells.set k v).length p.ccap) (m.cells.set k v)
  rw [e1,List.length_set];exact this
 ·rcases e with e | e
  ·rcases e with e | ⟨j,e | e⟩ <;> exact ho q _ e (by simp)
  ·exact hF q e
end
theorem zOx (x:Ex) (ad:Option Addr) (cap:Nat) (w:World) (c d b:Nat) (hd:d < 1500000000) (hb:b < 1500000000) (h:zC w c [.int .i64 b]) :
 Calls Tryz.prog 140 #[exV x ad cap, .int .i64 d, .pointer (some ⟨c,0,none⟩)] w fun e w'=>e=.returned (.tuple #[]) /\ zC w' c [.int .i64 (max b d:Nat)] /\ Keeps (fun q=>q=c) w w':=by
 show Calls _ _ #[.agg #[.int .i64 x.kind, .int .i64 x.num, .string x.nm, .slice ad x.args.length cap],_,_] _ _
 have HC:=Lib.hid h;have hlt:=h.lt (by simp);clear h;have hmx:max (b:Int) (d:Int)=((max b d:Nat):Int):=by omega
 go_enter Tryz.func140,Tryz.ntmps140
 go_upto_region 1 with fail
 have k1:Keeps zA w (w.alloc (.cells #[.int .i64 x.kind, .int .i64 x.num, .string x.nm, .slice ad x.args.length cap] 144)):=(Keeps.refl _ _).alloc _;generalize w.alloc (.cells #[.int .i64 x.kind, .int .i64 x.num, .string x.nm, .slice ad x.args.length cap] 144)=w1 at k1 ⊢;have rc:=HC.out.keeps k1 (fun h=>h);have cc:=rc.cell (k:=0) (v:=.int .i64 b) rfl;have fc:=rc.free (k:=0) (by simp);have RC:=Lib.hid rc;have K1:=Lib.hid k1;clear rc k1;go_wp2_with fail
 go_end0
 refine ⟨rfl,?_,(K1.out.mono (S:=fun q=>q=c) (fun _ _ h=>False.elim h)).setCell (p:=⟨c,0,none⟩) (fun _=>rfl) _⟩
 exact RC.out.set 0 (by simp) _
theorem zOq (x:St) (xa ta ea:Option Addr) (xc tc ec:Nat) (w:World) (c d b:Nat) (hd:d < 1500000000) (hb:b < 1500000000) (h:zC w c [.int .i64 b]) :
 Calls Tryz.prog 139 #[stV x xa xc ta tc ea ec, .int .i64 d, .pointer (some ⟨c,0,none⟩)] w fun e w'=>e=.returned (.tuple #[]) /\ zC w' c [.int .i64 (max b d:Nat)] /\ Keeps (fun q=>q=c) w w':=by
 show Calls _ _ #[.agg #[.int .i64 x.kind, .string x.reg, .string x.name, .int .i64 x.ex.kind, .int .i64 x.ex.num, .string x.ex.nm, .slice xa x.ex.args.length xc, .int .i64 x.count, .slice ta x.thn.length tc, .slice ea x.els.length ec],_,_] _ _
 have HC:=Lib.hid h;have hlt:=h.lt (by simp);clear h;have hmx:max (b:Int) (d:Int)=((max b d:Nat):Int):=by omega
 go_enter Tryz.func139,Tryz.ntmps139
 go_upto_region 1 with fail
 have k1:Keeps zA w (w.alloc (.cells #[.int .i64 x.kind, .string x.reg, .string x.name, .int .i64 x.ex.kind, .int .i64 x.ex.num, .string x.ex.nm, .slice xa x.ex.args.length xc, .int .i64 x.count, .slice ta x.thn.length tc, .slice ea x.els.length ec] 191)):=(Keeps.refl _ _).alloc _;generalize w.alloc (.cells #[.int .i64 x.kind, .string x.reg, .string x.name, .int .i64 x.ex.kind, .int .i64 x.ex.num, .string x.ex.nm, .slice xa x.ex.args.length xc, .int .i64 x.count, .slice ta x.thn.length tc, .slice ea x.els.length ec] 191)=w1 at k1 ⊢;have rc:=HC.out.keeps k1 (fun h=>h);have cc:=rc.cell (k:=0) (v:=.int .i64 b) rfl;have fc:=rc.free (k:=0) (by simp);have RC:=Lib.hid rc;have K1:=Lib.hid k1;clear rc k1;go_wp2_with fail
 go_end0
 refine ⟨rfl,?_,(K1.out.mono (S:=fun q=>q=c) (fun _ _ h=>False.elim h)).setCell (p:=⟨c,0,none⟩) (fun _=>rfl) _⟩
 exact RC.out.set 0 (by simp) _
theorem zL6:∀ (x:Ex) (w:World) (F:Nat -> Prop) (ad:Option Addr) (cap c d:Nat) (b:Nat),zR w F x.args ad -> ¬ F c -> zC w c [(.int .i64 b)] -> d+x.cnt < 1000000000 -> b < 1000000000 →
 Calls Tryz.prog 227 #[.agg #[.func (.func 139) #[] #[.pointer (some ⟨c,0,none⟩)], .func (.func 140) #[] #[.pointer (some ⟨c,0,none⟩)]],exV x ad cap, .int .i64 d] w fun e w'=>e=.returned (.tuple #[]) /\ zC w' c [(.int .i64 ((max b (Ex.zBj d x)):Nat))] /\ Keeps (fun q=>q=c) w w':=by
 refine Ex.ind (fun k num nm l ih w F ad cap c d b h hF hc hb hbb=>?_)
 have HL:Hid (zR w F l ad):=h;have IH:=Lib.hid ih;have HF:=Lib.hid hF;have HCR:=Lib.hid hc;have hl:=Ex.zAY l;have hcn:Ex.cnt (.mk k num nm l)=1+Ex.zM l:=by simp [Ex.cnt]
 rw [hcn] at hb;have hb2:l.length < 1000000000:=by omega
 have hd2:d < 1000000000:=by omega
 have HB:=Lib.hid hb;have HBB:=Lib.hid hbb;obtain ⟨tot,ht⟩:=eX (α:=Nat) ((max b (Ex.zBj d (Ex.mk k num nm l))))
 have HT:Hid ((max (max b d) (Ex.zBs (d+1) l))=tot):=by
  show _=_
  rw [ht];simp only [Ex.zBj];omega
 rw [<- ht];have HCL:Hid (∀ W,zC W c [(.int .i64 b)] -> Calls Tryz.prog 140 #[.agg #[.int .i64 k, .int .i64 num, .string nm, .slice ad l.length cap], .int .i64 d, .pointer (some ⟨c,0,none⟩)] W fun e w'=>e=.returned (.tuple #[]) /\ zC w' c [(.int .i64 (max b d:Nat))] /\ Keeps (fun q=>q=c) W w'):=fun W h=>zOx (.mk k num nm l) ad cap W c d b (by omega) (by omega) h
 have hlt0:=hc.lt (by simp);have hlt:=Lib.hid hlt0;clear h hF hc ih hl hcn hb ht hlt0 hbb;show Calls _ _ #[_, .agg #[.int .i64 k, .int .i64 num, .string nm, .slice ad l.length cap],_] _ _
 have hw:IntKind.i64.wrap ((d:Int)+1)=(d:Int)+1:=wrap_small _ (by omega) (by omega);go_enter Tryz.func227,Tryz.ntmps227
 go_upto_region 1 with fail
 obtain ⟨b3,hb3⟩:=eX w.heap.size;obtain ⟨b4,hb4⟩:=eX (w.heap.size+1);have hr3:zC ((w.alloc (.cells #[.func (.func 139) #[] #[.pointer (some ⟨c,0,none⟩)], .func (.func 140) #[] #[.pointer (some ⟨c,0,none⟩)]] 234)).alloc (.cells #[.int .i64 k, .int .i64 num, .string nm, .slice ad l.length cap] 144)) b3 [.func (.func 139) #[] #[.pointer (some ⟨c,0,none⟩)], .func (.func 140) #[] #[.pointer (some ⟨c,0,none⟩)]]:=J164 _;have hr4:zC ((w.alloc (.cells #[.func (.func 139) #[] #[.pointer (some ⟨c,0,none⟩)], .func (.func 140) #[] #[.pointer (some ⟨c,0,none⟩)]] 234)).alloc (.cells #[.int .i64 k, .int .i64 num, .string nm, .slice ad l.length cap] 144)) b4 [.int .i64 k, .int .i64 num, .string nm, .slice ad l.length cap]:=J171 _;have hk1:Keeps zA w ((w.alloc (.cells #[.func (.func 139) #[] #[.pointer (some ⟨c,0,none⟩)], .func (.func 140) #[] #[.pointer (some ⟨c,0,none⟩)]] 234)).alloc (.cells #[.int .i64 k, .int .i64 num, .string nm, .slice ad l.length cap] 144)):=((Keeps.refl _ _).alloc _).alloc _;rw [<- hb4,<- hb3];generalize (w.alloc (.cells #[.func (.func 139) #[] #[.pointer (some ⟨c,0,none⟩)], .func (.func 140) #[] #[.pointer (some ⟨c,0,none⟩)]] 234)).alloc (.cells #[.int .i64 k, .int .i64 num, .string nm, .slice ad l.length cap] 144)=w1 at hr3 hr4 hk1 ⊢;have HNE:Hid (b3 ≠ c /\ b4 ≠ c):=⟨by have:=hlt.out;omega,by have:=hlt.out;omega⟩;have R3:=Lib.hid hr3;have R4:=Lib.hid hr4;have K1:=Lib.hid hk1;have RC:Hid (zC w1 c [(.int .i64 b)]):=HCR.out.keeps hk1 (fun h=>h);have y0:=hr3.cell (k:=1) (v:=.func (.func 140) #[] #[.pointer (some ⟨c,0,none⟩)]) rfl;obtain ⟨d0,d1,d2,d3⟩:=hr4.four;clear hr3 hr4 hk1 hb3 hb4;go_upto_region 2 with (go_at_call 140;refine (HCL.out _ RC.out).mono ?_;rintro e w2 ⟨rfl,r2,g2⟩;have R2:=Lib.hid r2;have G2:=Lib.hid g2;clear r2 g2)
 have c3:=(R4.out.keeps G2.out (fun e=>HNE.out.2 e)).cell (k:=3) (v:=.slice ad l.length cap) rfl;clear d0 d1 d2 d3 y0 RC HCL HCR;go_wp2_with fail
 go_loopw [16] (fun iv wr=>∃ (i:Nat) (v:Nat),i <= l.length /\ iv=.int .i64 i /\ Hid (zC wr c [(.int .i64 v)]) /\ Hid ((max v (Ex.zBs (d+1) (l.drop i)))=tot) /\ Hid (Keeps (fun q=>q=c) w1 wr)) (fun iv _=>l.length - (intOf iv).toNat)
 case atStart=>exact ⟨0,(max b d),Nat.zero_le _,rfl,R2,by show _=_;rw [List.drop_zero];exact HT.out,G2⟩
 case round =>
  obtain ⟨i,v,hi,rfl,HV,HD,HK⟩:=hrel;by_cases hlt:i < l.length
  ·have i1:(0:Int) <= i:=by omega
   have i2:(i:Int) < l.length:=by omega
   have hd:=HD.out;rw [drop_at hlt] at hd;simp only [Ex.zBs] at hd;have hFc:∀ q,F q -> ¬ (fun q=>q=c) q:=fun q hq e=>HF.out (J170 _)
   obtain ⟨g,o,a,ca,e1,hg,d0,d1,d2,d3,hx⟩:=((HL.out.keeps K1.out (fun _ _ h=>h):zR w1 F l ad).keeps HK.out hFc).at hlt;subst e1
   have HC:Hid (∀ W,Keeps zA wr W -> Calls Tryz.prog 227 #[.agg #[.func (.func 139) #[] #[.pointer (some ⟨c,0,none⟩)], .func (.func 140) #[] #[.pointer (some ⟨c,0,none⟩)]], .agg #[.int .i64 l[i].kind, .int .i64 l[i].num, .string l[i].nm, .slice a l[i].args.length ca], .int .i64 ((d:Int)+1)] W fun e w'=>e=.returned (.tuple #[]) /\ zC w' c [(.int .i64 ((max v (Ex.zBj (d+1) l[i])):Nat))] /\ Keeps (fun q=>q=c) W w'):=fun W hk=>by
    have e:((d+1:Nat):Int)=(d:Int)+1:=by omega
    rw [<- e];have hcl:=Ex.zBx (List.getElem_mem hlt);have hbt:=HB.out;have hdt:=HD.out;have hbb:=HBB.out;have htt:=HT.out;have hle:=Ex.zDe (d+1) l;have hdl:Ex.zB9 l <= Ex.zM l:=by have:=Ex.zGM (.mk 0 0 zn l);simp only [Ex.dep,Ex.cnt] at this;omega
    exact IH.out _ (List.getElem_mem hlt) W F a ca c (d+1) v (hx.keeps hk (fun _ _ h=>h)) HF.out (HV.out.keeps hk (fun h=>h)) (by omega) (by split at hle <;> omega)
   obtain ⟨v2,hv2⟩:=eX (α:=Nat) ((max v (Ex.zBj (d+1) l[i])))
   have HD2:Hid ((max v2 (Ex.zBs (d+1) (l.drop (i+1))))=tot):=by
    show _=_
    rw [hv2,<- hd];omega
   rw [<- hv2] at HC;clear hx hFc hd hv2;generalize l[i].kind=x0 at d0 HC;generalize l[i].num=x1 at d1 HC;generalize l[i].nm=x2 at d2 HC;generalize l[i].args.length=x3 at d3 HC;go_upto_region 5 with fail
   obtain ⟨b7,hb7⟩:=eX wr.heap.size;have hr7:zC (wr.alloc (.cells #[.int .i64 x0, .int .i64 x1, .string x2, .slice a x3 ca] 144)) b7 [.int .i64 x0, .int .i64 x1, .string x2, .slice a x3 ca]:=J157 _;have hk7:Keeps zA wr (wr.alloc (.cells #[.int .i64 x0, .int .i64 x1, .string x2, .slice a x3 ca] 144)):=(Keeps.refl _ _).alloc _;rw [<- hb7];generalize wr.alloc (.cells #[.int .i64 x0, .int .i64 x1, .string x2, .slice a x3 ca] 144)=w7 at hr7 hk7 ⊢;obtain ⟨y0,y1,y2,y3⟩:=hr7.four;have r3:=(R3.out.keeps HK.out (fun e=>HNE.out.1 e)).keeps hk7 (fun h=>h);have q0:=r3.cell (k:=0) (v:=.func (.func 139) #[] #[.pointer (some ⟨c,0,none⟩)]) rfl;have q1:=r3.cell (k:=1) (v:=.func (.func 140) #[] #[.pointer (some ⟨c,0,none⟩)]) rfl;exact J22 _
  ·obtain rfl:i=l.length:=by omega
   have hd:=HD.out;rw [List.drop_length] at hd;simp only [Ex.zBs] at hd;exact J129 _
end Go.Proofs.YtoapgjjepiopbaaGreatDoor
