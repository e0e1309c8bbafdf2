/- Layer L: texts joined. -/
import Derived.Test.YtfokdllgnblamaaGreatDoorL12
import Derived.Test.YtfokdllgnblamaaGreatDoorL14
set_option linter.all false
namespace Go.Proofs.YtfokdllgnblamaaGreatDoor
open Go.RowKit
abbrev kF:=@Go.Proofs.Tryz.underlying66
abbrev uD:=@Nat.add_assoc
theorem J62 (P:Prop) (h:P:=by
 obtain ⟨T',H',h1,h2,h3⟩:=h;exact ⟨T',H',h1,⟨h2.1,fun k y e=>(h2.2 k y e).imp (fun h=>h) (fun h=>⟨yU hk.size h.1,h.2⟩)⟩,(hk.mono (fun _ _ h=>h.elim)).trans h3 (fun _ _ h=>h)⟩):P:=h
theorem J104 (P:Prop) (h:P:=by
 intro i hi
 obtain ⟨g,o,e,hg,c0⟩:=h i hi;exact ⟨g,o,e,hg,hk.cell (p:=⟨g,_,none⟩) (hS g hg) c0⟩):P:=h
theorem J109 (P:Prop) (h:P:=by
 rcases e with e | e
 ·rcases e with e | ⟨j,e | e⟩ <;> exact ho q _ e (by simp)
 ·exact hF q e):P:=h
theorem J197 (P:Prop) (h:P:=by obtain ⟨ba,bc,e,h1⟩:=h;exact ⟨ba,bc,e,h1.keeps hk hS⟩):P:=h
theorem J202 (P:Prop) (h:P:=by obtain ⟨ba,bc,e,h1⟩:=h;exact ⟨ba,bc,e,h1.mono hF⟩):P:=h
def zFx:zA0 Int:=fun w F x cs=>cs=[.string xNm, .int .i64 x]
theorem zMu:zAN zFx 2:=⟨fun h _ _=>h,fun h _=>h,fun h=>by rw [h];rfl⟩
def zEs:zA0 (List St):=fun w F t cs=>∃ ba bc,cs=[.string xNm, .slice ba t.length bc] /\ zq w F t ba
theorem zMh:zAN zEs 2:=⟨fun h hk hS=>by exact J197 _,fun h hF=>by exact J202 _,fun h=>by obtain ⟨ba,bc,e,h1⟩:=h;rw [e];rfl⟩
theorem zCJ.mono {F F':Nat -> Prop} {w:World} {cs:List Int} {ad:Option Addr} (h:zCJ w F cs ad) (hF:∀ k,F k -> F' k):zCJ w F' cs ad:=by
 intro i hi
 obtain ⟨g,o,e,hg,c0,c1⟩:=h i hi;exact ⟨g,o,e,hF g hg,c0,c1⟩
theorem zZ.mono {F F':Nat -> Prop} {w:World} {v:Value} {n:Nat} (h:zZ w F v n) (hF:∀ k,F k -> F' k):zZ w F' v n:=by
 obtain ⟨ad,cap,e,h1⟩:=h;refine ⟨ad,cap,e,fun i hi=>?_⟩
 obtain ⟨g,o,e,hg,c0⟩:=h1 i hi;exact ⟨g,o,e,hF g hg,c0⟩
theorem Acc.cls {w:World} {B n cap:Nat} {ty:TypeId} {ad:Option Addr} {cs:List Int} {css:List (List Value)} (h:Acc zFx (fun _=>False) B 2 ty w (.slice ad n cap) cs css):zCJ w (Since B w) cs ad:=by
 obtain ⟨h1,h2⟩:=h.elems zMu (ad:=ad) (n:=n) (cap:=cap) rfl;intro i hi
 obtain ⟨g,o,e,hg,hl,hc⟩:=h1 i hi;have hR:=h2 i cs[i] (yJ hi);have hR':css.getD i []=[.string xNm, .int .i64 cs[i]]:=hR;have hc0:=hc 0 (.string xNm) (by show (css.getD i [])[_]?=_;rw [hR'];rfl);have hc1:=hc 1 (.int .i64 cs[i]) (by show (css.getD i [])[_]?=_;rw [hR'];rfl);refine ⟨g,o,e,hg.elim False.elim (fun h=>h),hc0,?_⟩
 rw [uD];exact hc1
theorem Acc.zL {w:World} {B n cap:Nat} {ty:TypeId} {ad:Option Addr} {ts:List (List St)} {css:List (List Value)} (h:Acc zEs (fun _=>False) B 2 ty w (.slice ad n cap) ts css) (hl:ts.length <= 1000):zAe w (Since B w) xNm ts ad:=by
 obtain ⟨h1,h2⟩:=h.elems zMh (ad:=ad) (n:=n) (cap:=cap) rfl;refine ⟨hl,fun i hi=>?_⟩
 obtain ⟨g,o,e,hg,hl,hc⟩:=h1 i hi;obtain ⟨ba,bc,hR',hs⟩:=h2 i ts[i] (yJ hi);have hc0:=hc 0 (.string xNm) (by show (css.getD i [])[_]?=_;rw [hR'];rfl);have hc1:=hc 1 (.slice ba ts[i].length bc) (by show (css.getD i [])[_]?=_;rw [hR'];rfl);have hm:∀ k,(False \/ (B <= k /\ k < w.heap.size)) -> Since B w k:=fun k hk=>hk.elim False.elim (fun h=>h)
 refine ⟨g,o,ba,bc,e,hm g hg,hc0,?_,hs.mono hm⟩
 rw [uD];exact hc1
def zAz (w:World) (F:Nat -> Prop) (cs:List Int) (ad:Option Addr):Prop :=
 ∀ i (hi:i < cs.length),∃ g o,ad=some ⟨g,o,none⟩ /\ F g /\ w.cell? ⟨g,o+i,none⟩=some (.int .i64 cs[i])
theorem zAz.keeps {S F:Nat -> Prop} {w w':World} {cs:List Int} {ad:Option Addr} (h:zAz w F cs ad) (hk:Keeps S w w') (hS:∀ k,F k -> ¬ S k):zAz w' F cs ad:=by
 exact J104 _
def zBZ (w:World) (F:Nat -> Prop) (bs:List Bd) (ad:Option Addr):Prop :=
 ∀ i (hi:i < bs.length),∃ g o ba bc,ad=some ⟨g,o,none⟩ /\ F g /\ w.cell? ⟨g,o+i*2,none⟩=some (.int .i64 bs[i].regs) /\ w.cell? ⟨g,o+i*2+1,none⟩=some (.slice ba bs[i].acts.length bc) /\ zAR w F bs[i].acts ba
theorem zBZ.keeps {S F:Nat -> Prop} {w w':World} {bs:List Bd} {ad:Option Addr} (h:zBZ w F bs ad) (hk:Keeps S w w') (hS:∀ k,F k -> ¬ S k):zBZ w' F bs ad:=by
 intro i hi
 obtain ⟨g,o,ba,bc,e,hg,c0,c1,h1⟩:=h i hi;exact ⟨g,o,ba,bc,e,hg,hk.cell (p:=⟨g,_,none⟩) (hS g hg) c0,hk.cell (p:=⟨g,_,none⟩) (hS g hg) c1,h1.keeps hk hS⟩
def zDw (w:World) (F:Nat -> Prop) (rs:List Nat) (ad:Option Addr):Prop :=
 ∀ i (hi:i < rs.length),∃ g o ra rc,ad=some ⟨g,o,none⟩ /\ F g /\ w.cell? ⟨g,o+i,none⟩=some (.slice ra rs[i] rc) /\ zZ w F (.slice ra rs[i] rc) rs[i]
theorem zDw.keeps {S F:Nat -> Prop} {w w':World} {rs:List Nat} {ad:Option Addr} (h:zDw w F rs ad) (hk:Keeps S w w') (hS:∀ k,F k -> ¬ S k):zDw w' F rs ad:=by
 intro i hi
 obtain ⟨g,o,ra,rc,e,hg,c0,h1⟩:=h i hi;exact ⟨g,o,ra,rc,e,hg,hk.cell (p:=⟨g,_,none⟩) (hS g hg) c0,h1.keeps hk hS⟩
theorem zC.two {w:World} {g:Nat} {a b:Value} (r:zC w g [a,b]):w.cell? ⟨g,0,none⟩=some a /\ w.cell? ⟨g,1,none⟩=some b:=⟨r.cell (k:=0) rfl,r.cell (k:=1) rfl⟩
theorem zLf:(Tryz.prog.info? 201).map (fun i=>(i.zero,i.size,i.bytes))=some (some (.agg #[.string zu, .int .i64 0]),2,24):=by kernel_rfl
theorem zF2:(Tryz.prog.info? 155).map (fun i=>(i.zero,i.size,i.bytes))=some (some (.agg #[.string zu, .slice none 0 0]),2,40):=by kernel_rfl
inductive WTg where
 | mach | cells | owners | zL
 | regs (i:Nat) | fs (i:Nat)
deriving DecidableEq
abbrev zS:=Nat -> Option (Nat × WTg)
def zAk (T:zS) (id:Nat) (k:Nat):Prop:=∃ t,T k=some (id,t)
def zDt (T:zS) (id:Nat) (k:Nat):Prop:=T k=some (id, .zL) \/ ∃ i,T k=some (id, .regs i) \/ T k=some (id, .fs i)
theorem zDt.own {T:zS} {id k:Nat} (h:zDt T id k):zAk T id k:=by
 rcases h with h | ⟨i,h | h⟩ <;> exact ⟨_,h⟩
structure zFL (w:World) (T:zS) (F:Nat -> Prop):Prop where
 ok:∀ k x,T k=some x -> k < w.heap.size
 sep:∀ k,F k -> T k=none
 low:∀ k,F k -> k < w.heap.size
theorem zFL.keeps {S:Nat -> Prop} {w w':World} {T:zS} {F:Nat -> Prop} (h:zFL w T F) (hk:Keeps S w w'):zFL w' T F :=
 ⟨fun k x e=>yI (h.ok k x e) hk.size,h.sep,fun k hF=>yI (h.low k hF) hk.size⟩
def zAQ (T T':zS) (id:Nat) (w:World):Prop:=(∀ k y,T k=some y -> T' k=some y) /\ ∀ k y,T' k=some y -> T k=some y \/ (w.heap.size <= k /\ y.1=id)
theorem zAQ.refl (T:zS) (id:Nat) (w:World):zAQ T T id w:=⟨fun _ _ h=>h,fun _ _ h=>.inl h⟩
theorem zAQ.trans {T1 T2 T3:zS} {id:Nat} {w w':World} (h:zAQ T1 T2 id w) (h':zAQ T2 T3 id w') (hs:w.heap.size <= w'.heap.size):zAQ T1 T3 id w :=
 ⟨fun k y e=>h'.1 k y (h.1 k y e),fun k y e=>by
  rcases h'.2 k y e with h1 | h1
  ·exact h.2 k y h1
  ·exact .inr ⟨yU hs h1.1,h1.2⟩⟩
theorem zAQ.none {T T':zS} {id:Nat} {w:World} (h:zAQ T T' id w) {k:Nat} (h1:T k=none) (h2:k < w.heap.size):T' k=none:=by
 cases e:T' k with
 | none=>rfl
 | some y =>
   rcases h.2 k y e with h3 | h3
   ·rw [h1] at h3;cases h3
   ·omega
theorem zAQ.own {T T':zS} {id:Nat} {w:World} (h:zAQ T T' id w) {k i:Nat} (hk:zAk T' i k) (h2:k < w.heap.size):zAk T i k:=by
 obtain ⟨t,e⟩:=hk;rcases h.2 k _ e with h3 | h3
 ·exact ⟨t,h3⟩
 ·omega
def zCn (T:zS) (id:Nat) (t:WTg) (g:Nat):zS:=fun q=>if q=g then some (id,t) else T q
theorem zCa {T:zS} {id:Nat} {t:WTg} {g:Nat} {w:World} (h:T g=some (id,t) \/ (T g=none /\ w.heap.size <= g)):zAQ T (zCn T id t g) id w:=by
 refine ⟨fun k y e=>?_,fun k y e=>?_⟩
 ·unfold zCn
  by_cases hk:k=g
  ·subst hk
   rw [if_pos rfl];rcases h with h | h
   ·rw [<- e,h]
   ·rw [h.1] at e;cases e
  ·rw [if_neg hk];exact e
 ·unfold zCn at e
  by_cases hk:k=g
  ·subst hk
   rw [if_pos rfl] at e;cases e;rcases h with h | h
   ·exact .inl h
   ·exact .inr ⟨h.2,rfl⟩
  ·rw [if_neg hk] at e;exact .inl e
theorem zCt (T:zS) (id:Nat) (t:WTg) (g:Nat):zCn T id t g g=some (id,t):=if_pos rfl
theorem zFL.tag {w:World} {T:zS} {F:Nat -> Prop} (h:zFL w T F) {id:Nat} {t:WTg} {g:Nat} (hg:g < w.heap.size) (hF:¬ F g):zFL w (zCn T id t g) F:=by
 refine ⟨fun k x e=>?_,fun k hk=>?_,h.low⟩
 ·unfold zCn at e
  by_cases hk:k=g
  ·subst hk;exact hg
  ·rw [if_neg hk] at e;exact h.ok k x e
 ·unfold zCn
  rw [if_neg (fun e=>hF (by rw [<- e];exact hk))];exact h.sep k hk
theorem zFL.free {w:World} {T:zS} {F:Nat -> Prop} (h:zFL w T F) {g:Nat} (hg:w.heap.size <= g):T g=none /\ ¬ F g:=by
 refine ⟨?_,fun hF=>by have:=h.low g hF;omega⟩
 cases e:T g with
 | none=>rfl
 | some y=>have:=h.ok g y e;omega
def zBN (w:World) (T:zS) (id:Nat) (t:WTg) (v:Value) (xs:List Int):Prop :=
 ∃ ad cap,v=.slice ad xs.length cap /\ (xs ≠ [] -> ∃ g,ad=some ⟨g,0,none⟩ /\ T g=some (id,t) /\ zC w g (ints xs))
section
variable {S:Nat -> Prop} {w w':World} {T T':zS} {id:Nat} {t:WTg} {v:Value} {xs:List Int}
theorem zBN.keeps (h:zBN w T id t v xs) (hk:Keeps S w w') (hS:∀ k,T k=some (id,t) -> ¬ S k):zBN w' T id t v xs:=by
 obtain ⟨ad,cap,e,h1⟩:=h;refine ⟨ad,cap,e,fun hn=>?_⟩
 obtain ⟨g,e1,e2,e3⟩:=h1 hn;exact ⟨g,e1,e2,e3.keeps hk (hS g e2)⟩
theorem zBN.ext (h:zBN w T id t v xs) (hx:∀ k y,T k=some y -> T' k=some y):zBN w T' id t v xs:=by
 obtain ⟨ad,cap,e,h1⟩:=h;refine ⟨ad,cap,e,fun hn=>?_⟩
 obtain ⟨g,e1,e2,e3⟩:=h1 hn;exact ⟨g,e1,hx _ _ e2,e3⟩
theorem zBN.at (h:zBN w T id t v xs) {k:Nat} (hk:k < xs.length):∃ g cap,v=.slice (some ⟨g,0,none⟩) xs.length cap /\ T g=some (id,t) /\ zC w g (ints xs):=by
 obtain ⟨ad,cap,e,h1⟩:=h;obtain ⟨g,e1,e2,e3⟩:=h1 (fun e=>by rw [e] at hk;simp at hk);subst e1;exact ⟨g,cap,e,e2,e3⟩
theorem zBN.set {g cap:Nat} (hT:T g=some (id,t)) (h:zC w g (ints xs)) (k:Nat) (hk:k < xs.length) (u:Int) :
 zBN (w.setCell ⟨g,k,none⟩ (.int .i64 u)) T id t (.slice (some ⟨g,0,none⟩) xs.length cap) (xs.set k u):=by
 have:=h.set k (by rw [zAq];exact hk) (.int .i64 u)
 rw [ints_set] at this;exact ⟨_,cap,by rw [xA],fun _=>⟨g,rfl,hT,this⟩⟩
theorem zBN.src (h:zBN w T id t v xs):zl w v xs.length (ints xs):=by
 obtain ⟨ad,cap,e,h1⟩:=h;refine ⟨ad,cap,e,fun hn=>?_⟩
 obtain ⟨g,e1,_,e3⟩:=h1 (fun e=>by rw [e] at hn;exact hn rfl);exact ⟨g,0,e1,e3.rng⟩
theorem zBN.of {e:TypeId} {base:Nat} (h:w.ownsRow base e 1 v xs.length (ints xs)) (hT:∀ kb,v.ownBlock=some kb -> T kb=some (id,t)) (hv:∃ ad cap,v=.slice ad xs.length cap):zBN w T id t v xs:=by
 obtain ⟨ad,cap,rfl⟩:=hv;refine ⟨ad,cap,rfl,fun hn=>?_⟩
 rcases h.2 with ⟨_,h1⟩ | ⟨g,c,cur,h1,_⟩
 ·exact absurd (vI h1) hn
 ·simp only [xX] at h1
  obtain ⟨rfl,_,rfl⟩:=h1;exact ⟨g,rfl,hT g rfl,uG h⟩
end
section
variable (R:zA0 zx) (sz:Nat) (ty:TypeId)
def zBd (w:World) (T:zS) (F:Nat -> Prop) (id i:Nat) (v:Value) (fs:List zx):Prop :=
 ∃ css:List (List Value),css.length=fs.length /\ w.ownsRow 0 ty sz v fs.length css.flatten /\ (∀ kb,v.ownBlock=some kb -> T kb=some (id, .fs i)) /\ (∃ ad cap,v=.slice ad fs.length cap) ∧
   ∀ (j:Nat) (f:zx) (cs:List Value),fs[j]?=some f -> css[j]?=some cs -> R w F f cs
structure HTh where
 st:Int
 rv:Value
 fv:Value
def HTh.cells (h:HTh):List Value:=[.int .i64 h.st,h.rv,h.fv]
theorem zDd (h:HTh):h.cells.length=3:=rfl
def zAP (H:List HTh):List Value:=H.flatMap HTh.cells
structure zAc (w:World) (T:zS) (F:Nat -> Prop) (id g:Nat) (H:List HTh) (zL:List WTh):Prop where
 tag:T g=some (id, .zL)
 sep:zFL w T F
 row:zC w g (zAP H)
 len:H.length=zL.length
 each:∀ i h t,H[i]?=some h -> zL[i]?=some t -> h.st=t.st /\ zBN w T id (.regs i) h.rv t.regs /\ zBd R sz ty w T F id i h.fv t.fs
end
section
variable {R:zA0 zx} {sz:Nat} {ty:TypeId} (L:zAN R sz)
include L
variable {S:Nat -> Prop} {w w':World} {T T':zS} {F:Nat -> Prop} {id i g:Nat} {v:Value} {fs:List zx} {H:List HTh} {zL:List WTh}
theorem zBd.keeps (h:zBd R sz ty w T F id i v fs) (hk:Keeps S w w') (hS:∀ k,T k=some (id, .fs i) -> ¬ S k) (hF:∀ k,F k -> ¬ S k):zBd R sz ty w' T F id i v fs:=by
 obtain ⟨css,h1,h2,h3,h4,h5⟩:=h;exact ⟨css,h1,zF h2 hk (fun k e=>hS k (h3 k e)),h3,h4,fun j f cs e1 e2=>L.keeps (h5 j f cs e1 e2) hk hF⟩
theorem zAc.keeps (h:zAc R sz ty w T F id g H zL) (hk:Keeps S w w') (hS:∀ k,zDt T id k \/ F k -> ¬ S k):zAc R sz ty w' T F id g H zL :=
 ⟨h.tag,h.sep.keeps hk,h.row.keeps hk (hS g (.inl (.inl h.tag))),h.len,fun i a t e1 e2=>by
  obtain ⟨h1,h2,h3⟩:=h.each i a t e1 e2;exact ⟨h1,h2.keeps hk (fun k e=>hS k (.inl (.inr ⟨i, .inl e⟩))),zBd.keeps L h3 hk (fun k e=>hS k (.inl (.inr ⟨i, .inr e⟩))) (fun k e=>hS k (.inr e))⟩⟩
end
section
variable {R:zA0 zx} {sz:Nat} {ty:TypeId} {w w':World} {T T':zS} {F:Nat -> Prop} {id i g:Nat} {v:Value} {fs:List zx} {H:List HTh} {zL:List WTh}
theorem zBd.ext (h:zBd R sz ty w T F id i v fs) (hx:∀ k y,T k=some y -> T' k=some y):zBd R sz ty w T' F id i v fs:=by
 obtain ⟨css,h1,h2,h3,h4,h5⟩:=h;exact ⟨css,h1,h2,fun k e=>hx _ _ (h3 k e),h4,h5⟩
theorem zAc.get (h:zAc R sz ty w T F id g H zL) {t:WTh} (ht:zL[i]?=some t):∃ rv fv,H[i]?=some ⟨t.st,rv,fv⟩ /\ zBN w T id (.regs i) rv t.regs /\ zBd R sz ty w T F id i fv t.fs:=by
 have hi:i < zL.length:=(yO.1 ht).1;have hi':i < H.length:=by rw [h.len];exact hi
 have hH:H[i]?=some H[i]:=yJ hi';obtain ⟨e1,e2,e3⟩:=h.each i _ t hH ht;exact ⟨H[i].rv,H[i].fv,by rw [hH,<- e1],e2,e3⟩
theorem zG8 {a:HTh} (hr:zC w g (zAP H)) (ha:H[i]?=some a) (j:Nat) {u:Value} (hu:a.cells[j]?=some u):w.cell? ⟨g,i*3+j,none⟩=some u:=by
 refine hr.cell ?_
 have hj:j < 3:=(yO.1 hu).1;show (H.flatMap HTh.cells)[i*3+j]?=_
 rw [zBL _ 3 zDd H i j hj,ha];exact hu
theorem zCw (hr:zC w g (zAP H)) (hi:i < H.length) (j:Nat) (hj:j < 3):w.frozen? ⟨g,i*3+j,none⟩=false :=
 hr.free (by unfold zAP;rw [zw _ 3 zDd];omega)
theorem zAF (hr:zC w g (zAP H)) {a:HTh} (ha:H[i]?=some a):w.cell? ⟨g,i*3,none⟩=some (.int .i64 a.st) /\ w.cell? ⟨g,i*3+1,none⟩=some a.rv /\ w.cell? ⟨g,i*3+2,none⟩=some a.fv :=
 ⟨zG8 hr ha 0 rfl,zG8 hr ha 1 rfl,zG8 hr ha 2 rfl⟩
theorem zED (hr:zC w g (zAP H)) {a:HTh} (ha:H[i]?=some a) (j:Nat) (hj:j < 3) (u:Value) (a':HTh) (hc:a'.cells=a.cells.set j u):zC (w.setCell ⟨g,i*3+j,none⟩ u) g (zAP (H.set i a')):=by
 have:=hr.set (i*3+j) (by unfold zAP;rw [zw _ 3 zDd];have:=(yO.1 ha).1;omega) u
 have e:(zAP H).set (i*3+j) u=zAP (H.set i a'):=zDh _ 3 zDd H i j hj u a a' ha hc;rwa [e] at this
theorem zAc.upd (L:zAN R sz) (h:zAc R sz ty w T F id g H zL) (hx:zAQ T T' id w) (hsep:zFL w' T' F) (hk:Keeps (fun k=>k=g \/ T k=some (id, .regs i) \/ T k=some (id, .fs i)) w w') {a':HTh} {t':WTh}
 (hr:zC w' g (zAP (H.set i a'))) (h1:a'.st=t'.st) (h2:zBN w' T' id (.regs i) a'.rv t'.regs) (h3:zBd R sz ty w' T' F id i a'.fv t'.fs):zAc R sz ty w' T' F id g (H.set i a') (zL.set i t'):=by
 refine ⟨hx.1 _ _ h.tag,hsep,hr,by simp [h.len],fun k b t hb ht=>?_⟩
 by_cases e:i=k
 ·subst e
  rw [List.getElem?_set_self'] at hb ht;obtain ⟨b0,hb0,rfl⟩:=Option.map_eq_some_iff.1 hb;obtain ⟨t0,ht0,rfl⟩:=Option.map_eq_some_iff.1 ht;exact ⟨h1,h2,h3⟩
 ·rw [uB e] at hb ht
  obtain ⟨e1,e2,e3⟩:=h.each k b t hb ht
  have hF:∀ q,F q -> ¬ (q=g \/ T q=some (id, .regs i) \/ T q=some (id, .fs i)):=fun q hq hn=>by
   have:=h.sep.sep q hq
   rcases hn with rfl | hn | hn
   ·rw [h.tag] at this;cases this
   ·rw [hn] at this;cases this
   ·rw [hn] at this;cases this
  refine ⟨e1,(e2.keeps hk (fun q hq hn=>?_)).ext hx.1,(zBd.keeps L e3 hk (fun q hq hn=>?_) hF).ext hx.1⟩
  ·rcases hn with rfl | hn | hn
   ·rw [h.tag] at hq;cases hq
   ·rw [hn] at hq;cases hq;exact e rfl
   ·rw [hn] at hq;cases hq
  ·rcases hn with rfl | hn | hn
   ·rw [h.tag] at hq;cases hq
   ·rw [hn] at hq;cases hq
   ·rw [hn] at hq;cases hq;exact e rfl
theorem zGH (h:zAc R sz ty w T F id g H zL) (hk:Keeps (fun k=>k=g \/ T k=some (id, .regs i) \/ T k=some (id, .fs i)) w w'):Keeps (zDt T id) w w' :=
 hk.mono (fun k _ hn=>by
  rcases hn with rfl | hn | hn
  ·exact .inl h.tag
  ·exact .inr ⟨i, .inl hn⟩
  ·exact .inr ⟨i, .inr hn⟩)
end
theorem zHl {α:Type} {sz:Nat}:∀ (l:List (List α)),(∀ ds,ds ∈ l -> ds.length=sz) -> l.flatten.length=l.length*sz
 | [],_=>by simp
 | x :: r,h=>by
   rw [List.flatten_cons,xE,h x vW,zHl r (fun ds hd=>h ds (vJ _ hd)),xQ,vH];omega
section
variable {R:zA0 zx} {sz:Nat} {ty:TypeId} (L:zAN R sz)
include L
variable {w w':World} {T:zS} {F:Nat -> Prop} {id i:Nat} {v:Value} {fs:List zx} {f:zx}
theorem zBd.split (h:zBd R sz ty w T F id i v (fs++[f])):∃ (g cap:Nat) (css:List (List Value)) (cs:List Value),v=.slice (some ⟨g,0,none⟩) (fs.length+1) cap /\ T g=some (id, .fs i) /\ css.length=fs.length /\ css.flatten.length=fs.length*sz /\ cs.length=sz ∧
 w.ownsRow 0 ty sz (.slice (some ⟨g,0,none⟩) (fs.length+1) cap) (fs.length+1) (css.flatten++cs) /\ R w F f cs /\ (∀ (j:Nat) (y:zx) (ds:List Value),fs[j]?=some y -> css[j]?=some ds -> R w F y ds) /\ fs.length+1 <= cap /\ cap <= maxLen:=by
 obtain ⟨css,h1,h2,h3,⟨ad,cap,rfl⟩,h5⟩:=h;rw [xE,List.length_singleton] at h1 h2 h3;have hne:css ≠ []:=fun e=>by rw [e] at h1;simp at h1
 have hs:=List.dropLast_concat_getLast hne;obtain ⟨cs0,hc0⟩:∃ z,z=css.dropLast:=⟨_,rfl⟩
 obtain ⟨cl,hcl⟩:∃ z,z=css.getLast hne:=⟨_,rfl⟩
 rw [<- hc0,<- hcl] at hs;have hl0:cs0.length=fs.length:=by rw [hc0,List.length_dropLast];omega
 have hR:∀ (j:Nat) (y:zx) (ds:List Value),fs[j]?=some y -> cs0[j]?=some ds -> R w F y ds:=fun j y ds e1 e2=>h5 j y ds (by rw [xK ((yO.1 e1).1)];exact e1) (by rw [<- hs,xK ((yO.1 e2).1)];exact e2)
 have hRl:R w F f cl:=h5 fs.length f cl (by rw [yY (yV _)];simp) (by rw [<- hs,yY (by omega)];simp [hl0])
 have hfl:cs0.flatten.length=fs.length*sz:=by
  rw [zHl (sz:=sz) cs0 (fun ds hd=>?_),hl0];obtain ⟨j,hj,e⟩:=List.mem_iff_getElem.1 hd;have hj2:j < fs.length:=by omega
  exact L.len (hR j fs[j] ds (yJ hj2) (by rw [yJ hj,e]))
 have hfe:css.flatten=cs0.flatten++cl:=by rw [<- hs];simp
 rw [hfe] at h2;rcases h2.2 with ⟨_,h6⟩ | ⟨g,c,cur,hv,hb,hg,hnc,hcm,_⟩
 ·omega
 ·simp only [xX] at hv
  obtain ⟨rfl,_,rfl⟩:=hv;refine ⟨g,cap,cs0,cl,by simp,h3 g rfl,hl0,hfl,L.len hRl,h2,hRl,hR,hnc,hcm⟩
end
section
variable {R:zA0 zx} {sz:Nat} {ty:TypeId} {w w':World} {T:zS} {F:Nat -> Prop} {id i:Nat} {v:Value} {fs:List zx} {f:zx}
theorem zBd.join {g cap:Nat} {css:List (List Value)} {cs:List Value} (ho:w.ownsRow 0 ty sz (.slice (some ⟨g,0,none⟩) (fs.length+1) cap) (fs.length+1) (css.flatten++cs)) (hg:T g=some (id, .fs i)) (hl:css.length=fs.length) (hR:R w F f cs)
 (hRs:∀ (j:Nat) (y:zx) (ds:List Value),fs[j]?=some y -> css[j]?=some ds -> R w F y ds):zBd R sz ty w T F id i (.slice (some ⟨g,0,none⟩) (fs.length+1) cap) (fs++[f]):=by
 refine ⟨css++[cs],by simp [hl],?_,fun kb e=>?_,⟨some ⟨g,0,none⟩,cap,by simp⟩,fun j y ds e1 e2=>?_⟩
 ·have e:(css++[cs]).flatten=css.flatten++cs:=by simp
  rw [e,xE,List.length_singleton];exact ho
 ·have e':g=kb:=J214 _
  rw [<- e'];exact hg
 ·rcases xL j fs.length with hj | hj
  ·rw [xK hj] at e1
   rw [xK (by omega)] at e2;exact hRs j y ds e1 e2
  ·rw [yY hj] at e1
   rw [yY (by omega),hl] at e2
   have hz:j - fs.length=0:=by
    have:=(yO.1 e1).1
    simpa using this
   rw [hz] at e1 e2;simp only [yC,yP] at e1 e2;subst e1 e2;exact hR
theorem zBd.pop {g cap:Nat} {css:List (List Value)} {cs:List Value} (ho:w.ownsRow 0 ty sz (.slice (some ⟨g,0,none⟩) (fs.length+1) cap) (fs.length+1) (css.flatten++cs)) (hg:T g=some (id, .fs i)) (hl:css.length=fs.length) (hfl:css.flatten.length=fs.length*sz)
 (hRs:∀ (j:Nat) (y:zx) (ds:List Value),fs[j]?=some y -> css[j]?=some ds -> R w F y ds):zBd R sz ty w T F id i (.slice (some ⟨g,0,none⟩) fs.length cap) fs :=
 ⟨css,hl,ownsRow_pop hfl ho,fun kb e=>by
  have e':g=kb:=J214 _;rw [<- e'];exact hg,⟨_,cap,rfl⟩,hRs⟩
end
section
variable {R:zA0 zx} {sz:Nat} {ty:TypeId} (L:zAN R sz)
include L
variable {w w':World} {T:zS} {F:Nat -> Prop} {id i:Nat} {v:Value} {fs:List zx} {f:zx}
theorem zBd.push {T':zS} {ad:Option Addr} {n cap:Nat} {cs:List Value} (h:zBd R sz ty w T F id i v fs) (hk:Keeps zA w w') (hx:∀ k y,T k=some y -> T' k=some y) {w2:World} (ha:∀ css:List (List Value),css.length=fs.length -> w'.ownsRow 0 ty sz v fs.length css.flatten -> zy w' 0 ty sz v (fs.length+1) (css.flatten++cs) ad cap w2)
 (hT:∀ kb,(Value.slice ad (fs.length+1) cap).ownBlock=some kb -> T' kb=some (id, .fs i)) (hR:R w F f cs) (hF:∀ k,F k -> T k=none):zBd R sz ty w2 T' F id i (.slice ad (fs.length+1) cap) (fs++[f]):=by
 obtain ⟨css,h1,h2,h3,h4,h5⟩:=h;have h2':=zF h2 hk (fun _ _ h=>h);have ha':=ha css h1 h2';have hkA:Keeps (fun q=>v.ownBlock=some q) w' w2:=xS ha' (yB _ _) (fun q e _=>e)
 have hkeep:∀ y ds,R w F y ds -> R w2 F y ds:=fun y ds hy=>L.keeps (L.keeps hy hk (fun _ _ h=>h)) hkA (fun k hf hs=>by
  have:=h3 k hs
  rw [hF k hf] at this;cases this)
 refine ⟨css++[cs],by simp [h1],?_,hT,⟨ad,cap,by simp⟩,fun j y ds e1 e2=>?_⟩
 ·have e:(css++[cs]).flatten=css.flatten++cs:=by simp
  rw [e,xE,List.length_singleton];exact ha'.1
 ·rcases xL j fs.length with hj | hj
  ·rw [xK hj] at e1
   rw [xK (by omega)] at e2;exact hkeep y ds (h5 j y ds e1 e2)
  ·rw [yY hj] at e1
   rw [yY (by omega),h1] at e2
   have hz:j - fs.length=0:=by
    have:=(yO.1 e1).1
    simpa using this
   rw [hz] at e1 e2;simp only [yC,yP] at e1 e2;subst e1 e2;exact hkeep _ _ hR
end
def zAu (R:zA0 zx) (sz:Nat) (ty:TypeId) (w:World) (T:zS) (F:Nat -> Prop) (id g i:Nat) (zL:List WTh) (t':WTh) (w':World):Prop :=
 ∃ T' H',zAc R sz ty w' T' F id g H' (zL.set i t') /\ zAQ T T' id w /\ Keeps (zDt T id) w w'
theorem zAu.before {R:zA0 zx} {sz:Nat} {ty:TypeId} {w w1 w':World} {T:zS} {F:Nat -> Prop} {id g i:Nat} {zL:List WTh} {t':WTh} (h:zAu R sz ty w1 T F id g i zL t' w') (hk:Keeps zA w w1):zAu R sz ty w T F id g i zL t' w':=by
 exact J62 _
theorem zAu.after {R:zA0 zx} {sz:Nat} {ty:TypeId} (L:zAN R sz) {w w' w2:World} {T:zS} {F:Nat -> Prop} {id g i:Nat} {zL:List WTh} {t':WTh} (h:zAu R sz ty w T F id g i zL t' w') (hk:Keeps zA w' w2):zAu R sz ty w T F id g i zL t' w2:=by
 obtain ⟨T',H',h1,h2,h3⟩:=h;exact ⟨T',H',zAc.keeps L h1 hk (fun _ _ h=>h),h2,h3.trans hk (fun _ _ h=>h.elim)⟩
inductive AcC (w:World) (F:Nat -> Prop):Ac -> List Value -> Prop where
 | mk (k reg obj:Int) (ex:Ex) (count:Int) (t e:List Ac) (xs:List Value) (ta ea:Option Addr) (tc ec:Nat) (tss ess:Nat -> List Value) (hx:zBC w F ex xs) (ht:t.length <= tc) (he:e.length <= ec)
    (t0:zBQ w F 10 t.length ta tss) (t1:∀ i x,t[i]?=some x -> AcC w F x (tss i)) (e0:zBQ w F 10 e.length ea ess) (e1:∀ i x,e[i]?=some x -> AcC w F x (ess i)) :
    AcC w F (.mk k reg obj ex count t e) ([.int .i64 k, .int .i64 reg, .int .i64 obj]++xs++[.int .i64 count, .slice ta t.length tc, .slice ea e.length ec])
section
variable {S F F':Nat -> Prop} {w w':World} {x:Ac} {cs:List Value} {l:List Ac} {v:Value}
theorem AcC.keeps (h:AcC w F x cs) (hk:Keeps S w w') (hS:∀ k,F k -> ¬ S k):AcC w' F x cs:=by
 induction h with
 | mk k reg obj ex count t e xs ta ea tc ec tss ess hx ht he t0 _ e0 _ ih1 ih2=>exact .mk k reg obj ex count t e xs ta ea tc ec tss ess (hx.keeps hk hS) ht he (t0.keeps hk hS) ih1 (e0.keeps hk hS) ih2
theorem AcC.mono (h:AcC w F x cs) (hF:∀ k,F k -> F' k):AcC w F' x cs:=by
 induction h with
 | mk k reg obj ex count t e xs ta ea tc ec tss ess hx ht he t0 _ e0 _ ih1 ih2=>exact .mk k reg obj ex count t e xs ta ea tc ec tss ess (hx.mono hF) ht he (t0.mono hF) ih1 (e0.mono hF) ih2
theorem AcC.len (h:AcC w F x cs):cs.length=10:=by
 cases h with
 | mk k reg obj ex count t e xs ta ea tc ec tss ess hx=>simp [hx.len]
theorem zJO:zAN AcC 10:=⟨fun h=>h.keeps,fun h=>h.mono,fun h=>h.len⟩
def zAs (w:World) (F:Nat -> Prop) (l:List Ac) (v:Value):Prop:=∃ ad cap css,v=.slice ad l.length cap /\ l.length <= cap /\ zBQ w F 10 l.length ad css /\ ∀ i y,l[i]?=some y -> AcC w F y (css i)
theorem zAs.keeps (h:zAs w F l v) (hk:Keeps S w w') (hS:∀ k,F k -> ¬ S k):zAs w' F l v:=by
 obtain ⟨ad,cap,css,e,hc,h0,h1⟩:=h;exact ⟨ad,cap,css,e,hc,h0.keeps hk hS,fun i y e=>(h1 i y e).keeps hk hS⟩
theorem zAs.mono (h:zAs w F l v) (hF:∀ k,F k -> F' k):zAs w F' l v:=by
 obtain ⟨ad,cap,css,e,hc,h0,h1⟩:=h;exact ⟨ad,cap,css,e,hc,h0.mono hF,fun i y e=>(h1 i y e).mono hF⟩
theorem zAs.nil (w:World) (F:Nat -> Prop):zAs w F [] (.slice none 0 0):=⟨none,0,fun _=>[],rfl,yV _,fun i hi=>absurd hi (vY _),fun i y e=>by simp at e⟩
theorem zAs.slice (h:zAs w F l v):∃ ad cap,v=.slice ad l.length cap:=by
 obtain ⟨ad,cap,css,e,_⟩:=h;exact ⟨ad,cap,e⟩
theorem AcC.cells (h:AcC w F x cs):∃ xa xc tv ev,cs=[.int .i64 x.kind, .int .i64 x.reg, .int .i64 x.obj, .int .i64 x.ex.kind, .int .i64 x.ex.num, .string x.ex.nm, .slice xa x.ex.args.length xc, .int .i64 x.count,tv,ev] ∧
 zQ w F x.ex.args xa /\ zAs w F x.thn tv /\ zAs w F x.els ev:=by
 cases h with
 | mk k r o ex c t e xs ta ea tc ec tss ess hx ht he t0 t1 e0 e1 =>
   obtain ⟨xa,xc,rfl,hxs⟩:=hx.exs;exact ⟨xa,xc,_,_,rfl,hxs,⟨ta,tc,tss,rfl,ht,t0,t1⟩,ea,ec,ess,rfl,he,e0,e1⟩
theorem AcC.zEc (x:Ac) {xa:Option Addr} {xc:Nat} {tv ev:Value} (hx:zQ w F x.ex.args xa) (ht:zAs w F x.thn tv) (he:zAs w F x.els ev) :
 AcC w F x [.int .i64 x.kind, .int .i64 x.reg, .int .i64 x.obj, .int .i64 x.ex.kind, .int .i64 x.ex.num, .string x.ex.nm, .slice xa x.ex.args.length xc, .int .i64 x.count,tv,ev]:=by
 obtain ⟨ta,tc,tss,rfl,hc,t0,t1⟩:=ht;obtain ⟨ea,ec,ess,rfl,hc2,e0,e1⟩:=he;cases x with
 | mk k r o ex c t e=>exact .mk k r o ex c t e _ ta ea tc ec tss ess (zBC.zHd hx) hc hc2 t0 t1 e0 e1
theorem zAs.head {a:Ac} {r:List Ac} (h:zAs w F (a :: r) v):∃ g o cap xa xc tv ev,v=.slice (some ⟨g,o,none⟩) (r.length+1) cap /\ F g /\ zQ w F a.ex.args xa /\ zAs w F a.thn tv /\ zAs w F a.els ev ∧
 (w.cell? ⟨g,o,none⟩=some (.int .i64 a.kind) /\ w.cell? ⟨g,o+1,none⟩=some (.int .i64 a.reg) /\ w.cell? ⟨g,o+2,none⟩=some (.int .i64 a.obj) /\ w.cell? ⟨g,o+3,none⟩=some (.int .i64 a.ex.kind) /\ w.cell? ⟨g,o+4,none⟩=some (.int .i64 a.ex.num) ∧
   w.cell? ⟨g,o+5,none⟩=some (.string a.ex.nm) /\ w.cell? ⟨g,o+6,none⟩=some (.slice xa a.ex.args.length xc) /\ w.cell? ⟨g,o+7,none⟩=some (.int .i64 a.count) /\ w.cell? ⟨g,o+8,none⟩=some tv /\ w.cell? ⟨g,o+9,none⟩=some ev):=by
 obtain ⟨ad,cap,css,rfl,hc,h0,h1⟩:=h;obtain ⟨xa,xc,tv,ev,e,h2,h3,h4⟩:=(h1 0 a rfl).cells;obtain ⟨g,o,rfl,hg,hl,hs⟩:=h0 0 (Nat.succ_pos _);rw [e] at hs;refine ⟨g,o,cap,xa,xc,tv,ev,rfl,hg,h2,h3,h4,?_⟩
 have q:∀ j u,([.int .i64 a.kind, .int .i64 a.reg, .int .i64 a.obj, .int .i64 a.ex.kind, .int .i64 a.ex.num, .string a.ex.nm, .slice xa a.ex.args.length xc, .int .i64 a.count,tv,ev]:List Value)[j]?=some u -> w.cell? ⟨g,o+j,none⟩=some u:=fun j u hj=>by
  have:=hs j u hj
  rwa [Nat.zero_mul,xC] at this
 exact ⟨q 0 _ rfl,q 1 _ rfl,q 2 _ rfl,q 3 _ rfl,q 4 _ rfl,q 5 _ rfl,q 6 _ rfl,q 7 _ rfl,q 8 _ rfl,q 9 _ rfl⟩
theorem zK8:Tryz.prog.underlying 66=some (.slice (Tryz.prog.elem 66)):=by simp [Program.elem,kF]
theorem zLJ:(Tryz.prog.info? 68).map (fun i=>(i.zero,i.size,i.bytes))=some (some (.agg #[.int .i64 0, .int .i64 0, .int .i64 0, .int .i64 0, .int .i64 0, .string zu, .slice none 0 0, .int .i64 0, .slice none 0 0, .slice none 0 0]),10,136):=by kernel_rfl
theorem zMt (w:World):(Go.sizeOf (Tryz.prog.elem 66)).run Tryz.prog w=.ok 10 w:=by
 have he:Tryz.prog.elem 66=68:=by simp [Program.elem,kF]
 obtain ⟨i0,hi0,hz0,hz1,hz2⟩:=info_parts zLJ;rw [he];simp [go_sem,hi0,hz1]
theorem zAs.tail {a:Ac} {r:List Ac} (h:zAs w F (a :: r) v):∃ v',(∀ W,(Instr.slice 66 v (some (.int .i64 1)) none none).run Tryz.prog W=.ok v' W) /\ zAs w F r v':=by
 obtain ⟨ad,cap,css,rfl,hc,h0,h1⟩:=h;have hc':r.length+1 <= cap:=hc;refine ⟨.slice (if cap=1 then ad else ad.map (·.add (1*10))) r.length (cap - 1),fun W=>?_,_,cap - 1,fun i=>css (i+1),rfl,by omega,fun i hi=>?_,fun i y e=>h1 (i+1) y (by simpa using e)⟩
 ·rw [run_slice_l W 66 _ _ _ zK8 .i64 _ (by omega) (by simp;omega),zMt]
  simp [Result.andThen,sliced]
 ·obtain ⟨g,o,rfl,hg,hl,hs⟩:=h0 (i+1) (by simpa using hi)
  refine ⟨g,o+10,?_,hg,hl,fun j u hj=>?_⟩
  ·rw [if_neg (by omega)]
   simp [Addr.add]
  ·have:=hs j u hj
   rwa [show o+10+(i*10+j)=o+((i+1)*10+j) by omega]
end
def zBW (w:World) (F:Nat -> Prop) (bs:List Bd) (ad:Option Addr):Prop :=
 ∀ i (hi:i < bs.length),∃ g o v,ad=some ⟨g,o,none⟩ /\ F g /\ w.cell? ⟨g,o+i*2,none⟩=some (.int .i64 bs[i].regs) /\ w.cell? ⟨g,o+i*2+1,none⟩=some v /\ zAs w F bs[i].acts v
theorem zBW.keeps {S F:Nat -> Prop} {w w':World} {bs:List Bd} {ad:Option Addr} (h:zBW w F bs ad) (hk:Keeps S w w') (hS:∀ k,F k -> ¬ S k):zBW w' F bs ad:=by
 intro i hi
 obtain ⟨g,o,v,e,hg,c0,c1,h1⟩:=h i hi;exact ⟨g,o,v,e,hg,hk.cell (p:=⟨g,_,none⟩) (hS g hg) c0,hk.cell (p:=⟨g,_,none⟩) (hS g hg) c1,h1.keeps hk hS⟩
abbrev zCY:=World -> (Nat -> Prop) -> List Bd -> Option Addr -> Prop
structure BOk (B:zCY):Prop where
 keeps:∀ {S F:Nat -> Prop} {w w':World} {bs:List Bd} {ad:Option Addr},B w F bs ad -> Keeps S w w' -> (∀ k,F k -> ¬ S k) -> B w' F bs ad
theorem zAD:BOk zBW:=⟨fun h=>h.keeps⟩
structure zBE where
 ca:Option Addr
 cn:Nat
 cc:Nat
 mu:Int
 ut:Option Addr
 utc:Nat
 cad:Option Addr
 ccap:Nat
 oad:Option Addr
 ocap:Nat
 gt:Nat
 ct:Nat
def zBE.row (p:zBE) (nt nc no n:Nat):List Value:=[.slice p.ca p.cn p.cc, .int .i64 p.mu, .slice p.ut nt p.utc, .slice p.cad nc p.ccap, .slice p.oad no p.ocap, .slice (some ⟨p.gt,0,none⟩) n p.ct]
structure MaP (R:zA0 zx) (sz:Nat) (ty:TypeId) (B:zCY) (w:World) (T:zS) (F:Nat -> Prop) (id b:Nat) (u:Un) (p:zBE) (m:ze) (H:List HTh):Prop where
 tag:T b=some (id, .mach)
 row:zC w b (p.row u.threads.length m.cells.length m.owners.length m.zL.length)
 cells:zBN w T id .cells (.slice p.cad m.cells.length p.ccap) m.cells
 owners:zBN w T id .owners (.slice p.oad m.owners.length p.ocap) m.owners
 zL:zAc R sz ty w T F id p.gt H m.zL
 bds:B w F u.threads p.ut
def zAh (R:zA0 zx) (sz:Nat) (ty:TypeId) (B:zCY) (w:World) (T:zS) (F:Nat -> Prop) (id b:Nat) (u:Un) (p:zBE) (m':ze) (w':World):Prop :=
 ∃ T' H',MaP R sz ty B w' T' F id b u p m' H' /\ zAQ T T' id w /\ Keeps (zAk T id) w w'
section
variable {R:zA0 zx} {sz:Nat} {ty:TypeId} {B:zCY} (L:zAN R sz) (LB:BOk B) {S:Nat -> Prop} {w w' w2:World} {T T':zS} {F:Nat -> Prop} {id b i:Nat} {u:Un} {p:zBE} {m m':ze} {H:List HTh} {t t':WTh}
theorem MaP.free (h:MaP R sz ty B w T F id b u p m H):∀ k,F k -> ¬ zAk T id k:=fun k hk ⟨t,e⟩=>by
 have:=h.zL.sep.sep k hk
 rw [e] at this;cases this
include L LB in
theorem MaP.keeps (h:MaP R sz ty B w T F id b u p m H) (hk:Keeps S w w') (hS:∀ k,zAk T id k \/ F k -> ¬ S k):MaP R sz ty B w' T F id b u p m H :=
 ⟨h.tag,h.row.keeps hk (hS b (.inl ⟨_,h.tag⟩)),h.cells.keeps hk (fun k e=>hS k (.inl ⟨_,e⟩)),h.owners.keeps hk (fun k e=>hS k (.inl ⟨_,e⟩)),
  zAc.keeps L h.zL hk (fun k e=>hS k (e.imp zDt.own (fun h=>h))),LB.keeps h.bds hk (fun k e=>hS k (.inr e))⟩
include L LB in
theorem MaP.zG (h:MaP R sz ty B w T F id b u p m H) (hk:Keeps zA w w'):MaP R sz ty B w' T F id b u p m H:=MaP.keeps L LB h hk (fun _ _ h=>h)
theorem zAh.start (h:MaP R sz ty B w T F id b u p m H):zAh R sz ty B w T F id b u p m w:=⟨T,H,h,zAQ.refl T id w,yB _ _⟩
theorem zAh.before (h:zAh R sz ty B w' T F id b u p m' w2) (hk:Keeps zA w w'):zAh R sz ty B w T F id b u p m' w2:=by
 exact J62 _
include L LB in
theorem zAh.after (h:zAh R sz ty B w T F id b u p m' w') (hk:Keeps zA w' w2):zAh R sz ty B w T F id b u p m' w2:=by
 obtain ⟨T',H',h1,h2,h3⟩:=h;exact ⟨T',H',MaP.zG L LB h1 hk,h2,h3.trans hk (fun _ _ h=>h.elim)⟩
theorem zAh.trans (hx:zAQ T T' id w) (hk:Keeps (zAk T id) w w') (h:zAh R sz ty B w' T' F id b u p m' w2):zAh R sz ty B w T F id b u p m' w2:=by
 obtain ⟨T2,H2,h1,h2,h3⟩:=h;exact ⟨T2,H2,h1,hx.trans h2 hk.size,hk.trans h3 (fun k hlt hs=>hx.own hs hlt)⟩
include LB in
theorem MaP.went (h:MaP R sz ty B w T F id b u p m H) (hw:zAu R sz ty w T F id p.gt i m.zL t' w'):zAh R sz ty B w T F id b u p (m.zAj i t') w':=by
 obtain ⟨T',H',h1,h2,h3⟩:=hw
 have hn:∀ k t,T k=some (id,t) -> (t=.mach \/ t=.cells \/ t=.owners) -> ¬ zDt T id k:=fun k t e ht hb=>by
  rcases hb with hb | ⟨j,hb | hb⟩ <;> (rw [hb] at e;cases e;rcases ht with ht | ht | ht <;> cases ht)
 refine ⟨T',H',⟨h2.1 _ _ h.tag,?_,(h.cells.keeps h3 (fun k e=>hn k _ e (.inr (.inl rfl)))).ext h2.1,(h.owners.keeps h3 (fun k e=>hn k _ e (.inr (.inr rfl)))).ext h2.1,h1,LB.keeps h.bds h3 (fun k hk hb=>h.free k hk hb.own)⟩,h2,h3.mono (fun k _ e=>e.own)⟩
 have e:(m.zAj i t').zL.length=m.zL.length:=xA;rw [e];exact h.row.keeps h3 (hn b _ h.tag (.inl rfl))
include L LB in
theorem MaP.cell (h:MaP R sz ty B w T F id b u p m H) {k:Nat} (hk:k < m.cells.length):∃ g,p.cad=some ⟨g,0,none⟩ /\ zC w g (ints m.cells) /\ ∀ v,zAh R sz ty B w T F id b u p { m with cells:=m.cells.set k v } (w.setCell ⟨g,k,none⟩ (.int .i64 v)):=by
 obtain ⟨g,cap,e,hT,hr⟩:=h.cells.at hk;simp only [xX] at e;obtain ⟨e1,_,e2⟩:=e;refine ⟨g,e1,hr,fun v=>?_⟩
 have hkp:Keeps (fun q=>q=g) w (w.setCell ⟨g,k,none⟩ (.int .i64 v)):=(yB (fun q=>q=g) w).setCell (p:=⟨g,k,none⟩) (fun _=>rfl) _;have hF:∀ q,F q -> ¬ q=g:=fun q hq e=>h.free q hq (by rw [e];exact ⟨_,hT⟩)
 have ho:∀ q t,T q=some (id,t) -> t ≠ .cells -> ¬ q=g:=fun q t e1 e2 e3=>by rw [e3,hT] at e1;cases e1;exact e2 rfl
 refine ⟨T,H,⟨h.tag,?_,?_,h.owners.keeps hkp (fun q e=>ho q _ e (by decide)),zAc.keeps L h.zL hkp (fun q e=>?_),LB.keeps h.bds hkp hF⟩,zAQ.refl T id w,hkp.mono (fun q _ e=>by rw [e];exact ⟨_,hT⟩)⟩
 ·show zC _ _ (p.row _ (m.cells.set k v).length _ _)
  rw [xA];exact h.row.keeps hkp (ho b _ h.tag (by decide))
 ·have:=zBN.set (id:=id) (t:=.cells) (cap:=p.ccap) hT hr k hk v
  show zBN _ _ _ _ (.slice p.cad (m.cells.set k v).length p.ccap) (m.cells.set k v)
  rw [e1,xA];exact this
 ·exact J109 _
include L LB in
theorem MaP.owner (h:MaP R sz ty B w T F id b u p m H) {k:Nat} (hk:k < m.owners.length):∃ g,p.oad=some ⟨g,0,none⟩ /\ zC w g (ints m.owners) /\ ∀ v,zAh R sz ty B w T F id b u p { m with owners:=m.owners.set k v } (w.setCell ⟨g,k,none⟩ (.int .i64 v)):=by
 obtain ⟨g,cap,e,hT,hr⟩:=h.owners.at hk;simp only [xX] at e;obtain ⟨e1,_,e2⟩:=e;refine ⟨g,e1,hr,fun v=>?_⟩
 have hkp:Keeps (fun q=>q=g) w (w.setCell ⟨g,k,none⟩ (.int .i64 v)):=(yB (fun q=>q=g) w).setCell (p:=⟨g,k,none⟩) (fun _=>rfl) _;have hF:∀ q,F q -> ¬ q=g:=fun q hq e=>h.free q hq (by rw [e];exact ⟨_,hT⟩)
 have ho:∀ q t,T q=some (id,t) -> t ≠ .owners -> ¬ q=g:=fun q t e1 e2 e3=>by rw [e3,hT] at e1;cases e1;exact e2 rfl
 refine ⟨T,H,⟨h.tag,?_,h.cells.keeps hkp (fun q e=>ho q _ e (by decide)),?_,zAc.keeps L h.zL hkp (fun q e=>?_),LB.keeps h.bds hkp hF⟩,zAQ.refl T id w,hkp.mono (fun q _ e=>by rw [e];exact ⟨_,hT⟩)⟩
 ·show zC _ _ (p.row _ _ (m.owners.set k v).length _)
  rw [xA];exact h.row.keeps hkp (ho b _ h.tag (by decide))
 ·have:=zBN.set (id:=id) (t:=.owners) (cap:=p.ocap) hT hr k hk v
  show zBN _ _ _ _ (.slice p.oad (m.owners.set k v).length p.ocap) (m.owners.set k v)
  rw [e1,xA];exact this
 ·exact J109 _
include L in
theorem zLL {g:Nat} {zL:List WTh} {rv fv:Value} (h:zAc R sz ty w T F id g H zL) (hH:H[i]?=some ⟨t.st,rv,fv⟩) (hr:zBN w T id (.regs i) rv t.regs) (hf:zBd R sz ty w T F id i fv t.fs) (s:Int):zAu R sz ty w T F id g i zL { t with st:=s } (w.setCell ⟨g,i*3,none⟩ (.int .i64 s)):=by
 have hk:Keeps (fun k=>k=g) w (w.setCell ⟨g,i*3,none⟩ (.int .i64 s)):=(yB (fun k=>k=g) w).setCell (p:=⟨g,i*3,none⟩) (fun _=>rfl) _;have hg:∀ k y,T k=some y -> y ≠ (id, .zL) -> ¬ k=g:=fun k y e1 e2 e3=>by rw [e3,h.tag] at e1;cases e1;exact e2 rfl
 have hF:∀ k,F k -> ¬ k=g:=fun k hk e=>by have:=h.sep.sep k hk;rw [e,h.tag] at this;cases this
 have hrow:=zED h.row hH 0 (by decide) (.int .i64 s) ⟨s,rv,fv⟩ rfl;have hu:=zAc.upd (i:=i) (t':={ t with st:=s }) L h (zAQ.refl T id w) (h.sep.keeps hk) (hk.mono (fun k _ e=>.inl e)) (a':=⟨s,rv,fv⟩) hrow rfl (hr.keeps hk (fun k e=>hg k _ e (by simp))) (zBd.keeps L hf hk (fun k e=>hg k _ e (by simp)) hF);exact ⟨T,_,hu,zAQ.refl T id w,hk.mono (fun k _ e=>by rw [e];exact .inl h.tag)⟩
end
end Go.Proofs.YtfokdllgnblamaaGreatDoor
