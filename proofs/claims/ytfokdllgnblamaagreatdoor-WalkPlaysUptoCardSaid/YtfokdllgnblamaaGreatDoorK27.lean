/- Layer K: texts joined. -/
import Derived.Test.YtfokdllgnblamaaGreatDoorK26
set_option linter.all false
set_option maxHeartbeats 8000000
set_option maxRecDepth 8000
namespace Go.Proofs.YtfokdllgnblamaaGreatDoor
open Go.RowKit
abbrev xL:=@zm.get_some
theorem J99 (P:Prop) (h:P:=by
 obtain ⟨g,e,h1,h2⟩:=h;exact ⟨g,e,zG h1 hk (fun _ _ h=>h),h2⟩):P:=h
theorem J137 (P:Prop) (h:P:=by
 rcases e with e | e
 ·rcases e with e | ⟨j,e | e⟩ <;> exact ho q _ e (by simp)
 ·exact hF q e):P:=h
theorem J225 (P:Prop) (h:P:=by have:=HB.out.2.2.1;show Ac.hL bd.acts+0 <= _;omega):P:=h
theorem J249 (P:Prop) (h:P:=by have:=h.sep.sep k hk;rw [e,h.tag] at this;cases this):P:=h
theorem J263 (P:Prop) (h:P:=by rcases vB n with e | e;exact absurd (by rw [e];rfl) hn;exact e):P:=h
def zBX (w:World) (F:Nat -> Prop) (bs:List Bd) (ad:Option Addr):Prop :=
 ∀ i (hi:i < bs.length),∃ g o v,ad=some ⟨g,o,none⟩ /\ F g /\ w.cell? ⟨g,o+i*2,none⟩=some (.int .i64 bs[i].regs) /\ w.cell? ⟨g,o+i*2+1,none⟩=some v /\ zBD w F bs[i].acts v
theorem zBX.keeps {S F:Nat -> Prop} {w w':World} {bs:List Bd} {ad:Option Addr} (h:zBX w F bs ad) (hk:Keeps S w w') (hS:∀ k,F k -> ¬ S k):zBX w' F bs ad:=by
 intro i hi
 obtain ⟨g,o,v,e,hg,c0,c1,h1⟩:=h i hi;exact ⟨g,o,v,e,hg,hk.cell (p:=⟨g,_,none⟩) (hS g hg) c0,hk.cell (p:=⟨g,_,none⟩) (hS g hg) c1,h1.keeps hk hS⟩
abbrev zCf:=World -> (Nat -> Prop) -> List Bd -> Option Addr -> Prop
structure BOk (B:zCf):Prop where
 keeps:∀ {S F:Nat -> Prop} {w w':World} {bs:List Bd} {ad:Option Addr},B w F bs ad -> Keeps S w w' -> (∀ k,F k -> ¬ S k) -> B w' F bs ad
theorem zAP:BOk zBX:=⟨fun h=>h.keeps⟩
theorem zo:BOk zAk:=⟨fun h=>h.keeps⟩
structure zAn where
 ca:Option Addr
 cn:Nat
 cc:Nat
 mu:Int
 ut:Option Addr
 utc:Nat
 cad:Option Addr
 ccap:Nat
 oad:Option Addr
 ocap:Nat
 gt:Nat
 ct:Nat
def zAn.row (p:zAn) (nt nc no n:Nat):List Value:=[.slice p.ca p.cn p.cc, .int .i64 p.mu, .slice p.ut nt p.utc, .slice p.cad nc p.ccap, .slice p.oad no p.ocap, .slice (some ⟨p.gt,0,none⟩) n p.ct]
structure MaP (R:zBA WFr) (sz:Nat) (ty:TypeId) (B:zCf) (w:World) (T:zS) (F:Nat -> Prop) (id b:Nat) (u:Un) (p:zAn) (m:zm) (H:List HTh):Prop where
 tag:T b=some (id, .mach)
 row:zC w b (p.row u.threads.length m.cells.length m.owners.length m.zM.length)
 cells:zBQ w T id .cells (.slice p.cad m.cells.length p.ccap) m.cells
 owners:zBQ w T id .owners (.slice p.oad m.owners.length p.ocap) m.owners
 zM:zAV R sz ty w T F id p.gt H m.zM
 bds:B w F u.threads p.ut
def zAC (R:zBA WFr) (sz:Nat) (ty:TypeId) (B:zCf) (w:World) (T:zS) (F:Nat -> Prop) (id b:Nat) (u:Un) (p:zAn) (m':zm) (w':World):Prop :=
 ∃ T' H',MaP R sz ty B w' T' F id b u p m' H' /\ zAG T T' id w /\ Keeps (zAh T id) w w'
section
variable {R:zBA WFr} {sz:Nat} {ty:TypeId} {B:zCf} (L:zAX R sz) (LB:BOk B) {S:Nat -> Prop} {w w' w2:World} {T T':zS} {F:Nat -> Prop} {id b i:Nat} {u:Un} {p:zAn} {m m':zm} {H:List HTh} {t t':WTh}
theorem MaP.free (h:MaP R sz ty B w T F id b u p m H):∀ k,F k -> ¬ zAh T id k:=fun k hk ⟨t,e⟩=>by
 have:=h.zM.sep.sep k hk
 rw [e] at this;cases this
include L LB in
theorem MaP.keeps (h:MaP R sz ty B w T F id b u p m H) (hk:Keeps S w w') (hS:∀ k,zAh T id k \/ F k -> ¬ S k):MaP R sz ty B w' T F id b u p m H :=
 ⟨h.tag,h.row.keeps hk (hS b (.inl ⟨_,h.tag⟩)),h.cells.keeps hk (fun k e=>hS k (.inl ⟨_,e⟩)),h.owners.keeps hk (fun k e=>hS k (.inl ⟨_,e⟩)),
  vN L h.zM hk (fun k e=>hS k (e.imp zCj.own (fun h=>h))),LB.keeps h.bds hk (fun k e=>hS k (.inr e))⟩
include L LB in
theorem MaP.zD (h:MaP R sz ty B w T F id b u p m H) (hk:Keeps zA w w'):MaP R sz ty B w' T F id b u p m H:=MaP.keeps L LB h hk (fun _ _ h=>h)
theorem zAC.start (h:MaP R sz ty B w T F id b u p m H):zAC R sz ty B w T F id b u p m w:=⟨T,H,h,uW T id w,yC _ _⟩
theorem zAC.before (h:zAC R sz ty B w' T F id b u p m' w2) (hk:Keeps zA w w'):zAC R sz ty B w T F id b u p m' w2:=by
 exact J80 _
include L LB in
theorem zAC.after (h:zAC R sz ty B w T F id b u p m' w') (hk:Keeps zA w' w2):zAC R sz ty B w T F id b u p m' w2:=by
 obtain ⟨T',H',h1,h2,h3⟩:=h;exact ⟨T',H',MaP.zD L LB h1 hk,h2,h3.trans hk (fun _ _ h=>h.elim)⟩
theorem zAC.trans (hx:zAG T T' id w) (hk:Keeps (zAh T id) w w') (h:zAC R sz ty B w' T' F id b u p m' w2):zAC R sz ty B w T F id b u p m' w2:=by
 obtain ⟨T2,H2,h1,h2,h3⟩:=h;exact ⟨T2,H2,h1,hx.trans h2 hk.size,hk.trans h3 (fun k hlt hs=>hx.own hs hlt)⟩
include LB in
theorem MaP.went (h:MaP R sz ty B w T F id b u p m H) (hw:zAR R sz ty w T F id p.gt i m.zM t' w'):zAC R sz ty B w T F id b u p (m.zAT i t') w':=by
 obtain ⟨T',H',h1,h2,h3⟩:=hw
 have hn:∀ k t,T k=some (id,t) -> (t=.mach \/ t=.cells \/ t=.owners) -> ¬ zCj T id k:=fun k t e ht hb=>by
  rcases hb with hb | ⟨j,hb | hb⟩ <;> (rw [hb] at e;cases e;rcases ht with ht | ht | ht <;> cases ht)
 refine ⟨T',H',⟨h2.1 _ _ h.tag,?_,(h.cells.keeps h3 (fun k e=>hn k _ e (.inr (.inl rfl)))).ext h2.1,(h.owners.keeps h3 (fun k e=>hn k _ e (.inr (.inr rfl)))).ext h2.1,h1,LB.keeps h.bds h3 (fun k hk hb=>h.free k hk hb.own)⟩,h2,h3.mono (fun k _ e=>e.own)⟩
 have e:(m.zAT i t').zM.length=m.zM.length:=uU;rw [e];exact h.row.keeps h3 (hn b _ h.tag (.inl rfl))
include L LB in
theorem MaP.cell (h:MaP R sz ty B w T F id b u p m H) {k:Nat} (hk:k < m.cells.length):∃ g,p.cad=some ⟨g,0,none⟩ /\ zC w g (ints m.cells) /\ ∀ v,zAC R sz ty B w T F id b u p { m with cells:=m.cells.set k v } (w.setCell ⟨g,k,none⟩ (.int .i64 v)):=by
 obtain ⟨g,cap,e,hT,hr⟩:=h.cells.at hk;simp only [uJ] at e;obtain ⟨e1,_,e2⟩:=e;refine ⟨g,e1,hr,fun v=>?_⟩
 have hkp:Keeps (fun q=>q=g) w (w.setCell ⟨g,k,none⟩ (.int .i64 v)):=(yC (fun q=>q=g) w).setCell (p:=⟨g,k,none⟩) (fun _=>rfl) _;have hF:∀ q,F q -> ¬ q=g:=fun q hq e=>h.free q hq (by rw [e];exact ⟨_,hT⟩)
 have ho:∀ q t,T q=some (id,t) -> t ≠ .cells -> ¬ q=g:=fun q t e1 e2 e3=>by rw [e3,hT] at e1;cases e1;exact e2 rfl
 refine ⟨T,H,⟨h.tag,?_,?_,h.owners.keeps hkp (fun q e=>ho q _ e (by decide)),vN L h.zM hkp (fun q e=>?_),LB.keeps h.bds hkp hF⟩,uW T id w,hkp.mono (fun q _ e=>by rw [e];exact ⟨_,hT⟩)⟩
 ·show zC _ _ (p.row _ (m.cells.set k v).length _ _)
  rw [uU];exact h.row.keeps hkp (ho b _ h.tag (by decide))
 ·have:=zBQ.set (id:=id) (t:=.cells) (cap:=p.ccap) hT hr k hk v
  show zBQ _ _ _ _ (.slice p.cad (m.cells.set k v).length p.ccap) (m.cells.set k v)
  rw [e1,uU];exact this
 ·exact J137 _
include L LB in
theorem MaP.owner (h:MaP R sz ty B w T F id b u p m H) {k:Nat} (hk:k < m.owners.length):∃ g,p.oad=some ⟨g,0,none⟩ /\ zC w g (ints m.owners) /\ ∀ v,zAC R sz ty B w T F id b u p { m with owners:=m.owners.set k v } (w.setCell ⟨g,k,none⟩ (.int .i64 v)):=by
 obtain ⟨g,cap,e,hT,hr⟩:=h.owners.at hk;simp only [uJ] at e;obtain ⟨e1,_,e2⟩:=e;refine ⟨g,e1,hr,fun v=>?_⟩
 have hkp:Keeps (fun q=>q=g) w (w.setCell ⟨g,k,none⟩ (.int .i64 v)):=(yC (fun q=>q=g) w).setCell (p:=⟨g,k,none⟩) (fun _=>rfl) _;have hF:∀ q,F q -> ¬ q=g:=fun q hq e=>h.free q hq (by rw [e];exact ⟨_,hT⟩)
 have ho:∀ q t,T q=some (id,t) -> t ≠ .owners -> ¬ q=g:=fun q t e1 e2 e3=>by rw [e3,hT] at e1;cases e1;exact e2 rfl
 refine ⟨T,H,⟨h.tag,?_,h.cells.keeps hkp (fun q e=>ho q _ e (by decide)),?_,vN L h.zM hkp (fun q e=>?_),LB.keeps h.bds hkp hF⟩,uW T id w,hkp.mono (fun q _ e=>by rw [e];exact ⟨_,hT⟩)⟩
 ·show zC _ _ (p.row _ _ (m.owners.set k v).length _)
  rw [uU];exact h.row.keeps hkp (ho b _ h.tag (by decide))
 ·have:=zBQ.set (id:=id) (t:=.owners) (cap:=p.ocap) hT hr k hk v
  show zBQ _ _ _ _ (.slice p.oad (m.owners.set k v).length p.ocap) (m.owners.set k v)
  rw [e1,uU];exact this
 ·exact J137 _
include L in
theorem zHQ {g:Nat} {zM:List WTh} {rv fv:Value} (h:zAV R sz ty w T F id g H zM) (hH:H[i]?=some ⟨t.st,rv,fv⟩) (hr:zBQ w T id (.regs i) rv t.regs) (hf:zBV R sz ty w T F id i fv t.fs) (s:Int):zAR R sz ty w T F id g i zM { t with st:=s } (w.setCell ⟨g,i*3,none⟩ (.int .i64 s)):=by
 have hk:Keeps (fun k=>k=g) w (w.setCell ⟨g,i*3,none⟩ (.int .i64 s)):=(yC (fun k=>k=g) w).setCell (p:=⟨g,i*3,none⟩) (fun _=>rfl) _;have hg:∀ k y,T k=some y -> y ≠ (id, .zM) -> ¬ k=g:=fun k y e1 e2 e3=>by rw [e3,h.tag] at e1;cases e1;exact e2 rfl
 have hF:∀ k,F k -> ¬ k=g:=fun k hk e=>by exact J249 _
 have hrow:=zDK h.row hH 0 (by decide) (.int .i64 s) ⟨s,rv,fv⟩ rfl;have hu:=zAV.upd (i:=i) (t':={ t with st:=s }) L h (uW T id w) (h.sep.keeps hk) (hk.mono (fun k _ e=>.inl e)) (a':=⟨s,rv,fv⟩) hrow rfl (hr.keeps hk (fun k e=>hg k _ e (by simp))) (zBV.keeps L hf hk (fun k e=>hg k _ e (by simp)) hF);exact ⟨T,_,hu,uW T id w,hk.mono (fun k _ e=>by rw [e];exact .inl h.tag)⟩
end
theorem zC.zDi {w:World} {g:Nat} {a b c d e f:Value} (r:zC w g [a,b,c,d,e,f]):∀ W,Keeps zA w W -> W.cell? ⟨g,0,none⟩=some a /\ W.cell? ⟨g,1,none⟩=some b /\ W.cell? ⟨g,2,none⟩=some c /\ W.cell? ⟨g,3,none⟩=some d /\ W.cell? ⟨g,4,none⟩=some e /\ W.cell? ⟨g,5,none⟩=some f:=fun W q =>
 have r':=r.keeps q (fun h=>h);⟨r'.cell (k:=0) rfl,r'.cell (k:=1) rfl,r'.cell (k:=2) rfl,r'.cell (k:=3) rfl,r'.cell (k:=4) rfl,r'.cell (k:=5) rfl⟩
theorem zGi (n:Nat):(madeCells (Value.int .i64 0).cells (n*1)).toList=ints (List.replicate n 0):=by
 rcases vB n with rfl | h
 ·simp [madeCells,ints]
 ·apply List.ext_getElem?
  intro k
  simp only [madeCells,ints,Array.toList_map,Array.toList_range,kY,List.map_replicate,vR,vZ];by_cases hk:k < n
  ·simp [hk,Value.cells,Nat.mod_one]
  ·simp [hk]
def zFZ (w W:World) (n:Nat) (v:Value):Prop:=∃ g,v=.slice (some ⟨g,0,none⟩) n n /\ W.ownsRow 0 3 1 (.slice (some ⟨g,0,none⟩) n n) n (ints (List.replicate n 0)) /\ w.heap.size <= g
def zFW (w W:World) (pv:Value) (v:Value):Prop:=∃ g,v=.slice (some ⟨g,0,none⟩) 1 1 /\ W.ownsRow 0 103 1 (.slice (some ⟨g,0,none⟩) 1 1) 1 [pv] /\ w.heap.size <= g
theorem zFZ.keeps {w W W':World} {n:Nat} {v:Value} (h:zFZ w W n v) (hk:Keeps zA W W'):zFZ w W' n v:=by
 exact J99 _
theorem zFW.keeps {w W W':World} {pv v:Value} (h:zFW w W pv v) (hk:Keeps zA W W'):zFW w W' pv v:=by
 exact J99 _
theorem zNy {R:zBA WFr} {sz:Nat} {ty:TypeId} (L:zAX R sz) {w W:World} {T:zS} {F:Nat -> Prop} {id g i n g1 g2:Nat} {H:List HTh} {zM:List WTh} {f:WFr} {cs:List Value} (st:Int) (h:zAV R sz ty w T F id g H zM) (hi:i < zM.length) (hk:Keeps zA w W)
 (o1:W.ownsRow 0 3 1 (.slice (some ⟨g1,0,none⟩) n n) n (ints (List.replicate n 0))) (l1:w.heap.size <= g1) (o2:W.ownsRow 0 ty sz (.slice (some ⟨g2,0,none⟩) 1 1) 1 cs) (l2:w.heap.size <= g2) (hg:0 < n -> g1 ≠ g2) (hR:R W F f cs) :
 zAR R sz ty w T F id g i zM ⟨st,List.replicate n 0,[f]⟩ (((W.setCell ⟨g,i*3,none⟩ (.int .i64 st)).setCell ⟨g,i*3+1,none⟩ (.slice (some ⟨g1,0,none⟩) n n)).setCell ⟨g,i*3+2,none⟩ (.slice (some ⟨g2,0,none⟩) 1 1)):=by
 have hgl:g < w.heap.size:=h.sep.ok g _ h.tag;have h1:=h.sep.free l1;have h2:=h.sep.free l2;have lt1:g1 < W.heap.size:=zO o1 rfl;have lt2:g2 < W.heap.size:=zO o2 rfl;have hH:∃ a,H[i]?=some a:=⟨_,yQ (by rw [h.len];exact hi)⟩
 obtain ⟨a,ha⟩:=hH;have hil:i < H.length:=by rw [h.len];exact hi
 have r0:=h.row.keeps hk (fun h=>h);have r1:=zDK r0 ha 0 (by decide) (.int .i64 st) ⟨st,a.rv,a.fv⟩ rfl;have r2:=zDK r1 (xC hil) 1 (by decide) (.slice (some ⟨g1,0,none⟩) n n) ⟨st, .slice (some ⟨g1,0,none⟩) n n,a.fv⟩ rfl;rw [yn] at r2;have r3:=zDK r2 (xC hil) 2 (by decide) (.slice (some ⟨g2,0,none⟩) 1 1) ⟨st, .slice (some ⟨g1,0,none⟩) n n, .slice (some ⟨g2,0,none⟩) 1 1⟩ rfl;rw [yn] at r3
 have hkg:Keeps (fun k=>k=g) W (((W.setCell ⟨g,i*3,none⟩ (.int .i64 st)).setCell ⟨g,i*3+1,none⟩ (.slice (some ⟨g1,0,none⟩) n n)).setCell ⟨g,i*3+2,none⟩ (.slice (some ⟨g2,0,none⟩) 1 1)) :=
  (((yC (fun k=>k=g) W).setCell (p:=⟨g,i*3,none⟩) (fun _=>rfl) _).setCell (p:=⟨g,i*3+1,none⟩) (fun _=>rfl) _).setCell (p:=⟨g,i*3+2,none⟩) (fun _=>rfl) _
 have r3':zC (((W.setCell ⟨g,i*3,none⟩ (.int .i64 st)).setCell ⟨g,i*3+1,none⟩ (.slice (some ⟨g1,0,none⟩) n n)).setCell ⟨g,i*3+2,none⟩ (.slice (some ⟨g2,0,none⟩) 1 1)) g _:=r3;generalize (((W.setCell ⟨g,i*3,none⟩ (.int .i64 st)).setCell ⟨g,i*3+1,none⟩ (.slice (some ⟨g1,0,none⟩) n n)).setCell ⟨g,i*3+2,none⟩ (.slice (some ⟨g2,0,none⟩) 1 1))=w' at hkg r3' ⊢;have hkw:Keeps (fun k=>k=g) w w':=(hk.mono (fun _ _ h=>h.elim)).trans hkg (fun _ _ h=>h)
 have hT:∃ T',zAG T T' id w /\ (0 < n -> T' g1=some (id, .regs i)) /\ T' g2=some (id, .fs i) /\ zFH w' T' F:=by
  have hw':W.heap.size <= w'.heap.size:=hkg.size;rcases vB n with e | e
  ·exact ⟨zCk T id (.fs i) g2,zCG (.inr ⟨h2.1,l2⟩),fun q=>absurd e (by omega),zCZ _ _ _ _,(h.sep.keeps hkw).tag (by omega) h2.2⟩
  ·have hne:=hg e
   have e2:zCk T id (.regs i) g1 g2=none:=by unfold zCk;rw [if_neg (fun q=>hne q.symm)];exact h2.1
   refine ⟨zCk (zCk T id (.regs i) g1) id (.fs i) g2,(zCG (.inr ⟨h1.1,l1⟩)).trans (zCG (.inr ⟨e2,l2⟩)) (yV _),fun _=>?_,zCZ _ _ _ _,((h.sep.keeps hkw).tag (by omega) h1.2).tag (by omega) h2.2⟩
   unfold zCk;rw [if_neg hne,if_pos rfl]
 obtain ⟨T',hx,t1,t2,hsep⟩:=hT;have ng1:¬ g1=g:=by omega
 have ng2:¬ g2=g:=by omega
 have o1':=zG o1 hkg (fun q e1 e2=>by have e3:g1=q:=(J222 _);exact ng1 (e3.trans e2));have o2':=zG o2 hkg (fun q e1 e2=>by have e3:g2=q:=(J222 _);exact ng2 (e3.trans e2));have hF:∀ k,F k -> ¬ k=g:=fun k hk e=>by exact J249 _
 have hI:zBQ w' T' id (.regs i) (.slice (some ⟨g1,0,none⟩) n n) (List.replicate n 0) :=
  ⟨some ⟨g1,0,none⟩,n,by rw [vL],fun hn=>⟨g1,rfl,t1 (J263 _),uC o1'⟩⟩
 have hf:zBV R sz ty w' T' F id i (.slice (some ⟨g2,0,none⟩) 1 1) [f] :=
  ⟨[cs],rfl,by simpa using o2',fun kb e=>by have e3:g2=kb:=(J257 _);rw [<- e3];exact t2,⟨_,_,rfl⟩,fun j y ds e1 e2=>by
   have hz:j=0:=by have:=(yP.1 e1).1;simpa using this
   subst hz;simp only [yD,yO] at e1 e2;subst e1 e2;exact L.keeps hR hkg hF⟩
 have hkk:Keeps (fun k=>k=g \/ T k=some (id, .regs i) \/ T k=some (id, .fs i)) w w':=hkw.mono (fun k _ e=>.inl e);exact ⟨T',_,zAV.upd (i:=i) (t':=⟨st,List.replicate n 0,[f]⟩) L h hx hsep hkk (a':=⟨st, .slice (some ⟨g1,0,none⟩) n n, .slice (some ⟨g2,0,none⟩) 1 1⟩) r3' rfl hI hf,hx,zFA h hkk⟩
theorem zGW {w:World} {T:zS} {F:Nat -> Prop} {id b i:Nat} {u:Un} {p:zAn} {m:zm} {H:List HTh} (h:MaP zi 1 103 zBX w T F id b u p m H) (hr:zX u=true) (hm:m.ok u) (hi:i < m.zM.length) :
 Calls Tryz.prog 34 #[.pointer (some ⟨b,0,none⟩), .int .i64 i] w fun e w'=>e=.returned (.tuple #[]) /\ zAC zi 1 103 zBX w T F id b u p (zEP u m i) w':=by
 obtain ⟨bd,hbd,_,hbe⟩:=hm.th hi;have hi2:=(yP.1 hbd).1;have hbd':u.threads[i]=bd:=(yP.1 hbd).2;have hmay:=(zAq hr).2.2.2.2.2 bd (vD hbd);obtain ⟨gu,ou,v,hut,hFu,c0,c1,hacs⟩:=h.bds i hi2;rw [hbd'] at c0 hacs;obtain ⟨va,vc,rfl⟩:=hacs.slice;have HM:=yB h;have y:=zC.zDi (show zC w b [_,_,_,_,_,_] from h.row);have d:∀ W,Keeps zA w W -> W.cell? ⟨gu,ou+i*2,none⟩=some (.int .i64 bd.regs) /\ W.cell? ⟨gu,ou+i*2+1,none⟩=some (.slice va bd.acts.length vc):=fun W q=>⟨q.cell (fun h=>h) c0,q.cell (fun h=>h) c1⟩
 obtain ⟨ca,cn,cc,mu,ut,utc,cad,ccap,oad,ocap,gt,ct⟩:=p;dsimp only at y hut
 subst hut
 have fr:∀ j,j < 3 -> ∀ W,Keeps zA w W -> W.frozen? ⟨gt,i*3+j,none⟩=false:=fun j hj=>zK (zCt h.zM.row (by rw [h.zM.len];exact hi) j hj) (by
  have hl:i < H.length:=by rw [h.zM.len];exact hi
  obtain ⟨t1,t2,t3⟩:=zAA h.zM.row (yQ hl);rcases (show j=0 \/ j=1 \/ j=2 by omega) with rfl | rfl | rfl
  ·exact ⟨_,t1⟩
  ·exact ⟨_,t2⟩
  ·exact ⟨_,t3⟩)
 have f0:∀ W,Keeps zA w W -> W.frozen? ⟨gt,i*3,none⟩=false:=fr 0 (by decide)
 have f1:=fr 1 (by decide);have f2:=fr 2 (by decide);obtain ⟨rv0,fv0,hH0,_⟩:=h.zM.get (xL hi);have th:=zAA h.zM.row hH0;have s0:=zV th.1;have s1:=zV th.2.1;have s2:=zV th.2.2;clear th hH0;obtain ⟨rg,hrg⟩:∃ n:Nat,bd.regs=n:=⟨bd.regs.toNat,by have:=hmay.1;omega⟩
 have hrb:rg <= 8:=by have:=hmay.2.1;omega
 have HB:Hid (u.body i=bd /\ Ac.zAM u bd.regs bd.acts=true /\ Ac.hL bd.acts <= 500 /\ bd.regs=(rg:Int) /\ zBD w F bd.acts (.slice va bd.acts.length vc) /\ zX u=true /\ m.ok u /\ i < m.zM.length):=⟨hbe,hmay.2.2.1,hmay.2.2.2,hrg,hacs,hr,hm,hi⟩;rw [hrg] at d;have i0:(0:Int) <= i:=by omega
 have i1:(i:Int) < (m.zM.length:Int):=by omega
 have i2:(i:Int) < (u.threads.length:Int):=by omega
 have r0:(0:Int) <= rg:=by omega
 obtain ⟨k0,hk0,hz0,hz1,hz2⟩:=info_parts zA3;obtain ⟨nt,hnt⟩:=eX u.threads.length;obtain ⟨nm,hnm⟩:=eX m.zM.length;obtain ⟨na,hna⟩:=eX bd.acts.length;rw [<- hnt] at y i2;rw [<- hnm] at y i1;rw [<- hna] at d;have HN:Hid (nt=u.threads.length /\ nm=m.zM.length /\ na=bd.acts.length):=⟨hnt,hnm,hna⟩;clear h hm hi hbd hbd' hi2 hFu c0 c1 hmay hacs fr hrg hbe hnt hnm hna hr;have k0w:=zH w;go_enter Tryz.func34,Tryz.ntmps34
 go_upto_region 0 with fail
 refine zL 29 (by kernel_rfl) (by kernel_rfl) (Keeps zA) (yC zA) (fun a b c h h'=>xE h h') (zAH [some (.pointer (some ⟨b,0,none⟩)),some (.pointer (some ⟨b,0,none⟩)),some (.pointer (some ⟨b,5,none⟩)),some (.slice (some ⟨gt,0,none⟩) nm ct),some (.int .i64 (i:Int)),some (.pointer (some ⟨b,0,none⟩)),some (.pointer (some ⟨b,0,none⟩)),some (.pointer (some ⟨b,0,none⟩)),some (.pointer (some ⟨b,2,none⟩)),some (.slice (some ⟨gu,ou,none⟩) nt utc),some (.int .i64 (i:Int)),some (.pointer (some ⟨gu,ou+i*2,none⟩)),some (.pointer (some ⟨gu,ou+i*2,none⟩)),some (.int .i64 (rg:Int)),none,some (.pointer (some ⟨b,0,none⟩)),some (.pointer (some ⟨b,0,none⟩)),some (.pointer (some ⟨b,0,none⟩)),some (.pointer (some ⟨b,2,none⟩)),some (.slice (some ⟨gu,ou,none⟩) nt utc),some (.int .i64 (i:Int)),some (.pointer (some ⟨gu,ou+i*2,none⟩)),some (.pointer (some ⟨gu,ou+i*2+1,none⟩)),some (.slice va na vc),some (.agg #[.slice va na vc]),some (.iface 135 (.agg #[.slice va na vc])),none,none,some (.pointer (some ⟨gt,i*3,none⟩))] (fun j v W=>if j=14 then zFZ w W rg v else if j=26 then zFW w W (.iface 135 (.agg #[.slice va na vc])) v else ∃ v1 v2,v=.agg #[.int .i64 2,v1,v2] /\ zFZ w W rg v1 /\ zFW w W (.iface 135 (.agg #[.slice va na vc])) v2)) (uG (fun j v W W' h hk=>by
  revert h
  split
  ·exact fun h=>h.keeps hk
  ·split
   ·exact fun h=>h.keeps hk
   ·rintro ⟨v1,v2,e,h1,h2⟩;exact ⟨v1,v2,e,h1.keeps hk,h2.keeps hk⟩)) ?_ ?_
 ·intro q oo hq ho vs W Q' hR hd hK
  have HRW:Keeps zA w W:=((zH w).drew).zB hR;rcases (show q=0 \/ q=1 \/ q=2 \/ q=3 \/ q=4 \/ q=5 \/ q=6 \/ q=7 \/ q=8 \/ q=9 \/ q=10 \/ q=11 \/ q=12 \/ q=13 \/ q=14 \/ q=15 \/ q=16 \/ q=17 \/ q=18 \/ q=19 \/ q=20 \/ q=21 \/ q=22 \/ q=23 \/ q=24 \/ q=25 \/ q=26 \/ q=27 \/ q=28 by omega) with rfl | rfl | rfl | rfl | rfl | rfl | rfl | rfl | rfl | rfl | rfl | rfl | rfl | rfl | rfl | rfl | rfl | rfl | rfl | rfl | rfl | rfl | rfl | rfl | rfl | rfl | rfl | rfl | rfl
  all_goals (simp only [yD,yE,yO] at ho;subst ho;simp only [zJ,yD,yE,yL,Option.bind,Act.put,yF,yG,yH] at hK ⊢;clear hq)
  all_goals try ((try (have e:vs 0=_:=hd 0 (by decide +kernel);rw [e] at hK ⊢;clear e));(try (have e:vs 1=_:=hd 1 (by decide +kernel);rw [e] at hK ⊢;clear e));(try (have e:vs 2=_:=hd 2 (by decide +kernel);rw [e] at hK ⊢;clear e));(try (have e:vs 3=_:=hd 3 (by decide +kernel);rw [e] at hK ⊢;clear e));(try (have e:vs 4=_:=hd 4 (by decide +kernel);rw [e] at hK ⊢;clear e));(try (have e:vs 5=_:=hd 5 (by decide +kernel);rw [e] at hK ⊢;clear e));(try (have e:vs 6=_:=hd 6 (by decide +kernel);rw [e] at hK ⊢;clear e));(try (have e:vs 7=_:=hd 7 (by decide +kernel);rw [e] at hK ⊢;clear e));(try (have e:vs 8=_:=hd 8 (by decide +kernel);rw [e] at hK ⊢;clear e));(try (have e:vs 9=_:=hd 9 (by decide +kernel);rw [e] at hK ⊢;clear e));(try (have e:vs 10=_:=hd 10 (by decide +kernel);rw [e] at hK ⊢;clear e));(try (have e:vs 11=_:=hd 11 (by decide +kernel);rw [e] at hK ⊢;clear e));(try (have e:vs 12=_:=hd 12 (by decide +kernel);rw [e] at hK ⊢;clear e));(try (have e:vs 13=_:=hd 13 (by decide +kernel);rw [e] at hK ⊢;clear e));(try (have e:vs 15=_:=hd 15 (by decide +kernel);rw [e] at hK ⊢;clear e));(try (have e:vs 16=_:=hd 16 (by decide +kernel);rw [e] at hK ⊢;clear e));(try (have e:vs 17=_:=hd 17 (by decide +kernel);rw [e] at hK ⊢;clear e));(try (have e:vs 18=_:=hd 18 (by decide +kernel);rw [e] at hK ⊢;clear e));(try (have e:vs 19=_:=hd 19 (by decide +kernel);rw [e] at hK ⊢;clear e));(try (have e:vs 20=_:=hd 20 (by decide +kernel);rw [e] at hK ⊢;clear e));(try (have e:vs 21=_:=hd 21 (by decide +kernel);rw [e] at hK ⊢;clear e));(try (have e:vs 22=_:=hd 22 (by decide +kernel);rw [e] at hK ⊢;clear e));(try (have e:vs 23=_:=hd 23 (by decide +kernel);rw [e] at hK ⊢;clear e));(try (have e:vs 24=_:=hd 24 (by decide +kernel);rw [e] at hK ⊢;clear e));(try (have e:vs 25=_:=hd 25 (by decide +kernel);rw [e] at hK ⊢;clear e));(try (have e:vs 28=_:=hd 28 (by decide +kernel);rw [e] at hK ⊢;clear e));clear hd;go_wp2_with (fail);first | exact hK _ _ (yC _ _) rfl)
  ·have e:vs 13=_:=hd 13 (by kernel_rfl)
   rw [e] at hK ⊢;clear hd e;refine wpList_make_full _ rfl _ _ _ rfl 0 3 k0 _ 1 xG hk0 hz0 hz1 _ _ _ _ rg (by rfl) (by rfl) rfl rfl (by rw [hz2];omega) (by unfold maxLen;omega) (yJ _) ?_
   intro w1 hown hgr
   rw [zGi] at hown;exact hK _ _ ((yC _ _).grown hgr (fun k e=>by cases e)) (by show zFZ _ _ _ _;exact ⟨_,rfl,hown,HRW.size⟩)
  ·have e:vs 25=_:=hd 25 (by kernel_rfl)
   rw [e] at hK ⊢;clear hd e;go_wp2_with fail
   exact hK _ _ ((yC _ _).alloc _) (by show zFW _ _ _ _;exact ⟨_,rfl,World.ownsRow_lit W #[.iface 135 (.agg #[.slice va na vc])] 1 (yJ _) (by unfold maxLen;omega) rfl,HRW.size⟩)
  ·have h14:zFZ w W rg (vs 14):=hd 14 (by kernel_rfl)
   have h26:zFW w W (.iface 135 (.agg #[.slice va na vc])) (vs 26):=hd 26 (by kernel_rfl);obtain ⟨g1,e1,o1⟩:=h14;obtain ⟨g2,e2,o2⟩:=h26;rw [e1,e2] at hK ⊢;have O1:=yB o1;have O2:=yB o2;clear hd e1 e2 o1 o2;go_wp2_with fail
   exact hK _ _ (yC _ _) (by show ∃ v1 v2,_;exact ⟨_,_,rfl,⟨g1,rfl,O1.out⟩,g2,rfl,O2.out⟩)
 ·intro vs W hR hFF
  have HRW:Keeps zA w W:=((zH w).drew).zB hR;obtain ⟨v1,v2,e27,⟨g1,rfl,o1,l1⟩,g2,rfl,o2,l2⟩:=(hFF 27 (by decide):∃ v1 v2,vs 27=.agg #[.int .i64 2,v1,v2] /\ zFZ w W rg v1 /\ zFW w W (.iface 135 (.agg #[.slice va na vc])) v2);have e28:vs 28=_:=hFF 28 (by decide);simp only [zJ,yD,yE,yL,Option.bind,Act.put,yF,yG,yH,yS,yR];rw [e27,e28];clear hFF e27 e28 y d
  have hne:0 < rg -> g1 ≠ g2:=fun hn e=>by
   subst e;have q1:=(uC o1).cell (zu (List.replicate rg 0) 0 (by simpa using hn));have q2:=(uC o2).cell (k:=0) rfl;rw [q1] at q2;cases q2
  have HO:Hid (W.ownsRow 0 3 1 (.slice (some ⟨g1,0,none⟩) rg rg) rg (ints (List.replicate rg 0)) /\ w.heap.size <= g1 /\ W.ownsRow 0 103 1 (.slice (some ⟨g2,0,none⟩) 1 1) 1 [.iface 135 (.agg #[.slice va na vc])] /\ w.heap.size <= g2 /\ (0 < rg -> g1 ≠ g2)):=⟨o1,l1,o2,l2,hne⟩;clear o1 o2 l1 l2 hne;go_upto_region 1 with fail
  have HW:=yB (MaP.went (i:=i) zAP HM.out (zNy (i:=i) (n:=rg) (f:=⟨bd.acts,bd.acts,1⟩) zU 2 HM.out.zM HB.out.2.2.2.2.2.2.2 HRW HO.out.1 HO.out.2.1 HO.out.2.2.1 HO.out.2.2.2.1 HO.out.2.2.2.2 ⟨_,rfl, .inl ⟨yV _,_,rfl,by rw [HN.out.2.2];exact HB.out.2.2.2.2.1.keeps HRW (fun _ _ h=>h)⟩⟩));generalize ((W.setCell ⟨gt,i*3,none⟩ (.int .i64 2)).setCell ⟨gt,i*3+1,none⟩ (.slice (some ⟨g1,0,none⟩) rg rg)).setCell ⟨gt,i*3+2,none⟩ (.slice (some ⟨g2,0,none⟩) 1 1)=w7 at HW ⊢;obtain ⟨T7,H7,M7,x7,k7⟩:=HW.out;have hl7:(m.zAT i ⟨2,List.replicate rg 0,[⟨bd.acts,bd.acts,1⟩]⟩).zM.length=m.zM.length:=zm.zBC _ _ _;have y:=zC.zDi (show zC w7 b [_,_,_,_,_,_] from M7.row);dsimp only at y
  rw [hl7,<- HN.out.2.1] at y
  have HL:=yB (zGk (n:=bd.regs) (t:=⟨2,List.replicate rg 0,[⟨bd.acts,bd.acts,1⟩]⟩) M7.zM (i:=i) (xC HB.out.2.2.2.2.2.2.2) (u:=u) ⟨fun f hf=>by
   obtain rfl:f=⟨bd.acts,bd.acts,1⟩:=by simpa using hf
   exact ⟨HB.out.2.1,HB.out.2.1,by show 1 <= 1000;omega⟩,zBY (fs:=[]) ⟨yJ _,fun j f e=>by cases e⟩ (yJ _) (J225 _) (J225 _)⟩ (by rw [HB.out.2.2.2.1];simp))
  have HX:Hid (zAG T T7 id w /\ Keeps (zAh T id) w w7):=⟨x7,k7⟩;have HM7:=yB M7;clear M7 x7 k7 hl7 f0 f1 f2 s0 s1 s2 HW;have k7:=zH w7;go_wp2_with (go_at_call 52;refine HL.out.mono ?_;rintro e w8 ⟨rfl,g8⟩;have HW8:=yB g8;clear g8)
  go_returns
  refine ⟨rfl,?_⟩
  have hw:=zAC.trans HX.out.1 HX.out.2 (MaP.went (i:=i) zAP HM7.out HW8.out)
  have e:(m.zAT i ⟨2,List.replicate rg 0,[⟨bd.acts,bd.acts,1⟩]⟩).zAT i (WTh.local ⟨2,List.replicate rg 0,[⟨bd.acts,bd.acts,1⟩]⟩)=zEP u m i:=by
   unfold zEP zHU zm.zAT;rw [HB.out.1,yn,HB.out.2.2.2.1];rfl
  rwa [e] at hw
end Go.Proofs.YtfokdllgnblamaaGreatDoor
