/- Layer M: texts joined. -/
import Derived.Test.YtfokdllgnblamaaGreatDoorM45
import Derived.Test.YtfokdllgnblamaaGreatDoorM47
set_option linter.all false
set_option maxHeartbeats 8000000
set_option maxRecDepth 8000
namespace Go.Proofs.YtfokdllgnblamaaGreatDoor
open Go.RowKit
theorem J116 (P:Prop) (h:P:=by
 clear zc zf;go_wp2_with fail
 obtain ⟨T',C'⟩:=HST.out;exact ⟨⟨k+1,T',_,ad8,cap8,by omega,by go_num,C'⟩,by simp [intOf];omega⟩):P:=h
theorem J140 (P:Prop) (h:P:=by exact hK _ _ HG1.out (by show NwE _ _ _ _ _ _ _;exact HO1.out.mono HRX.out.size (xC _))):P:=h
abbrev zAs:=zAZ zAY 3 138 zAt
section
variable {D N:Nat -> Prop} {w:World} {b:Nat} {u:Un} {m:zi}
theorem zAs.zLs (h:zAs D N w b u m) (i:Int):Calls Tryz.prog 14 #[.pointer (some ⟨b,0,none⟩), .int .i64 i] w fun e w'=>e=.returned (.tuple #[evV (stepM u m i).2.1, .int .i64 (stepM u m i).2.2]) /\ zAs D N w' b u (stepM u m i).1 /\ Keeps (fun q=>¬ N q) w w' :=
 h.stepped fun _ _ _ _ h1=>zJr h1 h.right h.ok h.idle i
theorem zAs.zMr (h:zAs D N w b u m):Calls Tryz.prog 38 #[.pointer (some ⟨b,0,none⟩)] w (zEl w m):=by
 obtain ⟨T,F,p,H,h1,h2⟩:=h.ex;exact zIr h1 h.right h.ok
theorem zAs.zG0 (h:zAs D N w b u m):Calls Tryz.prog 13 #[.pointer (some ⟨b,0,none⟩)] w (zBK w (zBc m)):=by
 obtain ⟨T,F,p,H,h1,h2⟩:=h.ex;exact zE0 h1 h.right h.ok
end
section
variable {cs:List Int} {mu:Int} {bs:List Bd} {w:World} {F:Nat -> Prop} {uca uta:Option Addr} {ucc utc:Nat}
theorem zCR.zOI (h:zCR w F cs bs uca uta) (hr:newR ⟨cs,mu,bs⟩ ≠ 0):Calls Tryz.prog 7 #[.agg #[.slice uca cs.length ucc, .int .i64 mu, .slice uta bs.length utc]] w fun e w'=>e=.returned (.tuple #[.pointer none, .int .i64 (newR ⟨cs,mu,bs⟩)]) /\ Keeps zA w w' :=
 zMq _ hr (yC fun W hk=>(h.zD hk).zJn)
theorem zCR.zNj (h:zCR w F cs bs uca uta) (hr:newR ⟨cs,mu,bs⟩=0):Calls Tryz.prog 7 #[.agg #[.slice uca cs.length ucc, .int .i64 mu, .slice uta bs.length utc]] w fun e w'=>∃ b,e=.returned (.tuple #[.pointer (some ⟨b,0,none⟩), .int .i64 0]) /\ zAs F (fun q=>q < w.heap.size) w' b ⟨cs,mu,bs⟩ (zC8 ⟨cs,mu,bs⟩) /\ Keeps zA w w':=by
 have hR:=zFr hr;refine (zNO (T:=fun _=>none) (id:=0) h.nums h.bds (fun k x e=>by cases e) (fun k t e=>by cases e) (fun k hk=>⟨rfl,h.low k hk⟩) hR (yC fun W hk=>by have g:=(h.zD hk).zJn (mu:=mu) (ucc:=ucc) (utc:=utc);rw [hr] at g;exact g)).mono ?_
 rintro e w' ⟨b,T',p,H,rfl,h1,h2,h3⟩
 exact ⟨b,rfl,zAZ.new zP zl hR h1 h2 h3 (fun q e=>.inl e),h3⟩
end
theorem zB5 {T:zQ} {id:Nat} {t:WTg} {v:Value} {k:Nat} {x:Nat × WTg} (h:zD6 T id t v k=some x):(v.ownBlock=some k /\ x=(id,t)) \/ T k=some x:=by
 by_cases e:v.ownBlock=some k
 ·rw [zBy e] at h
  cases h;exact .inl ⟨e,rfl⟩
 ·rw [zCU e] at h
  exact .inr h
structure CpI (R:zAz WFr) (sz:Nat) (ty th:TypeId) (w wr:World) (F:Nat -> Prop) (T:zQ) (b:Nat) (a1 a2 a3 cv ov:Value) (m:zi) (k:Nat) (H:List HTh) (fa:Option Addr) (fc:Nat):Prop where
 keep:Keeps zA w wr
 ok:∀ q x,T q=some x -> w.heap.size <= q /\ q < wr.heap.size /\ x.1=0
 tag:T b=some (0, .mach)
 row:zC wr b [a1,a2,a3,cv,ov, .slice fa k fc]
 cells:zBD wr T 0 .cells cv m.cells
 owners:zBD wr T 0 .owners ov m.owners
 own:wr.ownsRow 0 th 3 (.slice fa k fc) k (zx H)
 zL:∀ g,(Value.slice fa k fc).ownBlock=some g -> T g=some (0, .zL)
 len:H.length=k
 each:∀ i h t,H[i]?=some h -> m.zL[i]?=some t -> h.st=t.st /\ zBD wr T 0 (.regs i) h.rv t.regs /\ zBC R sz ty wr T F 0 i h.fv t.fs
section
variable {R:zAz WFr} {sz:Nat} {ty th:TypeId} (L:zAb R sz) {w wr W:World} {F:Nat -> Prop} {T:zQ} {b k:Nat} {a1 a2 a3 cv ov:Value} {m:zi} {H:List HTh} {fa:Option Addr} {fc:Nat}
include L in
theorem CpI.zD (h:CpI R sz ty th w wr F T b a1 a2 a3 cv ov m k H fa fc) (hk:Keeps zA wr W):CpI R sz ty th w W F T b a1 a2 a3 cv ov m k H fa fc :=
 ⟨h.keep.zB hk,fun q x e=>by obtain ⟨h1,h2,h3⟩:=h.ok q x e;exact ⟨h1,yJ h2 hk.size,h3⟩,h.tag,h.row.keeps hk (fun h=>h),h.cells.keeps hk (fun _ _ h=>h),h.owners.keeps hk (fun _ _ h=>h),zG h.own hk (fun _ _ h=>h),h.zL,h.len,
  fun i a t e1 e2=>by obtain ⟨q1,q2,q3⟩:=h.each i a t e1 e2;exact ⟨q1,q2.keeps hk (fun _ _ h=>h),yi L q3 hk (fun _ _ h=>h) (fun _ _ h=>h)⟩⟩
theorem CpI.start (hk:Keeps zA w wr) (hb:w.heap.size <= b) {ei:TypeId} {ca oa:Option Addr} {cc oc:Nat} (hr:zC wr b [a1,a2,a3, .slice ca m.cells.length cc, .slice oa m.owners.length oc, .slice none 0 0])
 (hc:wr.ownsRow 0 ei 1 (.slice ca m.cells.length cc) m.cells.length (ints m.cells)) (ho:wr.ownsRow 0 ei 1 (.slice oa m.owners.length oc) m.owners.length (ints m.owners))
 (l3:∀ g,(Value.slice ca m.cells.length cc).ownBlock=some g -> w.heap.size <= g /\ g ≠ b) (l4:∀ g,(Value.slice oa m.owners.length oc).ownBlock=some g -> w.heap.size <= g /\ g ≠ b /\ (Value.slice ca m.cells.length cc).ownBlock ≠ some g) :
 ∃ T,CpI R sz ty th w wr F T b a1 a2 a3 (.slice ca m.cells.length cc) (.slice oa m.owners.length oc) m 0 [] none 0:=by
 obtain ⟨cv,hcv⟩:=eX (Value.slice ca m.cells.length cc);obtain ⟨ov,hov⟩:=eX (Value.slice oa m.owners.length oc);have hcf:∃ ad cap,cv=.slice ad m.cells.length cap:=⟨_,_,hcv⟩
 have hof:∃ ad cap,ov=.slice ad m.owners.length cap:=⟨_,_,hov⟩
 rw [<- hcv] at hc l3 l4 hr ⊢;rw [<- hov] at ho l4 hr ⊢;have t1:∀ q,cv.ownBlock ≠ some q -> ov.ownBlock ≠ some q -> zD6 (zD6 (zCC (fun _=>none) 0 .mach b) 0 .cells cv) 0 .owners ov q=zCC (fun _=>none) 0 .mach b q:=fun q h1 h2=>by rw [zCU h2,zCU h1]
 refine ⟨zD6 (zD6 (zCC (fun _=>none) 0 .mach b) 0 .cells cv) 0 .owners ov,hk,fun q x e=>?_,?_,hr,zBD.of hc (fun g hg=>?_) hcf,zBD.of ho (fun g hg=>zBy hg) hof,xE _ _ _ _,fun g e=>by exact J193 _,rfl,fun i a t e=>by simp at e⟩
 ·rcases zB5 e with ⟨e1,rfl⟩ | e
  ·exact ⟨(l4 q e1).1,zN ho e1,rfl⟩
  ·rcases zB5 e with ⟨e1,rfl⟩ | e
   ·exact ⟨(l3 q e1).1,zN hc e1,rfl⟩
   ·unfold zCC at e
    split at e
    ·rename_i hq
     cases e;rw [hq];exact ⟨hb,hr.lt (by simp),rfl⟩
    ·cases e
 ·rw [t1 b (fun e=>(l3 b e).2 rfl) (fun e=>(l4 b e).2.1 rfl)]
  exact zCG _ _ _ _
 ·rw [zCU (fun e=>(l4 g e).2.2 hg)]
  exact zBy hg
theorem CpI.mid (h:CpI R sz ty th w wr F T b a1 a2 a3 cv ov m k H fa fc) {w1 w2:World} (hk:Keeps zA wr w1) {n' cap':Nat} {ad':Option Addr} {xs:List Value} (ha:zAQ w1 0 th 3 (.slice fa k fc) n' xs ad' cap' w2):zC w2 b [a1,a2,a3,cv,ov, .slice fa k fc] /\ Keeps zA w w2:=by
 have k2:Keeps (fun q=>(Value.slice fa k fc).ownBlock=some q) w1 w2:=ha.keeps (yD _ _) (fun q e _=>e);refine ⟨(h.row.keeps hk (fun h=>h)).keeps k2 (fun e=>?_),ha.keeps (h.keep.zB hk) (fun q e hq=>?_)⟩
 ·have:=h.zL b e
  rw [h.tag] at this;cases this
 ·have:=(h.ok q _ (h.zL q e)).1;omega
include L in
theorem CpI.step (hF:∀ q,F q -> q < w.heap.size) (h:CpI R sz ty th w wr F T b a1 a2 a3 cv ov m k H fa fc) {t:WTh} (ht:m.zL[k]?=some t) {w1 w2:World} (hk:Keeps zA wr w1) {rv fv:Value} {ei:TypeId}
 (hr:w1.ownsRow 0 ei 1 rv t.regs.length (ints t.regs)) (hr2:∃ ad cap,rv=.slice ad t.regs.length cap) (hrn:∀ g,rv.ownBlock=some g -> wr.heap.size <= g)
 {css:List (List Value)} (hf:w1.ownsRow 0 ty sz fv t.fs.length css.flatten) (hf2:∃ ad cap,fv=.slice ad t.fs.length cap) (hfl:css.length=t.fs.length) (hfn:∀ g,fv.ownBlock=some g -> wr.heap.size <= g) (hrf:∀ g,rv.ownBlock=some g -> fv.ownBlock ≠ some g)
 (hR:∀ (j:Nat) (f:WFr) (cs:List Value),t.fs[j]?=some f -> css[j]?=some cs -> R w1 F f cs) {ad':Option Addr} {cap':Nat}
 (ha:zAQ w1 0 th 3 (.slice fa k fc) (k+1) (zx H++[.int .i64 t.st,rv,fv]) ad' cap' w2) :
 ∃ T',CpI R sz ty th w (w2.setCell ⟨b,5,none⟩ (.slice ad' (k+1) cap')) F T' b a1 a2 a3 cv ov m (k+1) (H++[⟨t.st,rv,fv⟩]) ad' cap':=by
 obtain ⟨nv,hnv⟩:=eX (Value.slice ad' (k+1) cap');obtain ⟨ol,hol⟩:=eX (Value.slice fa k fc);obtain ⟨w3,h3⟩:=eX (w2.setCell ⟨b,5,none⟩ (.slice ad' (k+1) cap'));have hm:=h.mid hk ha;have hbw:b < wr.heap.size:=(h.ok b _ h.tag).2.1;have kA:Keeps (fun q=>ol.ownBlock=some q) w1 w2:=by rw [hol];exact ha.keeps (yD _ _) (fun q e _=>e)
 have k3:Keeps (fun q=>q=b) w2 w3:=by rw [h3];exact (yD (fun q=>q=b) w2).setCell (p:=⟨b,5,none⟩) (fun _=>rfl) _
 have kS:Keeps (fun q=>ol.ownBlock=some q \/ q=b) w1 w3:=(kA.mono (fun _ _ e=>.inl e)).trans (k3.mono (fun _ _ e=>.inr e)) (fun _ _ e=>e);have kW:Keeps (fun q=>ol.ownBlock=some q \/ q=b) wr w3:=(hk.mono (fun _ _ e=>e.elim)).trans kS (fun _ _ e=>e);have hth:∀ q,ol.ownBlock=some q -> T q=some (0, .zL):=fun q e=>h.zL q (by rw [<- hol];exact e)
 have hS:∀ q x,T q=some (0,x) -> x ≠ .zL -> x ≠ .mach -> ¬ (ol.ownBlock=some q \/ q=b):=fun q x e n1 n2 hq=>by
  rcases hq with hq | hq
  ·rw [hth q hq] at e;cases e;exact n1 rfl
  ·rw [hq,h.tag] at e;cases e;exact n2 rfl
 have hFS:∀ q,F q -> ¬ (ol.ownBlock=some q \/ q=b):=fun q hq e=>by
  have:=hF q hq
  rcases e with e | e
  ·have:=(h.ok q _ (hth q e)).1;omega
  ·have:=(h.ok b _ h.tag).1;omega
 have hN:∀ q,wr.heap.size <= q -> ¬ (ol.ownBlock=some q \/ q=b):=fun q hq e=>by
  rcases e with e | e
  ·have:=(h.ok q _ (hth q e)).2.1;omega
  ·omega
 have hnb:∀ q,nv.ownBlock=some q -> ol.ownBlock=some q \/ q=w1.heap.size:=fun q e=>by rw [hnv] at e;rw [hol];exact ha.2.2 q e
 have hrl:∀ q,rv.ownBlock=some q -> q < w1.heap.size:=fun q e=>zN hr e
 have hfl2:∀ q,fv.ownBlock=some q -> q < w1.heap.size:=fun q e=>zN hf e
 obtain ⟨T1,e1⟩:=eX (zD6 T 0 (.regs k) rv);obtain ⟨T2,e2⟩:=eX (zD6 T1 0 (.fs k) fv);obtain ⟨T3,e3⟩:=eX (zD6 T2 0 .zL nv);have x1:∀ q y,T q=some y -> T1 q=some y:=fun q y e=>by rw [e1,zCU (fun g=>by have:=hrn q g;have:=(h.ok q _ e).2.1;omega)];exact e
 have x2:∀ q y,T1 q=some y -> T2 q=some y:=fun q y e=>by
  rw [e2,zCU (fun g=>?_)]
  ·exact e
  ·rw [e1] at e
   rcases zB5 e with ⟨g1,_⟩ | e
   ·exact hrf q g1 g
   ·have:=hfn q g;have:=(h.ok q _ e).2.1;omega
 have lt2:∀ q y,T2 q=some y -> w.heap.size <= q /\ q < w1.heap.size /\ y.1=0:=fun q y e=>by
  have hs:=h.keep.size;have hs1:=hk.size;rw [e2] at e;rcases zB5 e with ⟨g,rfl⟩ | e
  ·have:=hfn q g;exact ⟨by omega,hfl2 q g,rfl⟩
  ·rw [e1] at e
   rcases zB5 e with ⟨g,rfl⟩ | e
   ·have:=hrn q g;exact ⟨by omega,hrl q g,rfl⟩
   ·obtain ⟨q1,q2,q3⟩:=h.ok q y e;exact ⟨q1,by omega,q3⟩
 have x3:∀ q y,T2 q=some y -> T3 q=some y:=fun q y e=>by
  by_cases g:nv.ownBlock=some q
  ·rw [e3,zBy g]
   rcases hnb q g with g1 | g1
   ·rw [x2 _ _ (x1 _ _ (hth q g1))] at e;exact e
   ·have:=(lt2 q y e).2.1;omega
  ·rw [e3,zCU g];exact e
 have hx:∀ q y,T q=some y -> T3 q=some y:=fun q y e=>x3 _ _ (x2 _ _ (x1 _ _ e))
 have own3:w3.ownsRow 0 th 3 (.slice ad' (k+1) cap') (k+1) (zx (H++[⟨t.st,rv,fv⟩])):=by
  have e:zx (H++[⟨t.st,rv,fv⟩])=zx H++[.int .i64 t.st,rv,fv]:=by simp [zx,HTh.cells]
  rw [e]
  exact zG ha.1 k3 (fun q g1 g2=>by
   have g2:q=b:=g2;rcases hnb q (by rw [hnv];exact g1) with g3 | g3
   ·have:=hth q g3;rw [g2,h.tag] at this;cases this
   ·have:=hk.size;omega)
 have hsz:w1.heap.size <= w2.heap.size:=kA.size;have hsz3:w2.heap.size <= w3.heap.size:=k3.size;refine ⟨T3,?_⟩
 rw [<- h3];refine ⟨hm.2.trans k3 (fun q hq e=>by have e:q=b:=e;have:=(h.ok b _ h.tag).1;omega),fun q x e=>?_,hx _ _ h.tag,?_,(h.cells.keeps kW (fun q e=>hS q _ e (by simp) (by simp))).ext hx,(h.owners.keeps kW (fun q e=>hS q _ e (by simp) (by simp))).ext hx,own3,fun q e=>by rw [e3];exact zBy (by rw [hnv];exact e),by simp [h.len],fun i a y g1 g2=>?_⟩
 ·rw [e3] at e
  rcases zB5 e with ⟨g,rfl⟩ | e
  ·have hl:=zN own3 (by rw [<- hnv];exact g)
   rcases hnb q g with g1 | g1
   ·exact ⟨(h.ok q _ (hth q g1)).1,hl,rfl⟩
   ·have:=h.keep.size;have:=hk.size;exact ⟨by omega,hl,rfl⟩
  ·obtain ⟨q1,q2,q3⟩:=lt2 q x e;exact ⟨q1,by omega,q3⟩
 ·have r3:=hm.1.set 5 (by simp) (.slice ad' (k+1) cap')
  rw [<- h3] at r3;exact r3
 ·rcases xM i k with hi | hi
  ·rw [xS (by rw [h.len];exact hi)] at g1
   obtain ⟨q1,q2,q3⟩:=h.each i a y g1 g2;exact ⟨q1,(q2.keeps kW (fun q e=>hS q _ e (by simp) (by simp))).ext hx,(yi L q3 kW (fun q e=>hS q _ e (by simp) (by simp)) hFS).ext hx⟩
  ·rw [xJ (by rw [h.len];exact hi),h.len] at g1
   have hz:i - k=0:=by
    have:=(yQ.1 g1).1
    simpa using this
   have hik:i=k:=by omega
   subst hik;rw [hz] at g1;simp only [yE,yP] at g1;subst g1;rw [ht] at g2;cases g2;refine ⟨rfl,zBD.of (zG hr kS (fun q e=>hN q (hrn q e))) (fun q e=>x3 _ _ (x2 _ _ (by rw [e1];exact zBy e))) hr2,css,hfl,zG hf kS (fun q e=>hN q (hfn q e)),fun q e=>x3 _ _ (by rw [e2];exact zBy e),hf2,fun j f cs g3 g4=>L.keeps (hR j f cs g3 g4) kS hFS⟩
theorem CpI.done {B:zB1} {u:Un} {p:zAi} (hF:∀ q,F q -> q < w.heap.size) (h:CpI R sz ty th w wr F T b (.slice p.ca p.cn p.cc) (.int .i64 p.mu) (.slice p.ut u.threads.length p.utc) cv ov m k H fa fc) (hk:k=m.zL.length) (hn:1 <= m.zL.length) (hB:B wr F u.threads p.ut) :
 ∃ p',MaP R sz ty B wr T F 0 b u p' m H /\ zAE (fun _=>none) T 0 w:=by
 subst hk;obtain ⟨cad,ccap,ec,_⟩:=id h.cells;obtain ⟨oad,ocap,eo,_⟩:=id h.owners;obtain ⟨g,c,hg,_,_⟩:=h.own.form (by omega);simp only [uN,true_and] at hg;obtain ⟨rfl,rfl⟩:=hg;subst ec eo;refine ⟨⟨p.ca,p.cn,p.cc,p.mu,p.ut,p.utc,cad,ccap,oad,ocap,g,fc⟩,⟨h.tag,h.row,h.cells,h.owners,⟨h.zL g rfl,⟨fun q x e=>(h.ok q x e).2.1,fun q hq=>?_,fun q hq=>yJ (hF q hq) h.keep.size⟩,uE h.own,h.len,h.each⟩,hB⟩,⟨fun q y e=>(by cases e),fun q y e=>.inr ⟨(h.ok q y e).1,(h.ok q y e).2.2⟩⟩⟩
 cases e:T q with
 | none=>rfl
 | some x=>have:=(h.ok q x e).1;have:=hF q hq;omega
end
def zIC (R:zAz WFr) (sz:Nat) (ty:TypeId) (B:zB1) (w:World) (F:Nat -> Prop) (u:Un) (m:zi) (e:Ending) (w':World):Prop :=
 ∃ b T p H,e=.returned (.pointer (some ⟨b,0,none⟩)) /\ MaP R sz ty B w' T F 0 b u p m H /\ zAE (fun _=>none) T 0 w /\ Keeps zA w w'
theorem zHa (w:World) (ad:Option Addr) (n cap:Nat) (cs:List Value) (h:zk w (.slice ad n cap) n cs) (hl:cs.length=n*1) (h1:∀ u ∈ cs,u.oneCell'=true) (hb:n <= 1001) :
 Calls Tryz.prog 53 #[.slice ad n cap] w (zAr 103 1 w n cs):=by
 obtain ⟨i0,hi0,hz0,hz1,hz2⟩:=info_parts zGA;have HS:=yC h;obtain ⟨ad',cap',e,hc⟩:=h;cases e;have HL:=yC hl;cases ad with
 | none =>
   have hn:n=0:=Decidable.byContradiction fun hn=>by obtain ⟨g,o,e2,_⟩:=hc hn;cases e2
   subst hn;obtain rfl:=vP (show cs.length=0 by omega);clear hc;have hnil:∀ W,(binOp .eql 84 (.slice none 0 cap) (.slice none 0 0)).run Tryz.prog W=.ok (.bool true) W:=fun W=>Lib.run_eql_slice_nil_nil W _ _ vC
   go_enter Tryz.func53,Tryz.ntmps53
   go_wp2
   go_ret
   exact ⟨none,0,rfl,xE _ _ _ _,yD _ _,fun kb e=>by exact J193 _⟩
 | some a =>
   clear hc hl;have HB:=yC hb;have hnil:∀ W,(binOp .eql 84 (.slice (some a) n cap) (.slice none 0 0)).run Tryz.prog W=.ok (.bool false) W:=fun W=>Lib.run_eql_slice_some_nil W _ _ _ vC
   go_enter Tryz.func53,Tryz.ntmps53
   go_wp2_with (at_builtin;refine zI _ (by rfl) _ _ 84 (by rfl) 0 103 i0 _ 1 16 vC hi0 hz0 hz1 hz2 rfl (by decide) (.slice (some ⟨w.heap.size,0,none⟩) 0 0) 0 [] (by rfl) (World.ownsRow_lit w #[] 0 (yK _) (by unfold maxLen;omega) rfl) (.slice (some a) n cap) n cs (by rfl) (HS.out.keeps (S:=zA) ((yD _ _).alloc _) (fun _ _ h=>h)) HL.out h1 (by have:=HB.out;unfold maxLen;omega) (by have:=HB.out;omega) (yK _) ?_;intro ad' cap' w6 hout;have HO:=yC hout;clear hout)
   go_ret
   have hO:=HO.out;refine ⟨ad',cap',by simp,?_,hO.keeps ((yD _ _).alloc _) (fun k e hlt=>by simp [Value.ownBlock] at e;omega),fun kb e=>?_⟩
   ·exact J121 _
   ·exact J73 _
def NwE (e:TypeId) (sz:Nat) (r:Nat × Nat) (W:World) (n:Nat) (cs:List Value) (v:Value):Prop :=
 ∃ ad cap,v=.slice ad n cap /\ W.ownsRow 0 e sz (.slice ad n cap) n cs /\ ∀ g,(Value.slice ad n cap).ownBlock=some g -> r.1 <= g /\ g < r.2
theorem NwE.keeps {e:TypeId} {sz:Nat} {r:Nat × Nat} {W W':World} {n:Nat} {cs:List Value} {v:Value} (h:NwE e sz r W n cs v) (hk:Keeps zA W W'):NwE e sz r W' n cs v:=by
 obtain ⟨ad,cap,e1,h1,h2⟩:=h;exact ⟨ad,cap,e1,zG h1 hk (fun _ _ h=>h),h2⟩
theorem zAr.nwE {e:TypeId} {sz:Nat} {W:World} {n:Nat} {cs:List Value} {r:Ending} {w':World} (h:zAr e sz W n cs r w'):∃ v,r=.returned v /\ NwE e sz (W.heap.size,w'.heap.size) w' n cs v /\ Keeps zA W w':=by
 obtain ⟨ad,cap,rfl,h1,h2,h3⟩:=h;exact ⟨_,rfl,⟨ad,cap,rfl,h1,fun g e=>⟨h3 g e,zN h1 e⟩⟩,h2⟩
theorem NwE.mono {e:TypeId} {sz:Nat} {r r':Nat × Nat} {W:World} {n:Nat} {cs:List Value} {v:Value} (h:NwE e sz r W n cs v) (h1:r'.1 <= r.1) (h2:r.2 <= r'.2):NwE e sz r' W n cs v:=by
 obtain ⟨ad,cap,e1,q1,q2⟩:=h;exact ⟨ad,cap,e1,q1,fun g e=>⟨yX h1 (q2 g e).1,yJ (q2 g e).2 h2⟩⟩
theorem NwE.up {e:TypeId} {sz B:Nat} {W W':World} {n:Nat} {cs:List Value} {v:Value} (h:NwE e sz (B,W.heap.size) W n cs v) (hk:Keeps zA W W'):NwE e sz (B,W'.heap.size) W' n cs v:=(h.keeps hk).mono (xC _) hk.size
theorem zi.ok.zLQ {u:Un} {m:zi} {k:Nat} {t:WTh} (hu:zU u=true) (h:m.ok u) (hi:m.idle) (ht:m.zL[k]?=some t):t.fs.length <= 1001 /\ t.regs.length <= 1000:=by
 obtain ⟨hk,e⟩:=yQ.1 ht;have hk2:k < u.threads.length:=by rw [<- h.zL];exact hk
 have hb:=yR hk2;have ho:=h.each k t _ ht hb;by_cases h1:t.st=1
 ·have hg:m.get k=t:=by rw [<- e];simp [zi.get,List.getD,hk]
  obtain ⟨q1,q2⟩:=hi k hk (by rw [hg];exact h1);rw [hg] at q1 q2;rw [q1,q2];exact ⟨yK _,yK _⟩
 ·obtain ⟨q1,q2⟩:=ho.2.1 h1
  have hm:=(zAN hu).2.2.2.2.2 _ (yO hk2);exact ⟨q2.low.1,by have:=hm.2.1;omega⟩
theorem zBC.places {w:World} {T:zQ} {F:Nat -> Prop} {id i:Nat} {v:Value} {fs:List WFr} (h:zBC zW 1 103 w T F id i v fs):∃ (css:List (List Value)) (ad:Option Addr) (cap:Nat),v=.slice ad fs.length cap /\ css.length=fs.length /\ css.flatten.length=fs.length*1 /\ zk w (.slice ad fs.length cap) fs.length css.flatten /\ (∀ u:Value,u ∈ css.flatten -> u.oneCell'=true) /\ ∀ (j:Nat) (f:WFr) (cs:List Value),fs[j]?=some f -> css[j]?=some cs -> zW w F f cs:=by
 obtain ⟨css,h1,h2,h3,⟨ad,cap,rfl⟩,h5⟩:=h
 have hone:∀ ds,ds ∈ css -> ∃ pv,ds=[pv] /\ pv.oneCell'=true:=fun ds hd=>by
  obtain ⟨j,hj,e⟩:=vR.1 hd;obtain ⟨pv,e2,h6⟩:=h5 j fs[j] ds (yR (by omega)) (J251 _);exact ⟨pv,e2,h6.one⟩
 have hfl:css.flatten.length=fs.length*1:=by rw [zEo (sz:=1) css (fun ds hd=>by obtain ⟨pv,e,_⟩:=hone ds hd;rw [e];rfl),h1]
 refine ⟨css,ad,cap,rfl,h1,hfl,(zAk.of (B:=0) h2 (fun _ _=>yK _)).src,fun u hu=>?_,h5⟩
 obtain ⟨ds,hd,hu⟩:=List.mem_flatten.1 hu;obtain ⟨pv,rfl,h6⟩:=hone ds hd;rw [List.mem_singleton.1 hu];exact h6
def NI (w:World) (gs:Gh) (j:Nat) (W:World) (cs:List Int) (v:Value):Prop:=w.heap.size <= (gs j).1 /\ NwE 3 1 (gs j) W cs.length (ints cs) v
theorem NI.keeps {w:World} {gs:Gh} {j:Nat} {W W':World} {cs:List Int} {v:Value} (h:NI w gs j W cs v) (hk:Keeps zA W W'):NI w gs j W' cs v:=⟨h.1,h.2.keeps hk⟩
theorem NI.loc {w:World} {gs gs':Gh} {j:Nat} {W:World} {cs:List Int} {v:Value} (h:NI w gs j W cs v) (e:gs j=gs' j):NI w gs' j W cs v:=by unfold NI;rw [<- e];exact h
theorem zL1 {w:World} {T:zQ} {F:Nat -> Prop} {b:Nat} {u:Un} {p:zAi} {m:zi} {H:List HTh} (h:MaP zW 1 103 zBL w T F 0 b u p m H) (hu:zU u=true) (hg:m.ok u) (hid:m.idle) :
 Calls Tryz.prog 16 #[.pointer (some ⟨b,0,none⟩)] w (zIC zW 1 103 zBL w F u m):=by
 have hri:=zAN hu;have hmc:m.cells.length <= 8:=by rw [hg.cells];exact hri.2.2.1
 have hmo:m.owners.length <= 8:=by rw [hg.owners];have:=hri.2.2.2.2.1;omega
 have hmt:m.zL.length <= 8:=by rw [hg.zL];exact hri.2.1
 have hm1:1 <= m.zL.length:=by rw [hg.zL];exact hri.1
 have HC0:Hid (∀ W,Keeps zA w W -> Calls Tryz.prog 32 #[.slice p.cad m.cells.length p.ccap] W (zAr 3 1 W m.cells.length (ints m.cells))):=fun W hk=>zB3 W _ m.cells ((h.cells.keeps hk (fun _ _ h=>h)).src) (by omega)
 have HC1:Hid (∀ W,Keeps zA w W -> Calls Tryz.prog 32 #[.slice p.oad m.owners.length p.ocap] W (zAr 3 1 W m.owners.length (ints m.owners))):=fun W hk=>zB3 W _ m.owners ((h.owners.keeps hk (fun _ _ h=>h)).src) (by omega)
 have y:=(show zC w b [.slice p.ca p.cn p.cc, .int .i64 p.mu, .slice p.ut u.threads.length p.utc, .slice p.cad m.cells.length p.ccap, .slice p.oad m.owners.length p.ocap, .slice (some ⟨p.gt,0,none⟩) m.zL.length p.ct] from h.row).zCa;have HM:=yC h;have HG:Hid (zU u=true /\ m.ok u /\ m.idle):=⟨hu,hg,hid⟩;have HN:Hid (m.zL.length <= 8 /\ 1 <= m.zL.length):=⟨hmt,hm1⟩;obtain ⟨a1,ha1⟩:=eX (Value.slice p.ca p.cn p.cc);obtain ⟨a2,ha2⟩:=eX (Value.int .i64 p.mu);obtain ⟨a3,ha3⟩:=eX (Value.slice p.ut u.threads.length p.utc);obtain ⟨cv,hcv⟩:=eX (Value.slice p.cad m.cells.length p.ccap);obtain ⟨ov,hov⟩:=eX (Value.slice p.oad m.owners.length p.ocap);have HA:Hid (a1=.slice p.ca p.cn p.cc /\ a2=.int .i64 p.mu /\ a3=.slice p.ut u.threads.length p.utc):=⟨ha1,ha2,ha3⟩;rw [<- ha1,<- ha2,<- ha3,<- hcv,<- hov] at y;rw [<- hcv] at HC0;rw [<- hov] at HC1;obtain ⟨nt,hnt⟩:=eX m.zL.length;obtain ⟨gt,hgt⟩:=eX p.gt;obtain ⟨ct,hct⟩:=eX p.ct;rw [<- hnt] at hmt hm1 y;rw [<- hgt,<- hct] at y;have HT:Hid (nt=m.zL.length /\ gt=p.gt):=⟨hnt,hgt⟩;obtain ⟨Q,hQ⟩:=eX (zIC zW 1 103 zBL w F u m);rw [<- hQ];have HQ:=yC hQ;clear h hu hg hid hri hmc hmo ha1 ha2 ha3 hcv hov hnt hgt hct hQ;go_enter Tryz.func16,Tryz.ntmps16
 go_upto_region 1 with fail
 refine zG8 16 17 (fun j=>if j=8 then [8] else if j=13 then [13] else if j=14 then [8,13] else if j=15 then [8,13] else []) (by kernel_rfl) (by kernel_rfl) (by kernel_rfl) [some (.pointer (some ⟨b,0,none⟩)),some (.pointer (some ⟨b,0,none⟩)),some (.pointer (some ⟨b,0,none⟩)),some (.agg #[a1,a2,a3]),some (.pointer (some ⟨b,0,none⟩)),some (.pointer (some ⟨b,0,none⟩)),some (.pointer (some ⟨b,3,none⟩)),some (cv),none,some (.pointer (some ⟨b,0,none⟩)),some (.pointer (some ⟨b,0,none⟩)),some (.pointer (some ⟨b,4,none⟩)),some (ov),none,none,none] rfl (fun j v gs W=>if j=8 then NI w gs 8 W m.cells v else if j=13 then NI w gs 13 W m.owners v else if j=14 then (∃ x y,v=.agg #[a1,a2,a3,x,y, .slice none 0 0] /\ NI w gs 8 W m.cells x /\ NI w gs 13 W m.owners y) else if j=15 then (∃ bm x y,v=.pointer (some ⟨bm,0,none⟩) /\ zC W bm [a1,a2,a3,x,y, .slice none 0 0] /\ NI w gs 8 W m.cells x /\ NI w gs 13 W m.owners y /\ w.heap.size <= bm /\ x.ownBlock ≠ some bm /\ y.ownBlock ≠ some bm) else True) (fun j v gs W W' h hk=>?_) (fun j v gs gs' W hg h=>?_) (fun h=>absurd h (by omega)) ?_ ?_
 ·revert h
  split
  ·exact fun h=>h.keeps hk
  ·split
   ·exact fun h=>h.keeps hk
   ·split
    ·rintro ⟨x,y,e,h1,h2⟩;exact ⟨x,y,e,h1.keeps hk,h2.keeps hk⟩
    ·split
     ·rintro ⟨bm,x,y,e,h0,h1,h2,h3⟩;exact ⟨bm,x,y,e,h0.keeps hk (fun h=>h),h1.keeps hk,h2.keeps hk,h3⟩
     ·exact fun h=>h
 ·revert h hg
  split
  ·rename_i e;subst e;exact fun hg h=>h.loc (hg 8 (by simp))
  ·split
   ·rename_i e;subst e;exact fun hg h=>h.loc (hg 13 (by simp))
   ·split
    ·rename_i e;subst e
     intro hg
     rintro ⟨x,y,e,h1,h2⟩;exact ⟨x,y,e,h1.loc (hg 8 (by simp)),h2.loc (hg 13 (by simp))⟩
    ·split
     ·rename_i e;subst e
      intro hg
      rintro ⟨bm,x,y,e,h0,h1,h2,h3⟩;exact ⟨bm,x,y,e,h0,h1.loc (hg 8 (by simp)),h2.loc (hg 13 (by simp)),h3⟩
     ·exact fun _ h=>h
 ·refine ⟨?_,?_,?_,?_,?_,?_,?_,?_,?_,?_,?_,?_,?_,?_,?_,?_,trivial⟩ <;> (intro vs gs W Q' hR hd hK;have HRW:Keeps zA w W:=((zH w).drew).zB hR;simp only [zCW,zBo,zDU,zJ,tz,Option.bind,Act.put] at hd hK ⊢;try simp only [hd] at hK ⊢)
  all_goals try (try clear hd;go_wp2_with (fail);first | exact hK _ _ (yD _ _) rfl)
  ·clear hd
   have HRX:=yC HRW;go_wp2_with (go_at_call 32;refine (HC0.out W HRX.out).mono ?_;rintro e W1 hn;obtain ⟨v,rfl,o1,g1⟩:=hn.nwE;have HO1:=yC o1;have HG1:=yC g1;clear o1 g1 hn)
   exact hK _ _ HG1.out (by show NI w _ 8 _ _ _;exact ⟨by simp only [zEI,if_true];exact HRX.out.size,by simp only [zEI,if_true];exact HO1.out⟩)
  ·clear hd
   have HRX:=yC HRW;go_wp2_with (go_at_call 32;refine (HC1.out W HRX.out).mono ?_;rintro e W1 hn;obtain ⟨v,rfl,o1,g1⟩:=hn.nwE;have HO1:=yC o1;have HG1:=yC g1;clear o1 g1 hn)
   exact hK _ _ HG1.out (by show NI w _ 13 _ _ _;exact ⟨by simp only [zEI,if_true];exact HRX.out.size,by simp only [zEI,if_true];exact HO1.out⟩)
  ·obtain ⟨e3,⟨l8,ad8,cp8,e8,o8⟩,⟨l13,ad13,cp13,e13,o13⟩,-⟩:vs 3=.agg #[a1,a2,a3] /\ NI w gs 8 W m.cells (vs 8) /\ NI w gs 13 W m.owners (vs 13) /\ True:=by simpa using hd
   simp only [e3,e8,e13] at hK ⊢;have H8:Hid (NI w gs 8 W m.cells (.slice ad8 m.cells.length cp8)):=⟨l8,ad8,cp8,rfl,o8⟩;have H13:Hid (NI w gs 13 W m.owners (.slice ad13 m.owners.length cp13)):=⟨l13,ad13,cp13,rfl,o13⟩;clear hd e3 e8 e13 l8 o8 l13 o13;go_wp2_with fail
   exact hK _ _ (yD _ _) (by show ∃ x y,_;exact ⟨_,_,rfl,NI.loc H8.out rfl,NI.loc H13.out rfl⟩)
  ·obtain ⟨x,y2,e14,⟨l8,ad8,cp8,rfl,o8⟩,l13,ad13,cp13,rfl,o13⟩:=(hd.1:∃ x y,vs 14=.agg #[a1,a2,a3,x,y, .slice none 0 0] /\ NI w gs 8 W m.cells x /\ NI w gs 13 W m.owners y)
   simp only [e14] at hK ⊢;have H8:Hid (NI w gs 8 W m.cells (.slice ad8 m.cells.length cp8)):=⟨l8,ad8,cp8,rfl,o8⟩;have H13:Hid (NI w gs 13 W m.owners (.slice ad13 m.owners.length cp13)):=⟨l13,ad13,cp13,rfl,o13⟩;have HS:Hid (w.heap.size <= W.heap.size):=HRW.size;have HO:Hid (W.ownsRow 0 3 1 (.slice ad8 m.cells.length cp8) m.cells.length (ints m.cells) /\ W.ownsRow 0 3 1 (.slice ad13 m.owners.length cp13) m.owners.length (ints m.owners)):=⟨o8.1,o13.1⟩;clear hd e14 l8 o8 l13 o13;go_wp2_with fail
   have hk:=(yD zA W).alloc (.cells #[a1,a2,a3, .slice ad8 m.cells.length cp8, .slice ad13 m.owners.length cp13, .slice none 0 0] 83);exact hK _ _ hk (by show ∃ bm x y,_;exact ⟨_,_,_,rfl,yN (yL W _),(NI.loc H8.out rfl).keeps hk,(NI.loc H13.out rfl).keeps hk,HS.out,fun e=>by have:=zN HO.out.1 e;omega,fun e=>by have:=zN HO.out.2 e;omega⟩)
 ·intro vs gs W hR hFF hle hdj
  have HRW:Keeps zA w W:=((zH w).drew).zB hR;obtain ⟨bm,x,y2,e15,RB,⟨l8,ca,cc,rfl,o8,r8⟩,⟨l13,oa,oc,rfl,o13,r13⟩,lb,nb1,nb2⟩:=(hFF 15 (by decide):∃ bm x y,vs 15=.pointer (some ⟨bm,0,none⟩) /\ zC W bm [a1,a2,a3,x,y, .slice none 0 0] /\ NI w gs 8 W m.cells x /\ NI w gs 13 W m.owners y /\ w.heap.size <= bm /\ x.ownBlock ≠ some bm /\ y.ownBlock ≠ some bm);simp only [zJ,tz,Option.bind,Act.put];rw [e15];have hdj:=hdj 8 13 (by decide) (by decide) (by decide)
  have HC:Hid (∃ (T0:zQ) (cv2 ov2:Value),CpI zW 1 103 86 w W F T0 bm a1 a2 a3 cv2 ov2 m 0 [] none 0):=by
   obtain ⟨T0,C0⟩:=CpI.start (R:=zW) (sz:=1) (ty:=103) (th:=86) (m:=m) (F:=F) HRW lb RB o8 o13 (fun g e=>⟨by have:=(r8 g e).1;omega,fun h=>nb1 (by rw [<- h];exact e)⟩) (fun g e=>⟨by have:=(r13 g e).1;omega,fun h=>nb2 (by rw [<- h];exact e),fun h=>by have:=r8 g h;have:=r13 g e;omega⟩);exact ⟨T0,_,_,C0⟩
  have kW:=HRW;clear hFF e15 RB l8 o8 r8 l13 o13 r13 lb nb1 nb2 hR hle hdj HC0 HC1 HRW;obtain ⟨T0,cv2,ov2,C0⟩:=HC.out;have HC:=yC C0;clear C0;go_upto_region 3 with fail
  go_loopw [27] (fun kv wr=>∃ (k:Nat) (T2:zQ) (H2:List HTh) (fa:Option Addr) (fc:Nat),k <= nt /\ kv=.int .i64 k /\ Hid (CpI zW 1 103 86 w wr F T2 bm a1 a2 a3 cv2 ov2 m k H2 fa fc)) (fun kv _=>nt - (intOf kv).toNat)
  case atStart=>exact ⟨0,T0,[],none,0,yK _,rfl,HC.out⟩
  case round =>
   obtain ⟨k,T2,H2,fa,fc,hk,rfl,HS⟩:=hrel;clear HC kW;have kwr:Keeps zA w wr:=HS.out.keep;by_cases hlt:k < nt
   ·have i1:(0:Int) <= k:=by omega
    have i2:(k:Int) < nt:=by omega
    have hltm:k < m.zL.length:=by rw [<- HT.out.1];exact hlt
    obtain ⟨t,ht⟩:∃ t,m.zL[k]?=some t:=⟨_,yR hltm⟩
    have HW:=xO zT zAJ HM.out kwr;obtain ⟨rv,fv,hH,hI,hf⟩:=HW.zL.get ht;obtain ⟨c0,c1,c2⟩:=zw HW.zL.row hH;rw [<- HT.out.2] at c0 c1 c2;have d:∀ W,Keeps zA wr W -> W.cell? ⟨gt,k*3,none⟩=some (.int .i64 t.st) /\ W.cell? ⟨gt,k*3+1,none⟩=some rv /\ W.cell? ⟨gt,k*3+2,none⟩=some fv:=fun W q=>⟨q.cell (fun h=>h) c0,q.cell (fun h=>h) c1,q.cell (fun h=>h) c2⟩
    obtain ⟨css,fad,fcap,rfl,q1,q2,q3,q4,q5⟩:=hf.places;obtain ⟨rad,rcap,e,_⟩:=id hI;subst e;obtain ⟨hfl,hrl⟩:=HG.out.2.1.zLQ HG.out.1 HG.out.2.2 ht;obtain ⟨nr,hnr⟩:=eX t.regs.length;obtain ⟨nf,hnf⟩:=eX t.fs.length;have HNR:Hid (nr=t.regs.length /\ nf=t.fs.length):=⟨hnr,hnf⟩;have HCR:Hid (∀ W,Keeps zA wr W -> Calls Tryz.prog 32 #[.slice rad nr rcap] W (zAr 3 1 W nr (ints t.regs))):=fun W hk=>by rw [hnr];exact zB3 W _ t.regs ((hI.keeps hk (fun _ _ h=>h)).src) (by omega)
    have HCF:Hid (∀ W,Keeps zA wr W -> Calls Tryz.prog 53 #[.slice fad nf fcap] W (zAr 103 1 W nf css.flatten)):=fun W hk=>by rw [hnf];exact zHa W _ _ _ _ (q3.keeps hk (fun _ _ h=>h)) q2 q4 hfl
    have HCS:Hid (css.length=t.fs.length /\ ∀ (j:Nat) (f:WFr) (cs:List Value),t.fs[j]?=some f -> css[j]?=some cs -> zW wr F f cs):=⟨q1,q5⟩;have HTT:=yC ht;rw [<- hnr] at d;rw [<- hnf] at d;have ym:=HS.out.row.zCa;have kr:=zH wr;clear hk hltm HW hH hI hf c0 c1 c2 q1 q2 q3 q4 q5 hfl hrl hnr hnf ht;go_upto_region 5 with fail
    obtain ⟨b7,w7,e1,e2,R7,K7,_⟩:=newRow wr [.int .i64 t.st, .slice rad nr rcap, .slice fad nf fcap] 86;try rw [e1]
    try rw [e2]
    have y7:=R7.zDP;have k7:=zH w7;have K7':=K7;have HK7:=yC K7;clear e1 e2 R7 K7 d
    refine zDR 15 0 (by kernel_rfl) [some (.pointer (some ⟨bm,0,none⟩)),some (.pointer (some ⟨bm,0,none⟩)),some (.pointer (some ⟨bm,0,none⟩)),some (.pointer (some ⟨bm,5,none⟩)),some (.slice fa k fc),some (.pointer (some ⟨b7,0,none⟩)),some (.int .i64 t.st),some (.pointer (some ⟨b7,1,none⟩)),some (.slice rad nr rcap),none,some (.pointer (some ⟨b7,2,none⟩)),some (.slice fad nf fcap),none,none,none] rfl (fun j v W=>if j=9 then NwE 3 1 (wr.heap.size,W.heap.size) W nr (ints t.regs) v else if j=12 then NwE 103 1 (wr.heap.size,W.heap.size) W nf css.flatten v else if j=13 then (∃ x y,v=.agg #[.int .i64 t.st,x,y] /\ NwE 3 1 (wr.heap.size,W.heap.size) W nr (ints t.regs) x /\ NwE 103 1 (wr.heap.size,W.heap.size) W nf css.flatten y) else ∃ g x y,v=.slice (some ⟨g,0,none⟩) 1 1 /\ zC W g [.int .i64 t.st,x,y] /\ NwE 3 1 (wr.heap.size,W.heap.size) W nr (ints t.regs) x /\ NwE 103 1 (wr.heap.size,W.heap.size) W nf css.flatten y) (fun j v W W' h hk=>by
     revert h
     split
     ·exact fun h=>h.up hk
     ·split
      ·exact fun h=>h.up hk
      ·split
       ·rintro ⟨x,y,e,h1,h2⟩;exact ⟨x,y,e,h1.up hk,h2.up hk⟩
       ·rintro ⟨g,x,y,e,h0,h1,h2⟩;exact ⟨g,x,y,e,h0.keeps hk (fun h=>h),h1.up hk,h2.up hk⟩) _ rfl (fun _ _ _ _ h=>h) _ rfl (fun _ _ _=>by exact J197 _) ?_ ?_
    ·refine ⟨?_,?_,?_,?_,?_,?_,?_,?_,?_,?_,?_,?_,?_,?_,?_,trivial⟩ <;> (intro vs gs W Q' hR hd hK;have HRW:Keeps zA w7 W:=((zH w7).drew).zB hR;have kW:=K7'.zB HRW;simp only [zCW,zBo,zDU,zJ,tz,Option.bind,Act.put] at hd hK ⊢;try simp only [hd] at hK ⊢)
     all_goals try (try clear hd;go_wp2_with (fail);first | exact hK _ _ (yD _ _) rfl)
     ·clear hd
      have HRX:=yC kW;go_wp2_with (go_at_call 32;refine (HCR.out W HRX.out).mono ?_;rintro e W1 hn;obtain ⟨v,rfl,o1,g1⟩:=hn.nwE;have HO1:=yC o1;have HG1:=yC g1;clear o1 g1 hn)
      exact J140 _
     ·clear hd
      have HRX:=yC kW;go_wp2_with (go_at_call 53;refine (HCF.out W HRX.out).mono ?_;rintro e W1 hn;obtain ⟨v,rfl,o1,g1⟩:=hn.nwE;have HO1:=yC o1;have HG1:=yC g1;clear o1 g1 hn)
      exact J140 _
     ·obtain ⟨e6,⟨ad9,cp9,e9,o9⟩,⟨ad12,cp12,e12,o12⟩,-⟩:vs 6=.int .i64 t.st /\ NwE 3 1 (wr.heap.size,W.heap.size) W nr (ints t.regs) (vs 9) /\ NwE 103 1 (wr.heap.size,W.heap.size) W nf css.flatten (vs 12) /\ True:=by simpa using hd
      simp only [e6,e9,e12] at hK ⊢;have H9:Hid (NwE 3 1 (wr.heap.size,W.heap.size) W nr (ints t.regs) (.slice ad9 nr cp9)):=⟨ad9,cp9,rfl,o9⟩;have H12:Hid (NwE 103 1 (wr.heap.size,W.heap.size) W nf css.flatten (.slice ad12 nf cp12)):=⟨ad12,cp12,rfl,o12⟩;clear hd e6 e9 e12 o9 o12;go_wp2_with fail
      exact hK _ _ (yD _ _) (by show ∃ x y,_;exact ⟨_,_,rfl,H9.out,H12.out⟩)
     ·obtain ⟨x,y2,e13,⟨ad9,cp9,rfl,o9⟩,ad12,cp12,rfl,o12⟩:=(hd.1:∃ x y,vs 13=.agg #[.int .i64 t.st,x,y] /\ NwE 3 1 (wr.heap.size,W.heap.size) W nr (ints t.regs) x /\ NwE 103 1 (wr.heap.size,W.heap.size) W nf css.flatten y)
      simp only [e13] at hK ⊢;have H9:Hid (NwE 3 1 (wr.heap.size,W.heap.size) W nr (ints t.regs) (.slice ad9 nr cp9)):=⟨ad9,cp9,rfl,o9⟩;have H12:Hid (NwE 103 1 (wr.heap.size,W.heap.size) W nf css.flatten (.slice ad12 nf cp12)):=⟨ad12,cp12,rfl,o12⟩;clear hd e13 o9 o12;go_wp2_with fail
      have hk:=(yD zA W).alloc (.cells #[.int .i64 t.st, .slice ad9 nr cp9, .slice ad12 nf cp12] 86);exact hK _ _ hk (by show ∃ g x y,_;exact ⟨_,_,_,rfl,yN (yL W _),H9.out.up hk,H12.out.up hk⟩)
    ·intro vs W hR hFF
     have HRW:Keeps zA w7 W:=((zH w7).drew).zB hR;obtain ⟨g,x,y2,e14,rg,⟨ad9,cp9,rfl,o9,r9⟩,ad12,cp12,rfl,o12,r12⟩:=(hFF 14 (by decide):∃ g x y,vs 14=.slice (some ⟨g,0,none⟩) 1 1 /\ zC W g [.int .i64 t.st,x,y] /\ NwE 3 1 (wr.heap.size,W.heap.size) W nr (ints t.regs) x /\ NwE 103 1 (wr.heap.size,W.heap.size) W nf css.flatten y);have e0:vs 0=_:=hFF 0 (by decide);have e4:vs 4=_:=hFF 4 (by decide);simp only [zJ,tz,Option.bind,Act.put];rw [e0,e4,e14];have kW2:=K7'.zB HRW;have HSW:=yC (HS.out.zD zT kW2);have HK2:=yC kW2;have HRG:=yC rg;have HO:Hid (W.ownsRow 0 3 1 (.slice ad9 nr cp9) nr (ints t.regs) /\ W.ownsRow 0 103 1 (.slice ad12 nf cp12) nf css.flatten /\ (∀ g,(Value.slice ad9 nr cp9).ownBlock=some g -> wr.heap.size <= g) /\ (∀ g,(Value.slice ad12 nf cp12).ownBlock=some g -> wr.heap.size <= g)):=⟨o9,o12,fun g e=>(r9 g e).1,fun g e=>(r12 g e).1⟩;obtain ⟨j0,hj0,hy0,hy1,hy2⟩:=info_parts zLG;clear hFF e0 e4 e14 rg o9 o12 r9 r12 hR HRW;go_upto_region 6 with (at_builtin;refine zI _ (by rfl) _ _ 81 (by rfl) 0 86 j0 _ 3 56 Tryz.underlying81 hj0 hy0 hy1 hy2 rfl (by decide) (.slice fa k fc) k (zx H2) (by rfl) (HSW.out.own) (.slice (some ⟨g,0,none⟩) 1 1) 1 [.int .i64 t.st, .slice ad9 nr cp9, .slice ad12 nf cp12] (by rfl) (xR HRG.out) rfl (by simp [Value.oneCell']) (by unfold maxLen;omega) (by omega) (yK _) ?_;intro ad8 cap8 w8 hout;have HO8:=yC hout;have zr:=(HSW.out.mid (zH _) hout).1;have zc:=zr.cell (k:=5) rfl;have zf:=zr.free (k:=5) (by simp);clear hout zr)
     have HST:Hid (∃ T',CpI zW 1 103 86 w (w8.setCell ⟨bm,5,none⟩ (.slice ad8 (k+1) cap8)) F T' bm a1 a2 a3 cv2 ov2 m (k+1) (H2++[⟨t.st, .slice ad9 nr cp9, .slice ad12 nf cp12⟩]) ad8 cap8):=by
      obtain ⟨hnr,hnf⟩:=HNR.out;subst hnr hnf;exact HS.out.step zT HM.out.zL.sep.low HTT.out HK2.out HO.out.1 ⟨_,_,rfl⟩ HO.out.2.2.1 HO.out.2.1 ⟨_,_,rfl⟩ HCS.out.1 HO.out.2.2.2 (fun q h1=>zDJ HO.out.1 HO.out.2.1 (by decide) h1) (fun j f cs h1 h2=>zT.keeps (HCS.out.2 j f cs h1 h2) HK2.out (fun _ _ h=>h)) HO8.out
     exact J116 _
   ·have hkn:k=nt:=by omega
    subst hkn;clear hlt hk;go_wp2_with fail
    rw [HQ.out];obtain ⟨e1,e2,e3⟩:=HA.out;have hC:=HS.out;rw [e1,e2,e3] at hC;obtain ⟨p',M',x'⟩:=CpI.done (B:=zBL) (u:=u) (p:=p) HM.out.zL.sep.low hC HT.out.1 HN.out.2 (HM.out.bds.keeps kwr (fun _ _ h=>h));exact ⟨bm,T2,p',H2,rfl,M',x',kwr⟩
end Go.Proofs.YtfokdllgnblamaaGreatDoor
