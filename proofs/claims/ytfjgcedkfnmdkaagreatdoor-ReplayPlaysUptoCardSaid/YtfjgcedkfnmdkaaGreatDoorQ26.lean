/- Layer Q: texts joined. -/
import Derived.Test.YtfjgcedkfnmdkaaGreatDoorQ25
set_option linter.all false
namespace Go.Proofs.YtfjgcedkfnmdkaaGreatDoor
open Go.RowKit
theorem tz {α:Type}:(∀ (a:α) l,(a :: l)[0]?=some a) /\ (∀ (a:α) l i,(a :: l)[i+1]?=l[i]?) /\ (∀ (a b:α) l,(a :: l).set 0 b=b :: l) /\ (∀ (a b:α) l i,(a :: l).set (i+1) b=a :: l.set i b) /\ (∀ (l:List α) i a,l.toArray.setIfInBounds i a=(l.set i a).toArray) ∧
 (∀ l:List α,l.toArray.toList=l) /\ (∀ (a:α) l i,(a :: l).drop (i+1)=l.drop i) /\ (∀ l:List α,l.drop 0=l):=by simp
abbrev Gh:=Nat -> Nat × Nat
def zCg (L:List (Option Value)) (Sp:Nat -> Value -> Gh -> World -> Prop) (gs:Gh) (W:World) (j:Nat) (v:Value):Prop :=
 match L[j]? with
 | some (some u)=>v=u
 | _=>Sp j v gs W
def zD2 (L:List (Option Value)) (Sp:Nat -> Value -> Gh -> World -> Prop) (vs:Nat -> Value) (gs:Gh) (W:World):List Edge -> Prop
 | []=>True
 | e :: es=>(match e.ground with
   | .textOnly _=>True
   | .gcOnly _=>True
   | _=>zCg L Sp gs W e.on (vs e.on)) /\ zD2 L Sp vs gs W es
def zF6 (Sp:Nat -> Value -> Gh -> World -> Prop) (gs:Gh) (i:Nat) (W:World) (K:Value -> World -> Prop):Option Value -> Prop
 | some u=>∀ v W',Keeps zA W W' -> v=u -> K v W'
 | none=>∀ v W',Keeps zA W W' -> Sp i v (zFl gs i (W.heap.size,W'.heap.size)) W' -> K v W'
section
variable {P:Program}
def zID (P:Program) (l:List Oper) (a:Act) (w:World) (n:Nat) (L:List (Option Value)) (Sp:Nat -> Value -> Gh -> World -> Prop):Nat -> List Oper -> List (Option Value) -> Prop
 | i,o :: os,x :: xs=>(∀ (vs:Nat -> Value) (gs:Gh) (W:World) (Q':Exit -> Act -> World -> Prop),Keeps zA w.drew W -> zD2 L Sp vs gs W o.after.toList →
    zF6 Sp gs i W (fun v W'=>Q' .normal ((zJ l vs a n).put o.dst v) W') x -> wpList P l.toArray Q' [o] (zJ l vs a n) W) /\ zID P l a w n L Sp (i+1) os xs
 | _,_,_=>True
theorem zID.get {l:List Oper} {a:Act} {w:World} {n:Nat} {L:List (Option Value)} {Sp:Nat -> Value -> Gh -> World -> Prop}:∀ (os:List Oper) (xs:List (Option Value)) (k:Nat),zID P l a w n L Sp k os xs -> ∀ i o x,os[i]?=some o -> xs[i]?=some x →
 ∀ (vs:Nat -> Value) (gs:Gh) (W:World) (Q':Exit -> Act -> World -> Prop),Keeps zA w.drew W -> zD2 L Sp vs gs W o.after.toList -> zF6 Sp gs (k+i) W (fun v W'=>Q' .normal ((zJ l vs a n).put o.dst v) W') x -> wpList P l.toArray Q' [o] (zJ l vs a n) W
 | [],_,_,_,i,o,x,h,_=>by simp at h
 | _ :: _,[],_,_,i,o,x,_,h=>by simp at h
 | o' :: os,x' :: xs,k,hr,0,o,x,h1,h2=>by
   obtain rfl:o'=o:=by simpa using h1
   obtain rfl:x'=x:=by simpa using h2
   exact hr.1
 | o' :: os,x' :: xs,k,hr,i+1,o,x,h1,h2=>by
   have:=zID.get os xs (k+1) hr.2 i o x (by simpa using h1) (by simpa using h2)
   rw [show k+(i+1)=k+1+i by omega];exact this
theorem zD2.of {L:List (Option Value)} {Sp:Nat -> Value -> Gh -> World -> Prop} {vs:Nat -> Value} {gs:Gh} {W:World}:∀ es:List Edge,(∀ e,e ∈ es -> Region.binds .any e=true -> zCg L Sp gs W e.on (vs e.on)) -> zD2 L Sp vs gs W es
 | [],_=>trivial
 | e :: es,h=>by
   refine ⟨?_,zD2.of es fun x hx=>h x (.tail _ hx)⟩
   have h0:=h e (.head _);unfold Region.binds at h0;split
   ·trivial
   ·trivial
   ·rename_i h1 h2
    refine h0 ?_
    split
    ·rename_i g hg;exact absurd hg (h1 _)
    ·rename_i g hg;exact absurd hg (h2 _)
    ·rfl
theorem zJC {id:Nat} {Q:Exit -> Act -> World -> Prop} {a:Act} {w:World} {l:List Oper} (n p:Nat) (D:Nat -> List Nat) (hm:P.follows .mixedOrders=true) (hB:zIM .any l n p=true) (hDB:zEg .any l n D=true) (L:List (Option Value)) (hL:L.length=n) (Sp:Nat -> Value -> Gh -> World -> Prop)
 (hst:∀ j v gs W W',Sp j v gs W -> Keeps zA W W' -> Sp j v gs W') (hloc:∀ j v gs gs' W,(∀ a,a ∈ D j -> gs a=gs' a) -> Sp j v gs W -> Sp j v gs' W)
 (hp:p < n -> ∃ op,l[p]?=some op /\ (∀ c a w v,Q (.panic c) (a.put op.dst v) w -> Q (.panic c) a w) /\ ∀ (vs:Nat -> Value) gs W,Keeps zA w.drew W -> (∀ j,j < n -> j ≠ p -> zCg L Sp gs W j (vs j)) -> ∃ v,Yields P l.toArray op v (zJ l vs a n) /\ zCg L Sp (zFl gs p (W.heap.size,W.heap.size)) W p v)
 (hrow:zID P l a w n L Sp 0 l L)
 (htail:∀ (vs:Nat -> Value) (gs:Gh) (W:World),Keeps zA w.drew W -> (∀ j,j < n -> zCg L Sp gs W j (vs j)) -> (∀ j,j < n -> (gs j).2 <= W.heap.size) -> (∀ i j,i < n -> j < n -> i ≠ j -> (gs i).2 <= (gs j).1 \/ (gs j).2 <= (gs i).1) -> wpList P l.toArray Q (l.drop n) (zJ l vs a n) W):(Code.region id l.toArray true).wp P Q a w:=by
 refine zMc n p hm hB D hDB (fun j v gs W=>zCg L Sp gs W j v) (fun j v gs W W' h hk=>?_) (fun j v gs gs' W hg h=>?_) hp (fun i o hi ho vs gs W Q' hR hd hK=>?_) htail
 ·unfold zCg at *
  split at h
  ·exact h
  ·exact hst _ _ _ _ _ h hk
 ·unfold zCg at *
  split at h
  ·exact h
  ·exact hloc _ _ _ _ _ hg h
 ·have hx:L[i]?=some L[i]:=yQ (by omega)
  have h:=zID.get l L 0 hrow i o _ ho hx vs gs W Q' hR (zD2.of _ hd);rw [yY] at h;refine h ?_
  revert hx
  generalize L[i]=x;intro hx
  cases x with
  | some u=>exact fun v W' hk e=>hK v W' hk (by unfold zCg;rw [hx];exact e)
  | none=>exact fun v W' hk hs=>hK v W' hk (by unfold zCg;rw [hx];exact hs)
end
theorem zE3 {id:Nat} {Q:Exit -> Act -> World -> Prop} {a:Act} {w:World} {l:List Oper} (n:Nat) (hB:zIM .any l n (n+1)=true) (L:List (Option Value)) (hL:L.length=n) (Sp:Nat -> Value -> World -> Prop)
 (hst:∀ j v W W',Sp j v W -> Keeps zA W W' -> Sp j v W') (hrow:zID Tryz.prog l a w n L (fun j v _ W=>Sp j v W) 0 l L)
 (htail:∀ (vs:Nat -> Value) (W:World),Keeps zA w.drew W -> (∀ j,j < n -> zCg L (fun j v _ W=>Sp j v W) (fun _=>(0,0)) W j (vs j)) -> wpList Tryz.prog l.toArray Q (l.drop n) (zJ l vs a n) W):(Code.region id l.toArray true).wp Tryz.prog Q a w:=by
 refine zJC n (n+1) (fun _=>[]) (by kernel_rfl) hB ?_ L hL _ (fun j v _ W W'=>hst j v W W') (fun _ _ _ _ _ _ h=>h) (fun h=>absurd h (by omega)) hrow (fun vs gs W hR hF _ _=>htail vs W hR hF)
 unfold zEg;simp only [xH];intro i _
 cases l[i]? <;> rfl
theorem zGm {id:Nat} {Q:Exit -> Act -> World -> Prop} {a:Act} {w:World} {l:List Oper} (n p:Nat) (hB:zIM .any l n p=true) (L:List (Option Value)) (hL:L.length=n) (Sp:Nat -> Value -> World -> Prop)
 (hst:∀ j v W W',Sp j v W -> Keeps zA W W' -> Sp j v W') (op:Oper) (hop:l[p]?=some op) (hQ:∀ c a w v,Q (.panic c) (a.put op.dst v) w -> Q (.panic c) a w) (u:Value) (hu:L[p]?=some (some u))
 (hy:∀ (vs:Nat -> Value) W,(∀ j,j < n -> j ≠ p -> zCg L (fun j v _ W=>Sp j v W) (fun _=>(0,0)) W j (vs j)) -> Yields Tryz.prog l.toArray op u (zJ l vs a n)) (hrow:zID Tryz.prog l a w n L (fun j v _ W=>Sp j v W) 0 l L)
 (htail:∀ (vs:Nat -> Value) (W:World),Keeps zA w.drew W -> (∀ j,j < n -> zCg L (fun j v _ W=>Sp j v W) (fun _=>(0,0)) W j (vs j)) -> wpList Tryz.prog l.toArray Q (l.drop n) (zJ l vs a n) W):(Code.region id l.toArray true).wp Tryz.prog Q a w:=by
 refine zJC n p (fun _=>[]) (by kernel_rfl) hB ?_ L hL _ (fun j v _ W W'=>hst j v W W') (fun _ _ _ _ _ _ h=>h) (fun _=>⟨op,hop,hQ,fun vs gs W _ h=>⟨u,hy vs W h,by unfold zCg;rw [hu]⟩⟩) hrow (fun vs gs W hR hF _ _=>htail vs W hR hF)
 unfold zEg;simp only [xH];intro i _
 cases l[i]? <;> rfl
def ints (xs:List Int):List Value:=xs.map (Value.int .i64)
theorem zAe (xs:List Int):(ints xs).length=xs.length:=by simp [ints]
theorem zw (xs:List Int) (k:Nat) (hk:k < xs.length):(ints xs)[k]?=some (.int .i64 (xs.getD k 0)):=by simp [ints,List.getD,hk]
theorem ints_set (xs:List Int) (k:Nat) (u:Int):(ints xs).set k (.int .i64 u)=ints (xs.set k u):=by simp [ints,List.map_set]
abbrev Ret (w:World) (f:FuncId) (a:Array Value) (v:Value):Prop:=Hid (∀ W,Keeps zA w W -> Calls Tryz.prog f a W fun e w'=>e=.returned v /\ Keeps zA W w')
theorem Ret.call {w W:World} {f:FuncId} {a:Array Value} {v:Value} {Q:Ending -> World -> Prop} (H:Ret w f a v) (K:Keeps zA w W) (h:∀ w',Keeps zA w w' -> Keeps zA W w' -> Q (.returned v) w'):Calls Tryz.prog f a W Q :=
 (H.out W K).mono fun e w' ⟨he,hk⟩=>by rw [he];exact h w' (K.zB hk) hk
theorem newRow (w:World) (cs:List Value) (t:TypeId):∃ b w1,w.heap.size=b /\ w.alloc (.cells cs.toArray t)=w1 /\ zC w1 b cs /\ Keeps zA w w1 /\ Hid (w1.heap.size=b+1) :=
 ⟨_,_,rfl,rfl,yP (yL w _),(yC _ _).alloc _,by show _=_;simp⟩
namespace zC
variable {w:World} {g:Nat} {a b c d e f h i j k:Value}
theorem all2 (r:zC w g [a,b]):∀ W,Keeps zA w W -> W.cell? ⟨g,0,none⟩=some a /\ W.cell? ⟨g,1,none⟩=some b:=fun W q=>⟨(r.keeps q (fun h=>h)).cell (k:=0) rfl,(r.keeps q (fun h=>h)).cell (k:=1) rfl⟩
theorem zCw (r:zC w g [a,b,c]):∀ W,Keeps zA w W -> W.cell? ⟨g,0,none⟩=some a /\ W.cell? ⟨g,1,none⟩=some b /\ W.cell? ⟨g,2,none⟩=some c:=fun W q=>(r.keeps q (fun h=>h)).three
theorem zBd (r:zC w g [a,b,c,d]):∀ W,Keeps zA w W -> W.cell? ⟨g,0,none⟩=some a /\ W.cell? ⟨g,1,none⟩=some b /\ W.cell? ⟨g,2,none⟩=some c /\ W.cell? ⟨g,3,none⟩=some d:=fun W q=>(r.keeps q (fun h=>h)).four
theorem zAO (r:zC w g [a,b,c,d,e,f,h,i,j,k]):∀ W,Keeps zA w W -> W.cell? ⟨g,0,none⟩=some a /\ W.cell? ⟨g,1,none⟩=some b /\ W.cell? ⟨g,2,none⟩=some c /\ W.cell? ⟨g,3,none⟩=some d /\ W.cell? ⟨g,4,none⟩=some e /\ W.cell? ⟨g,5,none⟩=some f /\ W.cell? ⟨g,6,none⟩=some h /\ W.cell? ⟨g,7,none⟩=some i /\ W.cell? ⟨g,8,none⟩=some j /\ W.cell? ⟨g,9,none⟩=some k:=fun W q=>(r.keeps q (fun h=>h)).ten
end zC
theorem zT {w:World} {p:Addr} {v:Value} (h:w.cell? p=some v):∀ W,Keeps zA w W -> W.cell? p=some v:=fun W q=>q.cell (fun h=>h) h
theorem zH (w:World):Keeps zA w w:=yC _ _
inductive WTg where
 | mach | cells | owners | zL
 | regs (i:Nat) | fs (i:Nat)
deriving DecidableEq
abbrev zS:=Nat -> Option (Nat × WTg)
def zAh (T:zS) (id:Nat) (k:Nat):Prop:=∃ t,T k=some (id,t)
def zCi (T:zS) (id:Nat) (k:Nat):Prop:=T k=some (id, .zL) \/ ∃ i,T k=some (id, .regs i) \/ T k=some (id, .fs i)
theorem zCi.own {T:zS} {id k:Nat} (h:zCi T id k):zAh T id k:=by
 rcases h with h | ⟨i,h | h⟩ <;> exact ⟨_,h⟩
structure zE7 (w:World) (T:zS) (F:Nat -> Prop):Prop where
 ok:∀ k x,T k=some x -> k < w.heap.size
 sep:∀ k,F k -> T k=none
 low:∀ k,F k -> k < w.heap.size
theorem zE7.keeps {S:Nat -> Prop} {w w':World} {T:zS} {F:Nat -> Prop} (h:zE7 w T F) (hk:Keeps S w w'):zE7 w' T F :=
 ⟨fun k x e=>yK (h.ok k x e) hk.size,h.sep,fun k hF=>yK (h.low k hF) hk.size⟩
def zAE (T T':zS) (id:Nat) (w:World):Prop:=(∀ k y,T k=some y -> T' k=some y) /\ ∀ k y,T' k=some y -> T k=some y \/ (w.heap.size <= k /\ y.1=id)
theorem zAE.refl (T:zS) (id:Nat) (w:World):zAE T T id w:=⟨fun _ _ h=>h,fun _ _ h=>.inl h⟩
theorem zAE.trans {T1 T2 T3:zS} {id:Nat} {w w':World} (h:zAE T1 T2 id w) (h':zAE T2 T3 id w') (hs:w.heap.size <= w'.heap.size):zAE T1 T3 id w :=
 ⟨fun k y e=>h'.1 k y (h.1 k y e),fun k y e=>by
  rcases h'.2 k y e with h1 | h1
  ·exact h.2 k y h1
  ·exact .inr ⟨yX hs h1.1,h1.2⟩⟩
theorem zAE.none {T T':zS} {id:Nat} {w:World} (h:zAE T T' id w) {k:Nat} (h1:T k=none) (h2:k < w.heap.size):T' k=none:=by
 cases e:T' k with
 | none=>rfl
 | some y =>
   rcases h.2 k y e with h3 | h3
   ·rw [h1] at h3;cases h3
   ·omega
theorem zAE.own {T T':zS} {id:Nat} {w:World} (h:zAE T T' id w) {k i:Nat} (hk:zAh T' i k) (h2:k < w.heap.size):zAh T i k:=by
 obtain ⟨t,e⟩:=hk;rcases h.2 k _ e with h3 | h3
 ·exact ⟨t,h3⟩
 ·omega
def zCj (T:zS) (id:Nat) (t:WTg) (g:Nat):zS:=fun q=>if q=g then some (id,t) else T q
theorem zCH {T:zS} {id:Nat} {t:WTg} {g:Nat} {w:World} (h:T g=some (id,t) \/ (T g=none /\ w.heap.size <= g)):zAE T (zCj T id t g) id w:=by
 refine ⟨fun k y e=>?_,fun k y e=>?_⟩
 ·unfold zCj
  by_cases hk:k=g
  ·subst hk
   rw [if_pos rfl];rcases h with h | h
   ·rw [<- e,h]
   ·rw [h.1] at e;cases e
  ·rw [if_neg hk];exact e
 ·unfold zCj at e
  by_cases hk:k=g
  ·subst hk
   rw [if_pos rfl] at e;cases e;rcases h with h | h
   ·exact .inl h
   ·exact .inr ⟨h.2,rfl⟩
  ·rw [if_neg hk] at e;exact .inl e
theorem zCa (T:zS) (id:Nat) (t:WTg) (g:Nat):zCj T id t g g=some (id,t):=if_pos rfl
theorem zE7.tag {w:World} {T:zS} {F:Nat -> Prop} (h:zE7 w T F) {id:Nat} {t:WTg} {g:Nat} (hg:g < w.heap.size) (hF:¬ F g):zE7 w (zCj T id t g) F:=by
 refine ⟨fun k x e=>?_,fun k hk=>?_,h.low⟩
 ·unfold zCj at e
  by_cases hk:k=g
  ·subst hk;exact hg
  ·rw [if_neg hk] at e;exact h.ok k x e
 ·unfold zCj
  rw [if_neg (fun e=>hF (by rw [<- e];exact hk))];exact h.sep k hk
theorem zE7.free {w:World} {T:zS} {F:Nat -> Prop} (h:zE7 w T F) {g:Nat} (hg:w.heap.size <= g):T g=none /\ ¬ F g:=by
 refine ⟨?_,fun hF=>by have:=h.low g hF;omega⟩
 cases e:T g with
 | none=>rfl
 | some y=>have:=h.ok g y e;omega
def zBV (w:World) (T:zS) (id:Nat) (t:WTg) (v:Value) (xs:List Int):Prop :=
 ∃ ad cap,v=.slice ad xs.length cap /\ (xs ≠ [] -> ∃ g,ad=some ⟨g,0,none⟩ /\ T g=some (id,t) /\ zC w g (ints xs))
section
variable {S:Nat -> Prop} {w w':World} {T T':zS} {id:Nat} {t:WTg} {v:Value} {xs:List Int}
theorem zBV.keeps (h:zBV w T id t v xs) (hk:Keeps S w w') (hS:∀ k,T k=some (id,t) -> ¬ S k):zBV w' T id t v xs:=by
 obtain ⟨ad,cap,e,h1⟩:=h;refine ⟨ad,cap,e,fun hn=>?_⟩
 obtain ⟨g,e1,e2,e3⟩:=h1 hn;exact ⟨g,e1,e2,e3.keeps hk (hS g e2)⟩
theorem zBV.ext (h:zBV w T id t v xs) (hx:∀ k y,T k=some y -> T' k=some y):zBV w T' id t v xs:=by
 obtain ⟨ad,cap,e,h1⟩:=h;refine ⟨ad,cap,e,fun hn=>?_⟩
 obtain ⟨g,e1,e2,e3⟩:=h1 hn;exact ⟨g,e1,hx _ _ e2,e3⟩
theorem zBV.at (h:zBV w T id t v xs) {k:Nat} (hk:k < xs.length):∃ g cap,v=.slice (some ⟨g,0,none⟩) xs.length cap /\ T g=some (id,t) /\ zC w g (ints xs):=by
 obtain ⟨ad,cap,e,h1⟩:=h;obtain ⟨g,e1,e2,e3⟩:=h1 (fun e=>by rw [e] at hk;simp at hk);subst e1;exact ⟨g,cap,e,e2,e3⟩
theorem zBV.set {g cap:Nat} (hT:T g=some (id,t)) (h:zC w g (ints xs)) (k:Nat) (hk:k < xs.length) (u:Int) :
 zBV (w.setCell ⟨g,k,none⟩ (.int .i64 u)) T id t (.slice (some ⟨g,0,none⟩) xs.length cap) (xs.set k u):=by
 have:=h.set k (by rw [zAe];exact hk) (.int .i64 u)
 rw [ints_set] at this;exact ⟨_,cap,by rw [uT],fun _=>⟨g,rfl,hT,this⟩⟩
theorem zBV.src (h:zBV w T id t v xs):zu w v xs.length (ints xs):=by
 obtain ⟨ad,cap,e,h1⟩:=h;refine ⟨ad,cap,e,fun hn=>?_⟩
 obtain ⟨g,e1,_,e3⟩:=h1 (fun e=>by rw [e] at hn;exact hn rfl);exact ⟨g,0,e1,e3.rng⟩
theorem zBV.of {e:TypeId} {base:Nat} (h:w.ownsRow base e 1 v xs.length (ints xs)) (hT:∀ kb,v.ownBlock=some kb -> T kb=some (id,t)) (hv:∃ ad cap,v=.slice ad xs.length cap):zBV w T id t v xs:=by
 obtain ⟨ad,cap,rfl⟩:=hv;refine ⟨ad,cap,rfl,fun hn=>?_⟩
 rcases h.2 with ⟨_,h1⟩ | ⟨g,c,cur,h1,_⟩
 ·exact absurd (vN h1) hn
 ·simp only [uF] at h1
  obtain ⟨rfl,_,rfl⟩:=h1;exact ⟨g,rfl,hT g rfl,uJ h⟩
end
section
variable (R:zA9 WFr) (sz:Nat) (ty:TypeId)
def zBK (w:World) (T:zS) (F:Nat -> Prop) (id i:Nat) (v:Value) (fs:List WFr):Prop :=
 ∃ css:List (List Value),css.length=fs.length /\ w.ownsRow 0 ty sz v fs.length css.flatten /\ (∀ kb,v.ownBlock=some kb -> T kb=some (id, .fs i)) /\ (∃ ad cap,v=.slice ad fs.length cap) ∧
   ∀ (j:Nat) (f:WFr) (cs:List Value),fs[j]?=some f -> css[j]?=some cs -> R w F f cs
structure HTh where
 st:Int
 rv:Value
 fv:Value
def HTh.cells (h:HTh):List Value:=[.int .i64 h.st,h.rv,h.fv]
theorem zDo (h:HTh):h.cells.length=3:=rfl
def zAK (H:List HTh):List Value:=H.flatMap HTh.cells
structure zAT (w:World) (T:zS) (F:Nat -> Prop) (id g:Nat) (H:List HTh) (zL:List WTh):Prop where
 tag:T g=some (id, .zL)
 sep:zE7 w T F
 row:zC w g (zAK H)
 len:H.length=zL.length
 each:∀ i h t,H[i]?=some h -> zL[i]?=some t -> h.st=t.st /\ zBV w T id (.regs i) h.rv t.regs /\ zBK R sz ty w T F id i h.fv t.fs
end
section
variable {R:zA9 WFr} {sz:Nat} {ty:TypeId} (L:zAc R sz)
include L
variable {S:Nat -> Prop} {w w':World} {T T':zS} {F:Nat -> Prop} {id i g:Nat} {v:Value} {fs:List WFr} {H:List HTh} {zL:List WTh}
theorem zBK.keeps (h:zBK R sz ty w T F id i v fs) (hk:Keeps S w w') (hS:∀ k,T k=some (id, .fs i) -> ¬ S k) (hF:∀ k,F k -> ¬ S k):zBK R sz ty w' T F id i v fs:=by
 obtain ⟨css,h1,h2,h3,h4,h5⟩:=h;exact ⟨css,h1,zG h2 hk (fun k e=>hS k (h3 k e)),h3,h4,fun j f cs e1 e2=>L.keeps (h5 j f cs e1 e2) hk hF⟩
theorem zAT.keeps (h:zAT R sz ty w T F id g H zL) (hk:Keeps S w w') (hS:∀ k,zCi T id k \/ F k -> ¬ S k):zAT R sz ty w' T F id g H zL :=
 ⟨h.tag,h.sep.keeps hk,h.row.keeps hk (hS g (.inl (.inl h.tag))),h.len,fun i a t e1 e2=>by
  obtain ⟨h1,h2,h3⟩:=h.each i a t e1 e2;exact ⟨h1,h2.keeps hk (fun k e=>hS k (.inl (.inr ⟨i, .inl e⟩))),zBK.keeps L h3 hk (fun k e=>hS k (.inl (.inr ⟨i, .inr e⟩))) (fun k e=>hS k (.inr e))⟩⟩
end
section
variable {R:zA9 WFr} {sz:Nat} {ty:TypeId} {w w':World} {T T':zS} {F:Nat -> Prop} {id i g:Nat} {v:Value} {fs:List WFr} {H:List HTh} {zL:List WTh}
theorem zBK.ext (h:zBK R sz ty w T F id i v fs) (hx:∀ k y,T k=some y -> T' k=some y):zBK R sz ty w T' F id i v fs:=by
 obtain ⟨css,h1,h2,h3,h4,h5⟩:=h;exact ⟨css,h1,h2,fun k e=>hx _ _ (h3 k e),h4,h5⟩
theorem zAT.get (h:zAT R sz ty w T F id g H zL) {t:WTh} (ht:zL[i]?=some t):∃ rv fv,H[i]?=some ⟨t.st,rv,fv⟩ /\ zBV w T id (.regs i) rv t.regs /\ zBK R sz ty w T F id i fv t.fs:=by
 have hi:i < zL.length:=(yO.1 ht).1;have hi':i < H.length:=by rw [h.len];exact hi
 have hH:H[i]?=some H[i]:=yQ hi';obtain ⟨e1,e2,e3⟩:=h.each i _ t hH ht;exact ⟨H[i].rv,H[i].fv,by rw [hH,<- e1],e2,e3⟩
theorem zHA {a:HTh} (hr:zC w g (zAK H)) (ha:H[i]?=some a) (j:Nat) {u:Value} (hu:a.cells[j]?=some u):w.cell? ⟨g,i*3+j,none⟩=some u:=by
 refine hr.cell ?_
 have hj:j < 3:=(yO.1 hu).1;show (H.flatMap HTh.cells)[i*3+j]?=_
 rw [zBu _ 3 zDo H i j hj,ha];exact hu
theorem zCr (hr:zC w g (zAK H)) (hi:i < H.length) (j:Nat) (hj:j < 3):w.frozen? ⟨g,i*3+j,none⟩=false :=
 hr.free (by unfold zAK;rw [zA3 _ 3 zDo];omega)
theorem zy (hr:zC w g (zAK H)) {a:HTh} (ha:H[i]?=some a):w.cell? ⟨g,i*3,none⟩=some (.int .i64 a.st) /\ w.cell? ⟨g,i*3+1,none⟩=some a.rv /\ w.cell? ⟨g,i*3+2,none⟩=some a.fv :=
 ⟨zHA hr ha 0 rfl,zHA hr ha 1 rfl,zHA hr ha 2 rfl⟩
theorem zDT (hr:zC w g (zAK H)) {a:HTh} (ha:H[i]?=some a) (j:Nat) (hj:j < 3) (u:Value) (a':HTh) (hc:a'.cells=a.cells.set j u):zC (w.setCell ⟨g,i*3+j,none⟩ u) g (zAK (H.set i a')):=by
 have:=hr.set (i*3+j) (by unfold zAK;rw [zA3 _ 3 zDo];have:=(yO.1 ha).1;omega) u
 have e:(zAK H).set (i*3+j) u=zAK (H.set i a'):=zGP _ 3 zDo H i j hj u a a' ha hc;rwa [e] at this
theorem zAT.upd (L:zAc R sz) (h:zAT R sz ty w T F id g H zL) (hx:zAE T T' id w) (hsep:zE7 w' T' F) (hk:Keeps (fun k=>k=g \/ T k=some (id, .regs i) \/ T k=some (id, .fs i)) w w') {a':HTh} {t':WTh}
 (hr:zC w' g (zAK (H.set i a'))) (h1:a'.st=t'.st) (h2:zBV w' T' id (.regs i) a'.rv t'.regs) (h3:zBK R sz ty w' T' F id i a'.fv t'.fs):zAT R sz ty w' T' F id g (H.set i a') (zL.set i t'):=by
 refine ⟨hx.1 _ _ h.tag,hsep,hr,by simp [h.len],fun k b t hb ht=>?_⟩
 by_cases e:i=k
 ·subst e
  rw [List.getElem?_set_self'] at hb ht;obtain ⟨b0,hb0,rfl⟩:=Option.map_eq_some_iff.1 hb;obtain ⟨t0,ht0,rfl⟩:=Option.map_eq_some_iff.1 ht;exact ⟨h1,h2,h3⟩
 ·rw [uK e] at hb ht
  obtain ⟨e1,e2,e3⟩:=h.each k b t hb ht
  have hF:∀ q,F q -> ¬ (q=g \/ T q=some (id, .regs i) \/ T q=some (id, .fs i)):=fun q hq hn=>by
   have:=h.sep.sep q hq
   rcases hn with rfl | hn | hn
   ·rw [h.tag] at this;cases this
   ·rw [hn] at this;cases this
   ·rw [hn] at this;cases this
  refine ⟨e1,(e2.keeps hk (fun q hq hn=>?_)).ext hx.1,(zBK.keeps L e3 hk (fun q hq hn=>?_) hF).ext hx.1⟩
  ·rcases hn with rfl | hn | hn
   ·rw [h.tag] at hq;cases hq
   ·rw [hn] at hq;cases hq;exact e rfl
   ·rw [hn] at hq;cases hq
  ·rcases hn with rfl | hn | hn
   ·rw [h.tag] at hq;cases hq
   ·rw [hn] at hq;cases hq
   ·rw [hn] at hq;cases hq;exact e rfl
theorem zE9 (h:zAT R sz ty w T F id g H zL) (hk:Keeps (fun k=>k=g \/ T k=some (id, .regs i) \/ T k=some (id, .fs i)) w w'):Keeps (zCi T id) w w' :=
 hk.mono (fun k _ hn=>by
  rcases hn with rfl | hn | hn
  ·exact .inl h.tag
  ·exact .inr ⟨i, .inl hn⟩
  ·exact .inr ⟨i, .inr hn⟩)
end
end Go.Proofs.YtfjgcedkfnmdkaaGreatDoor
