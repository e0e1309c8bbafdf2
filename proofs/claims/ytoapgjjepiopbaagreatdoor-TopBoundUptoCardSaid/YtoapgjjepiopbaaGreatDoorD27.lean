/- Layer D: texts joined. -/
import Derived.Test.YtoapgjjepiopbaaGreatDoorD26
set_option linter.all false
namespace Go.Proofs.YtoapgjjepiopbaaGreatDoor
open Go.RowKit
theorem tz{α:Type}:(∀(a:α) l,(a :: l)[0]?=some a)/\(∀(a:α) l i,(a :: l)[i+1]?=l[i]?)/\(∀(a b:α) l,(a :: l).set 0 b=b :: l)/\(∀(a b:α) l i,(a :: l).set (i+1) b=a :: l.set i b)/\(∀(l:List α) i a,l.toArray.setIfInBounds i a=(l.set i a).toArray) ∧
 (∀l:List α,l.toArray.toList=l)/\(∀(a:α) l i,(a :: l).drop (i+1)=l.drop i)/\(∀l:List α,l.drop 0=l):=by simp
abbrev Gh:=Nat->Nat × Nat
def zAt(L:List (Option Value))(Sp:Nat->Value->Gh->World->Prop)(gs:Gh)(W:World)(j:Nat)(v:Value):Prop:=
 match L[j]? with
 | some (some u)=>v=u
 | _=>Sp j v gs W
def zBK(L:List (Option Value))(Sp:Nat->Value->Gh->World->Prop)(vs:Nat->Value)(gs:Gh)(W:World):List Edge->Prop
 | []=>True
 | e :: es=>(match e.ground with
   | .textOnly _=>True
   | .gcOnly _=>True
   | _=>zAt L Sp gs W e.on (vs e.on))/\zBK L Sp vs gs W es
def zBo(Sp:Nat->Value->Gh->World->Prop)(gs:Gh)(i:Nat)(W:World)(K:Value->World->Prop):Option Value->Prop
 | some u=>∀v W',Keeps zA W W'->v=u->K v W'
 | none=>∀v W',Keeps zA W W'->Sp i v (zGh gs i (W.heap.size,W'.heap.size)) W'->K v W'
section
variable {P:Program}
def zJj(P:Program)(l:List Oper)(a:Act)(w:World)(n:Nat)(L:List (Option Value))(Sp:Nat->Value->Gh->World->Prop):Nat->List Oper->List (Option Value)->Prop
 | i,o :: os,x :: xs=>(∀(vs:Nat->Value)(gs:Gh)(W:World)(Q':Exit->Act->World->Prop),Keeps zA w.drew W->zBK L Sp vs gs W o.after.toList →
    zBo Sp gs i W (λv W'=>Q' .normal ((zJ l vs a n).put o.dst v) W') x->wpList P l.toArray Q' [o] (zJ l vs a n) W)/\zJj P l a w n L Sp (i+1) os xs
 | _,_,_=>True
theorem zJj.get{l:List Oper}{a:Act}{w:World}{n:Nat}{L:List (Option Value)}{Sp:Nat->Value->Gh->World->Prop}:∀(os:List Oper)(xs:List (Option Value))(k:Nat),zJj P l a w n L Sp k os xs->∀i o x,os[i]?=some o->xs[i]?=some x →
 ∀(vs:Nat->Value)(gs:Gh)(W:World)(Q':Exit->Act->World->Prop),Keeps zA w.drew W->zBK L Sp vs gs W o.after.toList->zBo Sp gs (k+i) W (λv W'=>Q' .normal ((zJ l vs a n).put o.dst v) W') x->wpList P l.toArray Q' [o] (zJ l vs a n) W
 | [],_,_,_,i,o,x,h,_=>by simp at h
 | _ :: _,[],_,_,i,o,x,_,h=>by simp at h
 | o' :: os,x' :: xs,k,hr,0,o,x,h1,h2=>by
   obtain rfl:o'=o:=by simpa using h1
   obtain rfl:x'=x:=by simpa using h2
   exact hr.1
 | o' :: os,x' :: xs,k,hr,i+1,o,x,h1,h2=>by
   have:=zJj.get os xs (k+1) hr.2 i o x (by simpa using h1) (by simpa using h2)
   rw[show k+(i+1)=k+1+i by omega];exact this
theorem zBK.of{L:List (Option Value)}{Sp:Nat->Value->Gh->World->Prop}{vs:Nat->Value}{gs:Gh}{W:World}:∀es:List Edge,(∀e,e∈es->Region.binds .any e=true->zAt L Sp gs W e.on (vs e.on))->zBK L Sp vs gs W es
 | [],_=>trivial
 | e :: es,h=>by
   refine⟨?_,zBK.of es λx hx=>h x (.tail _ hx)⟩
   have h0:=h e (.head _);unfold Region.binds at h0;split
   ·trivial
   ·trivial
   ·rename_i h1 h2
    refine h0 ?_
    split
    ·rename_i g hg;exact absurd hg (h1 _)
    ·rename_i g hg;exact absurd hg (h2 _)
    ·rfl
theorem zLO{id:Nat}{Q:Exit->Act->World->Prop}{a:Act}{w:World}{l:List Oper}(n p:Nat)(D:Nat->List Nat)(hm:P.follows .mixedOrders=true)(hB:zIi .any l n p=true)(hDB:zE8 .any l n D=true)(L:List (Option Value))(hL:L.length=n)(Sp:Nat->Value->Gh->World->Prop)
 (hst:∀j v gs W W',Sp j v gs W->Keeps zA W W'->Sp j v gs W') (hloc:∀j v gs gs' W,(∀a,a∈D j->gs a=gs' a)->Sp j v gs W->Sp j v gs' W)
 (hp:p<n->∃op,l[p]?=some op/\(∀c a w v,Q (.panic c) (a.put op.dst v) w->Q (.panic c) a w)/\∀(vs:Nat->Value) gs W,Keeps zA w.drew W->(∀j,j<n->j≠p->zAt L Sp gs W j (vs j))->∃v,Yields P l.toArray op v (zJ l vs a n)/\zAt L Sp (zGh gs p (W.heap.size,W.heap.size)) W p v)
 (hrow:zJj P l a w n L Sp 0 l L)
 (htail:∀(vs:Nat->Value)(gs:Gh)(W:World),Keeps zA w.drew W->(∀j,j<n->zAt L Sp gs W j (vs j))->(∀j,j<n->(gs j).2<=W.heap.size)->(∀i j,i<n->j<n->i≠j->(gs i).2<=(gs j).1\/(gs j).2<=(gs i).1)->wpList P l.toArray Q (l.drop n) (zJ l vs a n) W):(Code.region id l.toArray true).wp P Q a w:=by
 refine zO2 n p hm hB D hDB (λj v gs W=>zAt L Sp gs W j v) (λj v gs W W' h hk=>?_) (λj v gs gs' W hg h=>?_) hp (λi o hi ho vs gs W Q' hR hd hK=>?_) htail
 ·unfold zAt at *
  split at h
  ·exact h
  ·exact hst _ _ _ _ _ h hk
 ·unfold zAt at *
  split at h
  ·exact h
  ·exact hloc _ _ _ _ _ hg h
 ·have hx:L[i]?=some L[i]:=yL (by omega)
  have h:=zJj.get l L 0 hrow i o _ ho hx vs gs W Q' hR (zBK.of _ hd);rw[xA] at h;refine h ?_
  revert hx
  generalize L[i]=x;intro hx
  cases x with
  | some u=>exact λv W' hk e=>hK v W' hk (by unfold zAt;rw[hx];exact e)
  | none=>exact λv W' hk hs=>hK v W' hk (by unfold zAt;rw[hx];exact hs)
end
theorem zBG{id:Nat}{Q:Exit->Act->World->Prop}{a:Act}{w:World}{l:List Oper}(n:Nat)(hB:zIi .any l n (n+1)=true)(L:List (Option Value))(hL:L.length=n)(Sp:Nat->Value->World->Prop)
 (hst:∀j v W W',Sp j v W->Keeps zA W W'->Sp j v W') (hrow:zJj Tryz.prog l a w n L (λj v _ W=>Sp j v W) 0 l L)
 (htail:∀(vs:Nat->Value)(W:World),Keeps zA w.drew W->(∀j,j<n->zAt L (λj v _ W=>Sp j v W) (λ_=>(0,0)) W j (vs j))->wpList Tryz.prog l.toArray Q (l.drop n) (zJ l vs a n) W):(Code.region id l.toArray true).wp Tryz.prog Q a w:=by
 refine zLO n (n+1) (λ_=>[]) (by kernel_rfl) hB ?_ L hL _ (λj v _ W W'=>hst j v W W') (λ_ _ _ _ _ _ h=>h) (λh=>absurd h (by omega)) hrow (λvs gs W hR hF _ _=>htail vs W hR hF)
 unfold zE8;simp only[xB];intro i _
 cases l[i]? <;> rfl
theorem zB5{id:Nat}{Q:Exit->Act->World->Prop}{a:Act}{w:World}{l:List Oper}(n p:Nat)(hB:zIi .any l n p=true)(L:List (Option Value))(hL:L.length=n)(Sp:Nat->Value->World->Prop)
 (hst:∀j v W W',Sp j v W->Keeps zA W W'->Sp j v W') (op:Oper) (hop:l[p]?=some op) (hQ:∀c a w v,Q (.panic c) (a.put op.dst v) w->Q (.panic c) a w) (u:Value) (hu:L[p]?=some (some u))
 (hy:∀(vs:Nat->Value) W,(∀j,j<n->j≠p->zAt L (λj v _ W=>Sp j v W) (λ_=>(0,0)) W j (vs j))->Yields Tryz.prog l.toArray op u (zJ l vs a n)) (hrow:zJj Tryz.prog l a w n L (λj v _ W=>Sp j v W) 0 l L)
 (htail:∀(vs:Nat->Value)(W:World),Keeps zA w.drew W->(∀j,j<n->zAt L (λj v _ W=>Sp j v W) (λ_=>(0,0)) W j (vs j))->wpList Tryz.prog l.toArray Q (l.drop n) (zJ l vs a n) W):(Code.region id l.toArray true).wp Tryz.prog Q a w:=by
 refine zLO n p (λ_=>[]) (by kernel_rfl) hB ?_ L hL _ (λj v _ W W'=>hst j v W W') (λ_ _ _ _ _ _ h=>h) (λ_=>⟨op,hop,hQ,λvs gs W _ h=>⟨u,hy vs W h,by unfold zAt;rw[hu]⟩⟩) hrow (λvs gs W hR hF _ _=>htail vs W hR hF)
 unfold zE8;simp only[xB];intro i _
 cases l[i]? <;> rfl
def ints(xs:List Int):List Value:=xs.map (Value.int .i64)
theorem zAf(xs:List Int):(ints xs).length=xs.length:=by simp[ints]
theorem zAB(xs:List Int)(k:Nat)(hk:k<xs.length):(ints xs)[k]?=some (.int .i64 (xs.getD k 0)):=by simp[ints,List.getD,hk]
theorem ints_set(xs:List Int)(k:Nat)(u:Int):(ints xs).set k (.int .i64 u)=ints (xs.set k u):=by simp[ints,List.map_set]
abbrev Ret(w:World)(f:FuncId)(a:Array Value)(v:Value):Prop:=Hid (∀W,Keeps zA w W->Calls Tryz.prog f a W λe w'=>e=.returned v/\Keeps zA W w')
theorem Ret.call{w W:World}{f:FuncId}{a:Array Value}{v:Value}{Q:Ending->World->Prop}(H:Ret w f a v)(K:Keeps zA w W)(h:∀w',Keeps zA w w'->Keeps zA W w'->Q (.returned v) w'):Calls Tryz.prog f a W Q:=
 (H.out W K).mono λe w' ⟨he,hk⟩=>by rw[he];exact h w' (K.zC hk) hk
theorem newRow(w:World)(cs:List Value)(t:TypeId):∃b w1,w.heap.size=b/\w.alloc (.cells cs.toArray t)=w1/\zB w1 b cs/\Keeps zA w w1/\Hid (w1.heap.size=b+1):=
 ⟨_,_,rfl,rfl,yK (yG w _),(yB _ _).alloc _,by show _=_;simp⟩
namespace zB
variable {w:World} {g:Nat} {a b c d e f h i j k:Value}
theorem all1(r:zB w g [a]):∀W,Keeps zA w W->W.cell? ⟨g,0,none⟩=some a:=λW q=>(r.keeps q (λh=>h)).cell (k:=0) rfl
theorem all2(r:zB w g [a,b]):∀W,Keeps zA w W->W.cell? ⟨g,0,none⟩=some a/\W.cell? ⟨g,1,none⟩=some b:=λW q=>⟨(r.keeps q (λh=>h)).cell (k:=0) rfl,(r.keeps q (λh=>h)).cell (k:=1) rfl⟩
theorem zA7(r:zB w g [a,b,c]):∀W,Keeps zA w W->W.cell? ⟨g,0,none⟩=some a/\W.cell? ⟨g,1,none⟩=some b/\W.cell? ⟨g,2,none⟩=some c:=λW q=>(r.keeps q (λh=>h)).three
theorem zBF(r:zB w g [a,b,c,d]):∀W,Keeps zA w W->W.cell? ⟨g,0,none⟩=some a/\W.cell? ⟨g,1,none⟩=some b/\W.cell? ⟨g,2,none⟩=some c/\W.cell? ⟨g,3,none⟩=some d:=λW q=>(r.keeps q (λh=>h)).four
theorem zq(r:zB w g [a,b,c,d,e,f,h,i,j,k]):∀W,Keeps zA w W->W.cell? ⟨g,0,none⟩=some a/\W.cell? ⟨g,1,none⟩=some b/\W.cell? ⟨g,2,none⟩=some c/\W.cell? ⟨g,3,none⟩=some d/\W.cell? ⟨g,4,none⟩=some e/\W.cell? ⟨g,5,none⟩=some f/\W.cell? ⟨g,6,none⟩=some h/\W.cell? ⟨g,7,none⟩=some i/\W.cell? ⟨g,8,none⟩=some j/\W.cell? ⟨g,9,none⟩=some k:=λW q=>(r.keeps q (λh=>h)).ten
end zB
theorem zL{w:World}{p:Addr}{v:Value}(h:w.cell? p=some v):∀W,Keeps zA w W->W.cell? p=some v:=λW q=>q.cell (λh=>h) h
theorem zF(w:World):Keeps zA w w:=yB _ _
inductive WTg where
 | mach|cells|owners|zP
 | regs (i:Nat)|fs (i:Nat)
deriving DecidableEq
abbrev zZ:=Nat->Option (Nat × WTg)
def zAk(T:zZ)(id:Nat)(k:Nat):Prop:=∃t,T k=some (id,t)
def zD3(T:zZ)(id:Nat)(k:Nat):Prop:=T k=some (id,.zP)\/∃i,T k=some (id,.regs i)\/T k=some (id,.fs i)
theorem zD3.own{T:zZ}{id k:Nat}(h:zD3 T id k):zAk T id k:=by
 rcases h with h|⟨i,h|h⟩ <;> exact⟨_,h⟩
structure zFu(w:World)(T:zZ)(F:Nat->Prop):Prop where
 ok:∀k x,T k=some x->k<w.heap.size
 sep:∀k,F k->T k=none
 low:∀k,F k->k<w.heap.size
theorem zFu.keeps{S:Nat->Prop}{w w':World}{T:zZ}{F:Nat->Prop}(h:zFu w T F)(hk:Keeps S w w'):zFu w' T F:=
 ⟨λk x e=>yH (h.ok k x e) hk.size,h.sep,λk hF=>yH (h.low k hF) hk.size⟩
def zAT(T T':zZ)(id:Nat)(w:World):Prop:=(∀k y,T k=some y->T' k=some y)/\∀k y,T' k=some y->T k=some y\/(w.heap.size<=k/\y.1=id)
theorem zAT.refl(T:zZ)(id:Nat)(w:World):zAT T T id w:=⟨λ_ _ h=>h,λ_ _ h=>.inl h⟩
theorem zAT.trans{T1 T2 T3:zZ}{id:Nat}{w w':World}(h:zAT T1 T2 id w)(h':zAT T2 T3 id w')(hs:w.heap.size<=w'.heap.size):zAT T1 T3 id w:=
 ⟨λk y e=>h'.1 k y (h.1 k y e),λk y e=>by
  rcases h'.2 k y e with h1|h1
  ·exact h.2 k y h1
  ·exact .inr ⟨yX hs h1.1,h1.2⟩⟩
theorem zAT.none{T T':zZ}{id:Nat}{w:World}(h:zAT T T' id w){k:Nat}(h1:T k=none)(h2:k<w.heap.size):T' k=none:=by
 cases e:T' k with
 | none=>rfl
 | some y =>
   rcases h.2 k y e with h3|h3
   ·rw[h1] at h3;cases h3
   ·omega
theorem zAT.own{T T':zZ}{id:Nat}{w:World}(h:zAT T T' id w){k i:Nat}(hk:zAk T' i k)(h2:k<w.heap.size):zAk T i k:=by
 obtain⟨t,e⟩:=hk;rcases h.2 k _ e with h3|h3
 ·exact⟨t,h3⟩
 ·omega
def zC7(T:zZ)(id:Nat)(t:WTg)(g:Nat):zZ:=λq=>if q=g then some (id,t) else T q
theorem zCp{T:zZ}{id:Nat}{t:WTg}{g:Nat}{w:World}(h:T g=some (id,t)\/(T g=none/\w.heap.size<=g)):zAT T (zC7 T id t g) id w:=by
 refine⟨λk y e=>?_,λk y e=>?_⟩
 ·unfold zC7
  by_cases hk:k=g
  ·subst hk
   rw[if_pos rfl];rcases h with h|h
   ·rw[<-e,h]
   ·rw[h.1] at e;cases e
  ·rw[if_neg hk];exact e
 ·unfold zC7 at e
  by_cases hk:k=g
  ·subst hk
   rw[if_pos rfl] at e;cases e;rcases h with h|h
   ·exact .inl h
   ·exact .inr ⟨h.2,rfl⟩
  ·rw[if_neg hk] at e;exact .inl e
theorem zDE(T:zZ)(id:Nat)(t:WTg)(g:Nat):zC7 T id t g g=some (id,t):=if_pos rfl
theorem zFu.tag{w:World}{T:zZ}{F:Nat->Prop}(h:zFu w T F){id:Nat}{t:WTg}{g:Nat}(hg:g<w.heap.size)(hF:¬F g):zFu w (zC7 T id t g) F:=by
 refine⟨λk x e=>?_,λk hk=>?_,h.low⟩
 ·unfold zC7 at e
  by_cases hk:k=g
  ·subst hk;exact hg
  ·rw[if_neg hk] at e;exact h.ok k x e
 ·unfold zC7
  rw[if_neg (λe=>hF (by rw[<-e];exact hk))];exact h.sep k hk
theorem zFu.free{w:World}{T:zZ}{F:Nat->Prop}(h:zFu w T F){g:Nat}(hg:w.heap.size<=g):T g=none/\¬F g:=by
 refine⟨?_,λhF=>by have:=h.low g hF;omega⟩
 cases e:T g with
 | none=>rfl
 | some y=>have:=h.ok g y e;omega
def zBX(w:World)(T:zZ)(id:Nat)(t:WTg)(v:Value)(xs:List Int):Prop:=
 ∃ad cap,v=.slice ad xs.length cap/\(xs ≠ []->∃g,ad=some ⟨g,0,none⟩/\T g=some (id,t)/\zB w g (ints xs))
section
variable {S:Nat->Prop} {w w':World} {T T':zZ} {id:Nat} {t:WTg} {v:Value} {xs:List Int}
theorem zBX.keeps(h:zBX w T id t v xs)(hk:Keeps S w w')(hS:∀k,T k=some (id,t)->¬S k):zBX w' T id t v xs:=by
 obtain⟨ad,cap,e,h1⟩:=h;refine⟨ad,cap,e,λhn=>?_⟩
 obtain⟨g,e1,e2,e3⟩:=h1 hn;exact⟨g,e1,e2,e3.keeps hk (hS g e2)⟩
theorem zBX.ext(h:zBX w T id t v xs)(hx:∀k y,T k=some y->T' k=some y):zBX w T' id t v xs:=by
 obtain⟨ad,cap,e,h1⟩:=h;refine⟨ad,cap,e,λhn=>?_⟩
 obtain⟨g,e1,e2,e3⟩:=h1 hn;exact⟨g,e1,hx _ _ e2,e3⟩
theorem zBX.at(h:zBX w T id t v xs){k:Nat}(hk:k<xs.length):∃g cap,v=.slice (some ⟨g,0,none⟩) xs.length cap/\T g=some (id,t)/\zB w g (ints xs):=by
 obtain⟨ad,cap,e,h1⟩:=h;obtain⟨g,e1,e2,e3⟩:=h1 (λe=>by rw[e] at hk;simp at hk);subst e1;exact⟨g,cap,e,e2,e3⟩
theorem zBX.set{g cap:Nat}(hT:T g=some (id,t))(h:zB w g (ints xs))(k:Nat)(hk:k<xs.length)(u:Int):
 zBX (w.setCell ⟨g,k,none⟩ (.int .i64 u)) T id t (.slice (some ⟨g,0,none⟩) xs.length cap) (xs.set k u):=by
 have:=h.set k (by rw[zAf];exact hk) (.int .i64 u)
 rw[ints_set] at this;exact⟨_,cap,by rw[xQ],λ_=>⟨g,rfl,hT,this⟩⟩
theorem zBX.src(h:zBX w T id t v xs):zl w v xs.length (ints xs):=by
 obtain⟨ad,cap,e,h1⟩:=h;refine⟨ad,cap,e,λhn=>?_⟩
 obtain⟨g,e1,_,e3⟩:=h1 (λe=>by rw[e] at hn;exact hn rfl);exact⟨g,0,e1,e3.rng⟩
theorem zBX.of{e:TypeId}{base:Nat}(h:w.ownsRow base e 1 v xs.length (ints xs))(hT:∀kb,v.ownBlock=some kb->T kb=some (id,t))(hv:∃ad cap,v=.slice ad xs.length cap):zBX w T id t v xs:=by
 obtain⟨ad,cap,rfl⟩:=hv;refine⟨ad,cap,rfl,λhn=>?_⟩
 rcases h.2 with⟨_,h1⟩|⟨g,c,cur,h1,_⟩
 ·exact absurd (xW h1) hn
 ·simp only[xH] at h1
  obtain⟨rfl,_,rfl⟩:=h1;exact⟨g,rfl,hT g rfl,uB h⟩
end
section
variable (R:zA5 WFr) (sz:Nat) (ty:TypeId)
def zCK(w:World)(T:zZ)(F:Nat->Prop)(id i:Nat)(v:Value)(fs:List WFr):Prop:=
 ∃ css:List (List Value),css.length=fs.length/\w.ownsRow 0 ty sz v fs.length css.flatten/\(∀kb,v.ownBlock=some kb->T kb=some (id,.fs i))/\(∃ad cap,v=.slice ad fs.length cap) ∧
   ∀(j:Nat)(f:WFr)(cs:List Value),fs[j]?=some f->css[j]?=some cs->R w F f cs
structure HTh where
 st:Int
 rv:Value
 fv:Value
def HTh.cells(h:HTh):List Value:=[.int .i64 h.st,h.rv,h.fv]
theorem zDx(h:HTh):h.cells.length=3:=rfl
def zAR(H:List HTh):List Value:=H.flatMap HTh.cells
structure zAm(w:World)(T:zZ)(F:Nat->Prop)(id g:Nat)(H:List HTh)(zP:List WTh):Prop where
 tag:T g=some (id,.zP)
 sep:zFu w T F
 row:zB w g (zAR H)
 len:H.length=zP.length
 each:∀i h t,H[i]?=some h->zP[i]?=some t->h.st=t.st/\zBX w T id (.regs i) h.rv t.regs/\zCK R sz ty w T F id i h.fv t.fs
end
section
variable {R:zA5 WFr} {sz:Nat} {ty:TypeId} (L:zAU R sz)
include L
variable {S:Nat->Prop} {w w':World} {T T':zZ} {F:Nat->Prop} {id i g:Nat} {v:Value} {fs:List WFr} {H:List HTh} {zP:List WTh}
theorem zCK.keeps(h:zCK R sz ty w T F id i v fs)(hk:Keeps S w w')(hS:∀k,T k=some (id,.fs i)->¬S k)(hF:∀k,F k->¬S k):zCK R sz ty w' T F id i v fs:=by
 obtain⟨css,h1,h2,h3,h4,h5⟩:=h;exact⟨css,h1,zD h2 hk (λk e=>hS k (h3 k e)),h3,h4,λj f cs e1 e2=>L.keeps (h5 j f cs e1 e2) hk hF⟩
theorem zAm.keeps(h:zAm R sz ty w T F id g H zP)(hk:Keeps S w w')(hS:∀k,zD3 T id k\/F k->¬S k):zAm R sz ty w' T F id g H zP:=
 ⟨h.tag,h.sep.keeps hk,h.row.keeps hk (hS g (.inl (.inl h.tag))),h.len,λi a t e1 e2=>by
  obtain⟨h1,h2,h3⟩:=h.each i a t e1 e2;exact⟨h1,h2.keeps hk (λk e=>hS k (.inl (.inr ⟨i,.inl e⟩))),zCK.keeps L h3 hk (λk e=>hS k (.inl (.inr ⟨i,.inr e⟩))) (λk e=>hS k (.inr e))⟩⟩
end
section
variable {R:zA5 WFr} {sz:Nat} {ty:TypeId} {w w':World} {T T':zZ} {F:Nat->Prop} {id i g:Nat} {v:Value} {fs:List WFr} {H:List HTh} {zP:List WTh}
theorem zCK.ext(h:zCK R sz ty w T F id i v fs)(hx:∀k y,T k=some y->T' k=some y):zCK R sz ty w T' F id i v fs:=by
 obtain⟨css,h1,h2,h3,h4,h5⟩:=h;exact⟨css,h1,h2,λk e=>hx _ _ (h3 k e),h4,h5⟩
theorem zAm.get(h:zAm R sz ty w T F id g H zP){t:WTh}(ht:zP[i]?=some t):∃rv fv,H[i]?=some ⟨t.st,rv,fv⟩/\zBX w T id (.regs i) rv t.regs/\zCK R sz ty w T F id i fv t.fs:=by
 have hi:i<zP.length:=(yP.1 ht).1;have hi':i<H.length:=by rw[h.len];exact hi
 have hH:H[i]?=some H[i]:=yL hi';obtain⟨e1,e2,e3⟩:=h.each i _ t hH ht;exact⟨H[i].rv,H[i].fv,by rw[hH,<-e1],e2,e3⟩
theorem zH4{a:HTh}(hr:zB w g (zAR H))(ha:H[i]?=some a)(j:Nat){u:Value}(hu:a.cells[j]?=some u):w.cell? ⟨g,i*3+j,none⟩=some u:=by
 refine hr.cell ?_
 have hj:j<3:=(yP.1 hu).1;show(H.flatMap HTh.cells)[i*3+j]?=_
 rw[zCh _ 3 zDx H i j hj,ha];exact hu
theorem zD0(hr:zB w g (zAR H))(hi:i<H.length)(j:Nat)(hj:j<3):w.frozen? ⟨g,i*3+j,none⟩=false:=
 hr.free (by unfold zAR;rw[zAI _ 3 zDx];omega)
theorem zAP(hr:zB w g (zAR H)){a:HTh}(ha:H[i]?=some a):w.cell? ⟨g,i*3,none⟩=some (.int .i64 a.st)/\w.cell? ⟨g,i*3+1,none⟩=some a.rv/\w.cell? ⟨g,i*3+2,none⟩=some a.fv:=
 ⟨zH4 hr ha 0 rfl,zH4 hr ha 1 rfl,zH4 hr ha 2 rfl⟩
theorem zEc(hr:zB w g (zAR H)){a:HTh}(ha:H[i]?=some a)(j:Nat)(hj:j<3)(u:Value)(a':HTh)(hc:a'.cells=a.cells.set j u):zB (w.setCell ⟨g,i*3+j,none⟩ u) g (zAR (H.set i a')):=by
 have:=hr.set (i*3+j) (by unfold zAR;rw[zAI _ 3 zDx];have:=(yP.1 ha).1;omega) u
 have e:(zAR H).set (i*3+j) u=zAR (H.set i a'):=zDB _ 3 zDx H i j hj u a a' ha hc;rwa [e] at this
theorem zAm.upd(L:zAU R sz)(h:zAm R sz ty w T F id g H zP)(hx:zAT T T' id w)(hsep:zFu w' T' F)(hk:Keeps (λk=>k=g\/T k=some (id,.regs i)\/T k=some (id,.fs i)) w w'){a':HTh}{t':WTh}
 (hr:zB w' g (zAR (H.set i a'))) (h1:a'.st=t'.st) (h2:zBX w' T' id (.regs i) a'.rv t'.regs) (h3:zCK R sz ty w' T' F id i a'.fv t'.fs):zAm R sz ty w' T' F id g (H.set i a') (zP.set i t'):=by
 refine⟨hx.1 _ _ h.tag,hsep,hr,by simp[h.len],λk b t hb ht=>?_⟩
 by_cases e:i=k
 ·subst e
  rw[List.getElem?_set_self'] at hb ht;obtain⟨b0,hb0,rfl⟩:=Option.map_eq_some_iff.1 hb;obtain⟨t0,ht0,rfl⟩:=Option.map_eq_some_iff.1 ht;exact⟨h1,h2,h3⟩
 ·rw[kG e] at hb ht
  obtain⟨e1,e2,e3⟩:=h.each k b t hb ht
  have hF:∀q,F q->¬(q=g\/T q=some (id,.regs i)\/T q=some (id,.fs i)):=λq hq hn=>by
   have:=h.sep.sep q hq
   rcases hn with rfl|hn|hn
   ·rw[h.tag] at this;cases this
   ·rw[hn] at this;cases this
   ·rw[hn] at this;cases this
  refine⟨e1,(e2.keeps hk (λq hq hn=>?_)).ext hx.1,(zCK.keeps L e3 hk (λq hq hn=>?_) hF).ext hx.1⟩
  ·rcases hn with rfl|hn|hn
   ·rw[h.tag] at hq;cases hq
   ·rw[hn] at hq;cases hq;exact e rfl
   ·rw[hn] at hq;cases hq
  ·rcases hn with rfl|hn|hn
   ·rw[h.tag] at hq;cases hq
   ·rw[hn] at hq;cases hq
   ·rw[hn] at hq;cases hq;exact e rfl
theorem zHh(h:zAm R sz ty w T F id g H zP)(hk:Keeps (λk=>k=g\/T k=some (id,.regs i)\/T k=some (id,.fs i)) w w'):Keeps (zD3 T id) w w':=
 hk.mono (λk _ hn=>by
  rcases hn with rfl|hn|hn
  ·exact .inl h.tag
  ·exact .inr ⟨i,.inl hn⟩
  ·exact .inr ⟨i,.inr hn⟩)
end
