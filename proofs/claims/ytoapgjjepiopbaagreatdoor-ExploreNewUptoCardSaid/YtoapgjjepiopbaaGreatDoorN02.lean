/- Layer N: texts joined. -/
import Derived.Test.YtoapgjjepiopbaaGreatDoorN01
import Derived.Great.Walk
import Derived.Deep.WholeRow
set_option linter.all false
set_option maxRecDepth 8000
namespace Go.Proofs.YtoapgjjepiopbaaGreatDoor
open Go.RowKit
theorem J39 (P:Prop) (h:P:=by
 go_wp2_with fail
 go_ret
 exact ⟨by rw [<- hd];rfl,K1.out.zB HK.out⟩):P:=h
theorem J73 (P:Prop) (h:P:=by
 obtain ⟨css,h0,h1⟩:=h;exact ⟨css,h0.keeps hk hS,fun i y e=>(h1 i y e).keeps hk hS⟩):P:=h
theorem J80 (P:Prop) (h:P:=by
 obtain ⟨css,h0,h1⟩:=h;exact ⟨css,h0.mono hF,fun i y e=>(h1 i y e).mono hF⟩):P:=h
theorem J90 (P:Prop) (h:P:=by
 go_roundw
 case rel=>exact ⟨i+1,n+m,by omega,by go_num,by go_num,by show _=_;have:=HD.out;omega,HK.out.zB G1.out⟩
 case measure=>simp [intOf];omega):P:=h
theorem J150 (P:Prop) (h:P:=by rw [hb1];exact zC.zG (heap_alloc_new w _)):P:=h
theorem J152 (P:Prop) (h:P:=by simp [Value.ownBlock] at e):P:=h
theorem tz {α:Type}:(∀ (a:α) l,(a :: l)[0]?=some a) /\ (∀ (a:α) l i,(a :: l)[i+1]?=l[i]?) /\ (∀ (a b:α) l,(a :: l).set 0 b=b :: l) /\ (∀ (a b:α) l i,(a :: l).set (i+1) b=a :: l.set i b) /\ (∀ (l:List α) i a,l.toArray.setIfInBounds i a=(l.set i a).toArray) ∧
 (∀ l:List α,l.toArray.toList=l) /\ (∀ (a:α) l i,(a :: l).drop (i+1)=l.drop i) /\ (∀ l:List α,l.drop 0=l):=by simp
abbrev Gh:=Nat -> Nat × Nat
def zAg (L:List (Option Value)) (Sp:Nat -> Value -> Gh -> World -> Prop) (gs:Gh) (W:World) (j:Nat) (v:Value):Prop :=
 match L[j]? with
 | some (some u)=>v=u
 | _=>Sp j v gs W
def zA1 (L:List (Option Value)) (Sp:Nat -> Value -> Gh -> World -> Prop) (vs:Nat -> Value) (gs:Gh) (W:World):List Edge -> Prop
 | []=>True
 | e :: es=>(match e.ground with
   | .textOnly _=>True
   | .gcOnly _=>True
   | _=>zAg L Sp gs W e.on (vs e.on)) /\ zA1 L Sp vs gs W es
def zBQ (Sp:Nat -> Value -> Gh -> World -> Prop) (gs:Gh) (i:Nat) (W:World) (K:Value -> World -> Prop):Option Value -> Prop
 | some u=>∀ v W',Keeps zA W W' -> v=u -> K v W'
 | none=>∀ v W',Keeps zA W W' -> Sp i v (zFL gs i (W.heap.size,W'.heap.size)) W' -> K v W'
section
variable {P:Program}
def zG1 (P:Program) (l:List Oper) (a:Act) (w:World) (n:Nat) (L:List (Option Value)) (Sp:Nat -> Value -> Gh -> World -> Prop):Nat -> List Oper -> List (Option Value) -> Prop
 | i,o :: os,x :: xs=>(∀ (vs:Nat -> Value) (gs:Gh) (W:World) (Q':Exit -> Act -> World -> Prop),Keeps zA w.drew W -> zA1 L Sp vs gs W o.after.toList →
    zBQ Sp gs i W (fun v W'=>Q' .normal ((zJ l vs a n).put o.dst v) W') x -> wpList P l.toArray Q' [o] (zJ l vs a n) W) /\ zG1 P l a w n L Sp (i+1) os xs
 | _,_,_=>True
theorem zG1.get {l:List Oper} {a:Act} {w:World} {n:Nat} {L:List (Option Value)} {Sp:Nat -> Value -> Gh -> World -> Prop}:∀ (os:List Oper) (xs:List (Option Value)) (k:Nat),zG1 P l a w n L Sp k os xs -> ∀ i o x,os[i]?=some o -> xs[i]?=some x →
 ∀ (vs:Nat -> Value) (gs:Gh) (W:World) (Q':Exit -> Act -> World -> Prop),Keeps zA w.drew W -> zA1 L Sp vs gs W o.after.toList -> zBQ Sp gs (k+i) W (fun v W'=>Q' .normal ((zJ l vs a n).put o.dst v) W') x -> wpList P l.toArray Q' [o] (zJ l vs a n) W
 | [],_,_,_,i,o,x,h,_=>by simp at h
 | _ :: _,[],_,_,i,o,x,_,h=>by simp at h
 | o' :: os,x' :: xs,k,hr,0,o,x,h1,h2=>by
   obtain rfl:o'=o:=by simpa using h1
   obtain rfl:x'=x:=by simpa using h2
   exact hr.1
 | o' :: os,x' :: xs,k,hr,i+1,o,x,h1,h2=>by
   have:=zG1.get os xs (k+1) hr.2 i o x (by simpa using h1) (by simpa using h2)
   rw [show k+(i+1)=k+1+i by omega];exact this
theorem zA1.of {L:List (Option Value)} {Sp:Nat -> Value -> Gh -> World -> Prop} {vs:Nat -> Value} {gs:Gh} {W:World}:∀ es:List Edge,(∀ e,e ∈ es -> Region.binds .any e=true -> zAg L Sp gs W e.on (vs e.on)) -> zA1 L Sp vs gs W es
 | [],_=>trivial
 | e :: es,h=>by
   refine ⟨?_,zA1.of es fun x hx=>h x (.tail _ hx)⟩
   have h0:=h e (.head _);unfold Region.binds at h0;split
   ·trivial
   ·trivial
   ·rename_i h1 h2
    refine h0 ?_
    split
    ·rename_i g hg;exact absurd hg (h1 _)
    ·rename_i g hg;exact absurd hg (h2 _)
    ·rfl
theorem zIl {id:Nat} {Q:Exit -> Act -> World -> Prop} {a:Act} {w:World} {l:List Oper} (n p:Nat) (D:Nat -> List Nat) (hm:P.follows .mixedOrders=true) (hB:zHT .any l n p=true) (hDB:zD6 .any l n D=true) (L:List (Option Value)) (hL:L.length=n) (Sp:Nat -> Value -> Gh -> World -> Prop)
 (hst:∀ j v gs W W',Sp j v gs W -> Keeps zA W W' -> Sp j v gs W') (hloc:∀ j v gs gs' W,(∀ a,a ∈ D j -> gs a=gs' a) -> Sp j v gs W -> Sp j v gs' W)
 (hp:p < n -> ∃ op,l[p]?=some op /\ (∀ c a w v,Q (.panic c) (a.put op.dst v) w -> Q (.panic c) a w) /\ ∀ (vs:Nat -> Value) gs W,Keeps zA w.drew W -> (∀ j,j < n -> j ≠ p -> zAg L Sp gs W j (vs j)) -> ∃ v,Yields P l.toArray op v (zJ l vs a n) /\ zAg L Sp (zFL gs p (W.heap.size,W.heap.size)) W p v)
 (hrow:zG1 P l a w n L Sp 0 l L)
 (htail:∀ (vs:Nat -> Value) (gs:Gh) (W:World),Keeps zA w.drew W -> (∀ j,j < n -> zAg L Sp gs W j (vs j)) -> (∀ j,j < n -> (gs j).2 <= W.heap.size) -> (∀ i j,i < n -> j < n -> i ≠ j -> (gs i).2 <= (gs j).1 \/ (gs j).2 <= (gs i).1) -> wpList P l.toArray Q (l.drop n) (zJ l vs a n) W):(Code.region id l.toArray true).wp P Q a w:=by
 refine zNE n p hm hB D hDB (fun j v gs W=>zAg L Sp gs W j v) (fun j v gs W W' h hk=>?_) (fun j v gs gs' W hg h=>?_) hp (fun i o hi ho vs gs W Q' hR hd hK=>?_) htail
 ·unfold zAg at *
  split at h
  ·exact h
  ·exact hst _ _ _ _ _ h hk
 ·unfold zAg at *
  split at h
  ·exact h
  ·exact hloc _ _ _ _ _ hg h
 ·have hx:L[i]?=some L[i]:=List.getElem?_eq_getElem (by omega)
  have h:=zG1.get l L 0 hrow i o _ ho hx vs gs W Q' hR (zA1.of _ hd);rw [Nat.zero_add] at h;refine h ?_
  revert hx
  generalize L[i]=x;intro hx
  cases x with
  | some u=>exact fun v W' hk e=>hK v W' hk (by unfold zAg;rw [hx];exact e)
  | none=>exact fun v W' hk hs=>hK v W' hk (by unfold zAg;rw [hx];exact hs)
end
theorem zAs {id:Nat} {Q:Exit -> Act -> World -> Prop} {a:Act} {w:World} {l:List Oper} (n:Nat) (hB:zHT .any l n (n+1)=true) (L:List (Option Value)) (hL:L.length=n) (Sp:Nat -> Value -> World -> Prop)
 (hst:∀ j v W W',Sp j v W -> Keeps zA W W' -> Sp j v W') (hrow:zG1 Tryz.prog l a w n L (fun j v _ W=>Sp j v W) 0 l L)
 (htail:∀ (vs:Nat -> Value) (W:World),Keeps zA w.drew W -> (∀ j,j < n -> zAg L (fun j v _ W=>Sp j v W) (fun _=>(0,0)) W j (vs j)) -> wpList Tryz.prog l.toArray Q (l.drop n) (zJ l vs a n) W):(Code.region id l.toArray true).wp Tryz.prog Q a w:=by
 refine zIl n (n+1) (fun _=>[]) (by kernel_rfl) hB ?_ L hL _ (fun j v _ W W'=>hst j v W W') (fun _ _ _ _ _ _ h=>h) (fun h=>absurd h (by omega)) hrow (fun vs gs W hR hF _ _=>htail vs W hR hF)
 unfold zD6;simp only [List.all_eq_true];intro i _
 cases l[i]? <;> rfl
theorem zCG {id:Nat} {Q:Exit -> Act -> World -> Prop} {a:Act} {w:World} {l:List Oper} (n p:Nat) (hB:zHT .any l n p=true) (L:List (Option Value)) (hL:L.length=n) (Sp:Nat -> Value -> World -> Prop)
 (hst:∀ j v W W',Sp j v W -> Keeps zA W W' -> Sp j v W') (op:Oper) (hop:l[p]?=some op) (hQ:∀ c a w v,Q (.panic c) (a.put op.dst v) w -> Q (.panic c) a w) (u:Value) (hu:L[p]?=some (some u))
 (hy:∀ (vs:Nat -> Value) W,(∀ j,j < n -> j ≠ p -> zAg L (fun j v _ W=>Sp j v W) (fun _=>(0,0)) W j (vs j)) -> Yields Tryz.prog l.toArray op u (zJ l vs a n)) (hrow:zG1 Tryz.prog l a w n L (fun j v _ W=>Sp j v W) 0 l L)
 (htail:∀ (vs:Nat -> Value) (W:World),Keeps zA w.drew W -> (∀ j,j < n -> zAg L (fun j v _ W=>Sp j v W) (fun _=>(0,0)) W j (vs j)) -> wpList Tryz.prog l.toArray Q (l.drop n) (zJ l vs a n) W):(Code.region id l.toArray true).wp Tryz.prog Q a w:=by
 refine zIl n p (fun _=>[]) (by kernel_rfl) hB ?_ L hL _ (fun j v _ W W'=>hst j v W W') (fun _ _ _ _ _ _ h=>h) (fun _=>⟨op,hop,hQ,fun vs gs W _ h=>⟨u,hy vs W h,by unfold zAg;rw [hu]⟩⟩) hrow (fun vs gs W hR hF _ _=>htail vs W hR hF)
 unfold zD6;simp only [List.all_eq_true];intro i _
 cases l[i]? <;> rfl
theorem zEt {w:World} {b o n:Nat} (ht:w.there b o n) (vs:List Value) (hn:vs.length <= n):(w.setCells b o vs).there b o n:=by
 intro j hj
 refine ⟨?_,by rw [World.frozen?_setCells];exact (ht j hj).2⟩
 rcases Nat.lt_or_ge j vs.length with hlt | hge
 ·rw [World.cell?_setCells_in b vs o w (fun i hi=>(ht i (by omega)).1) j hlt];rfl
 ·rw [World.cell?_setCells_out b vs o w ⟨b,o+j,none⟩ (fun _ _=>.inr (by show o+vs.length <= o+j;omega))]
  exact (ht j hj).1
theorem Keeps.setCells {S:Nat -> Prop} {w:World} {b:Nat} (hb:b < w.heap.size -> S b):∀ (vs:List Value) (o:Nat) (w':World),Keeps S w w' -> Keeps S w (w'.setCells b o vs)
 | [],_,_,h=>h
 | v :: r,o,w',h=>Keeps.setCells hb r (o+1) _ (h.setCell (p:=⟨b,o,none⟩) hb v)
theorem zJa {w:World} {b o:Nat} {cs:List Value} (h:w.rangeAt b o cs) (k:Nat) (hk:k < cs.length) (u:Value):(w.setCell ⟨b,o+k,none⟩ u).rangeAt b o (cs.set k u):=by
 intro j v hj
 by_cases e:j=k
 ·subst e
  rw [List.getElem?_set_self hk] at hj;obtain ⟨x,hx⟩:∃ x,cs[j]?=some x:=⟨_,List.getElem?_eq_getElem hk⟩
  cases hj;exact World.cell?_setCell_same _ _ _ (h j x hx)
 ·rw [List.getElem?_set_ne (fun e'=>e e'.symm)] at hj
  rw [World.cell?_setCell_other _ _ _ _ (by simp;try omega)];exact h j v hj
theorem zFU {w:World} {b:Nat} {cs:List Value} {t:TypeId} {fr:Nat × Nat} (h:w.heap[b]?=some (.cells cs.toArray t fr)):w.rangeAt b 0 cs:=fun j v hj=>by
 rw [Nat.zero_add,cell_of_row w b j _ t fr h];simpa using hj
theorem zE8 {w:World} {b:Nat} {cs:List Value} {t:TypeId} (h:w.heap[b]?=some (.cells cs.toArray t (0,0))):w.there b 0 cs.length:=fun j hj=>by
 refine ⟨?_,?_⟩
 ·rw [Nat.zero_add,cell_of_row w b j _ t _ h]
  simp [hj]
 ·exact frozen_of_row w b _ _ _ h
theorem zHB {S:Nat -> Prop} {w w':World} {b o:Nat} {cs:List Value} (h:w.rangeAt b o cs) (hk:Keeps S w w') (hb:¬ S b):w'.rangeAt b o cs:=fun j v hj=>hk.cell (p:=⟨b,o+j,none⟩) hb (h j v hj)
theorem zEs {S:Nat -> Prop} {w w':World} {b o n:Nat} (h:w.there b o n) (hk:Keeps S w w') (hb:¬ S b):w'.there b o n:=fun j hj=>by
 obtain ⟨h1,h2⟩:=h j hj;obtain ⟨v,hv⟩:=Option.isSome_iff_exists.1 h1;have hlt:=World.block_lt_of_cell? w _ hv;refine ⟨by rw [World.cell?_of_block (hk.block b hlt hb)];exact h1,by rw [World.frozen?_of_block (hk.block b hlt hb)];exact h2⟩
structure zC (w:World) (g:Nat) (cs:List Value):Prop where
 rng:w.rangeAt g 0 cs
 thr:w.there g 0 cs.length
namespace zC
theorem cell {w:World} {g:Nat} {cs:List Value} (h:zC w g cs) {k:Nat} {v:Value} (hk:cs[k]?=some v):w.cell? ⟨g,k,none⟩=some v:=by
 have:=h.rng k v hk
 rwa [Nat.zero_add] at this
theorem free {w:World} {g:Nat} {cs:List Value} (h:zC w g cs) {k:Nat} (hk:k < cs.length):w.frozen? ⟨g,k,none⟩=false:=by
 have:=(h.thr k hk).2
 rwa [Nat.zero_add] at this
theorem lt {w:World} {g:Nat} {cs:List Value} (h:zC w g cs) (hn:cs ≠ []):g < w.heap.size:=by
 cases cs with
 | nil=>exact absurd rfl hn
 | cons a r=>exact World.block_lt_of_cell? w ⟨g,0,none⟩ (h.cell (k:=0) (v:=a) rfl)
theorem keeps {S:Nat -> Prop} {w w':World} {g:Nat} {cs:List Value} (h:zC w g cs) (hk:Keeps S w w') (hg:¬ S g):zC w' g cs :=
 ⟨zHB h.rng hk hg,zEs h.thr hk hg⟩
theorem set {w:World} {g:Nat} {cs:List Value} (h:zC w g cs) (k:Nat) (hk:k < cs.length) (u:Value):zC (w.setCell ⟨g,k,none⟩ u) g (cs.set k u):=by
 have h1:=zJa h.rng k hk u;have h2:=zEt h.thr [] (Nat.zero_le _);rw [Nat.zero_add] at h1;refine ⟨h1,fun j hj=>?_⟩
 rw [List.length_set] at hj;obtain ⟨a,b⟩:=h.thr j hj;refine ⟨?_,by rw [World.frozen?_setCell];exact b⟩
 by_cases e:0+j=k
 ·obtain ⟨v,hv⟩:=Option.isSome_iff_exists.1 a
  rw [<- e,World.cell?_setCell_same _ _ _ hv];rfl
 ·rw [World.cell?_setCell_other _ _ _ _ (by simp;try omega)]
  exact a
theorem other {w:World} {g:Nat} {cs:List Value} (h:zC w g cs) {p:Addr} (hp:p.block ≠ g) (u:Value):zC (w.setCell p u) g cs :=
 h.keeps (S:=fun k=>k=p.block) (Keeps.setCell (p:=p) (Keeps.refl (fun k=>k=p.block) w) (fun _=>rfl) u) (fun e=>hp e.symm)
theorem zG {w:World} {g:Nat} {cs:List Value} {t:TypeId} (h:w.heap[g]?=some (.cells cs.toArray t (0,0))):zC w g cs:=⟨zFU h,zE8 h⟩
theorem zAM {w:World} {base e size n cap:Nat} {g:Nat} {xs:List Value} (h:w.ownsRow base e size (.slice (some ⟨g,0,none⟩) n cap) n xs):zC w g xs:=by
 refine ⟨fun j v hj=>?_,fun j hj=>⟨?_,?_⟩⟩
 ·rw [Nat.zero_add,World.ownsRow.cellAt h j (by have:=(List.getElem?_eq_some_iff.1 hj).1;rw [h.1] at this;exact this)]
  exact hj
 ·rw [Nat.zero_add,World.ownsRow.cellAt h j (by rw [h.1] at hj;exact hj),List.getElem?_eq_getElem hj];rfl
 ·rcases h.2 with ⟨h',_⟩ | ⟨g',cap',cur,h',_,hg,_⟩
  ·simp at h'
  ·simp only [Value.slice.injEq,Option.some.injEq,Addr.mk.injEq,and_true,true_and] at h'
   obtain ⟨rfl,_⟩:=h';exact frozen_of_row w g _ cur _ hg
theorem drewN {w:World} {g:Nat} {cs:List Value} (h:zC w g cs) (n:Nat):zC (w.drewN n) g cs:=h.keeps (S:=zA) ((Keeps.refl _ _).drewN n) (fun h=>h)
theorem alloc {w:World} {g:Nat} {cs:List Value} (h:zC w g cs) (o:Obj):zC (w.alloc o) g cs:=h.keeps (S:=zA) ((Keeps.refl _ _).alloc o) (fun h=>h)
end zC
def zU (w:World) (v:Value) (n:Nat) (cs:List Value):Prop :=
 ∃ ad cap,v=.slice ad n cap /\ (n ≠ 0 -> ∃ g o,ad=some ⟨g,o,none⟩ /\ ∀ j u,cs[j]?=some u -> w.cell? ⟨g,o+j,none⟩=some u)
def zi (w:World) (base e size:Nat) (v:Value) (n:Nat) (xs:List Value) (ad:Option Addr) (cap:Nat) (w':World):Prop :=
 w'.ownsRow base e size (.slice ad n cap) n xs /\ w.grownBy w' v.ownBlock /\ ∀ kb,(Value.slice ad n cap).ownBlock=some kb -> v.ownBlock=some kb \/ kb=w.heap.size
section
variable {P:Program} (w:World)
theorem zFE (base:Nat) (t ty e:TypeId) (i:TypeInfo) (z:Value) (size bytes:Nat) (ht:P.underlying t=some (.slice e)) (hi:P.info? e=some i) (hz:i.zero=some z)
 (hsize:i.size=size) (hby:i.bytes=bytes) (hzs:z.cells.size=size) (hsz:0 < size)
 (v:Value) (n:Nat) (xs:List Value) (hown:w.ownsRow base e size v n xs)
 (s:Value) (m:Nat) (news:List Value) (hs:zU w s m news) (hl:news.length=m*size) (h1:∀ u ∈ news,u.oneCell'=true)
 (h63:n+m <= maxLen) (hbytes:(n+m)*bytes <= 140737488355328) (hbase:base <= w.heap.size) :
 ∃ ad cap w',(Builtin.append_ #[t,t] ty #[v,s]).run P w=.ok (.slice ad (n+m) cap) w' /\ zi w base e size v (n+m) (xs++news) ad cap w':=by
 obtain ⟨ad,c,rfl,h2⟩:=hs;by_cases hm:m=0
 ·subst hm
  obtain rfl:news=[]:=List.eq_nil_of_length_eq_zero (by simpa using hl);have hsame:w.ownsRow base e size v (n+0) (xs++[]):=by simpa using hown
  have hrun:(Builtin.append_ #[t,t] ty #[v, .slice ad 0 c]).run P w=.ok v w:=by
   rcases hown.2 with ⟨rfl,rfl⟩ | ⟨g,cap,cur,rfl,_,_,hnc,_⟩
   ·cases ad <;> simp [Builtin.append_,run_underlying ht,sizeOf,typeInfo,hi,Builtin.lenOf,Builtin.firstCells,loadCells,loadCellsFrom]
   ·cases ad <;> simp [Builtin.append_,run_underlying ht,sizeOf,typeInfo,hi,Builtin.lenOf,Builtin.firstCells,hnc,storeCells,loadCells,loadCellsFrom]
  rcases hown.2 with ⟨rfl,rfl⟩ | ⟨g,cap,cur,rfl,_,_,hnc,_⟩
  ·exact ⟨none,0,w,hrun,hsame,⟨rfl,rfl,rfl,Nat.le_refl _,fun k hk _=>rfl⟩,fun kb e=>by exact J152 _⟩
  ·exact ⟨some ⟨g,0,none⟩,cap,w,by simpa using hrun,hsame,⟨rfl,rfl,rfl,Nat.le_refl _,fun k hk _=>rfl⟩,fun kb e=>.inl (by simpa [Value.ownBlock] using e)⟩
 ·obtain ⟨g,o,rfl,hc⟩:=h2 hm
  obtain ⟨v',w',hr,r1,r2,r3,r4⟩:=run_append_own_at (P:=P) w base t ty e i z size bytes ht hi hz hsize hby hzs hsz v n xs hown ⟨g,o,none⟩ m c news hl (fun j u hj=>by rw [Addr.add_lit];exact hc j u hj) h1 h63 hbytes hbase;obtain ⟨g',cap,rfl,_,_⟩:=r1.form (by omega);refine ⟨_,cap,w',hr,r1,r2,fun kb e=>?_⟩
  rcases r4 with r4 | r4
  ·exact .inl (by rw [<- r4];exact e)
  ·rw [r4] at e;cases e;exact .inr rfl
variable {ops:Array Oper} {o:Oper} {a:Act} {Q:Exit -> Act -> World -> Prop}
theorem zFh {K:Act -> World -> Prop} (s x:Operand) (t:TypeId)
 (ho:o.op=.call { callee:=.builtin .append,args:=#[s,x],argTypes:=#[t,t] })
 (base:Nat) (e:TypeId) (i:TypeInfo) (z:Value) (size bytes:Nat) (ht:P.underlying t=some (.slice e)) (hi:P.info? e=some i) (hz:i.zero=some z)
 (hsize:i.size=size) (hby:i.bytes=bytes) (hzs:z.cells.size=size) (hsz:0 < size)
 (v:Value) (n:Nat) (xs:List Value) (hs:a.eval s=v) (hown:w.ownsRow base e size v n xs)
 (sv:Value) (m:Nat) (news:List Value) (hx:a.eval x=sv) (hsrc:zU w sv m news) (hl:news.length=m*size) (h1:∀ u ∈ news,u.oneCell'=true)
 (h63:n+m <= maxLen) (hbytes:(n+m)*bytes <= 140737488355328) (hbase:base <= w.heap.size)
 (h:∀ ad cap w',zi w base e size v (n+m) (xs++news) ad cap w' -> K (a.put o.dst (.slice ad (n+m) cap)) w'):o.wp P a w K Q:=by
 obtain ⟨ad,cap,w',hr,h2⟩:=zFE (P:=P) w base t o.type e i z size bytes ht hi hz hsize hby hzs hsz v n xs hown sv m news hsrc hl h1 h63 hbytes hbase;unfold Oper.wp execOp;simp only [ho,resolve,invoke,builtin,Sem.run_bind,Sem.run_pure,Result.andThen_ok,List.map_toArray,List.map_cons,List.map_nil,hs,hx,hr];exact h ad cap w' h2
theorem zI {rest:List Oper} (hgd:o.guard=none) (s x:Operand) (t:TypeId)
 (ho:o.op=.call { callee:=.builtin .append,args:=#[s,x],argTypes:=#[t,t] })
 (base:Nat) (e:TypeId) (i:TypeInfo) (z:Value) (size bytes:Nat) (ht:P.underlying t=some (.slice e)) (hi:P.info? e=some i) (hz:i.zero=some z)
 (hsize:i.size=size) (hby:i.bytes=bytes) (hzs:z.cells.size=size) (hsz:0 < size)
 (v:Value) (n:Nat) (xs:List Value) (hs:a.eval s=v) (hown:w.ownsRow base e size v n xs)
 (sv:Value) (m:Nat) (news:List Value) (hx:a.eval x=sv) (hsrc:zU w sv m news) (hl:news.length=m*size) (h1:∀ u ∈ news,u.oneCell'=true)
 (h63:n+m <= maxLen) (hbytes:(n+m)*bytes <= 140737488355328) (hbase:base <= w.heap.size)
 (h:∀ ad cap w',zi w base e size v (n+m) (xs++news) ad cap w' -> wpList P ops Q rest (a.put o.dst (.slice ad (n+m) cap)) w'):wpList P ops Q (o :: rest) a w :=
 wpList_plain hgd fun _ hK=>zFh w s x t ho base e i z size bytes ht hi hz hsize hby hzs hsz v n xs hs hown sv m news hx hsrc hl h1 h63 hbytes hbase fun ad cap w' h2=>hK _ _ (h ad cap w' h2)
end
theorem Keeps.zB {a b c:World} (h:Keeps zA a b) (h':Keeps zA b c):Keeps zA a c:=h.trans h' (fun _ _ h=>h)
theorem zi.keeps {w w':World} {base e size n cap:Nat} {v:Value} {xs:List Value} {ad:Option Addr} (h:zi w base e size v n xs ad cap w') {S:Nat -> Prop} {w0:World} (h0:Keeps S w0 w) (hv:∀ k,v.ownBlock=some k -> k < w0.heap.size -> S k):Keeps S w0 w' :=
 h0.grown h.2.1 hv
def zBL (w:World) (B:Nat) (v:Value) (n:Nat) (cs:List Value):Prop :=
 ∃ ad cap,v=.slice ad n cap /\ cap <= maxLen /\ (ad=none -> cap=0) /\ (n ≠ 0 -> ∃ g,ad=some ⟨g,0,none⟩ /\ B <= g /\ zC w g cs)
theorem zBL.keeps {S:Nat -> Prop} {w w':World} {B:Nat} {v:Value} {n:Nat} {cs:List Value} (h:zBL w B v n cs) (hk:Keeps S w w') (hS:∀ k,B <= k -> ¬ S k):zBL w' B v n cs:=by
 obtain ⟨ad,cap,e,e1,e2,h1⟩:=h;refine ⟨ad,cap,e,e1,e2,fun hn=>?_⟩
 obtain ⟨g,h2,h3,h4⟩:=h1 hn;exact ⟨g,h2,h3,h4.keeps hk (hS g h3)⟩
theorem zBL.of {w:World} {base e size n B:Nat} {v:Value} {xs:List Value} (h:w.ownsRow base e size v n xs) (hb:∀ k,v.ownBlock=some k -> B <= k):zBL w B v n xs:=by
 rcases h.2 with ⟨rfl,rfl⟩ | ⟨g,cap,cur,rfl,_,hg,_,hm,_⟩
 ·exact ⟨none,0,rfl,by unfold maxLen;omega,fun _=>rfl,fun h=>absurd rfl h⟩
 ·exact ⟨_,cap,rfl,hm,fun h=>(by cases h),fun _=>⟨g,rfl,hb g rfl,zC.zAM h⟩⟩
theorem zBL.src {w:World} {B n:Nat} {v:Value} {cs:List Value} (h:zBL w B v n cs):zU w v n cs:=by
 obtain ⟨ad,cap,e,_,_,h1⟩:=h;refine ⟨ad,cap,e,fun hn=>?_⟩
 obtain ⟨g,h2,h3,h4⟩:=h1 hn;exact ⟨g,0,h2,h4.rng⟩
theorem zU.keeps {S:Nat -> Prop} {w w':World} {v:Value} {n:Nat} {cs:List Value} (h:zU w v n cs) (hk:Keeps S w w') (hS:∀ k,v.ownBlock=some k -> ¬ S k):zU w' v n cs:=by
 obtain ⟨ad,cap,rfl,h1⟩:=h;refine ⟨ad,cap,rfl,fun hn=>?_⟩
 obtain ⟨g,o,e,h2⟩:=h1 hn;refine ⟨g,o,e,fun j u hj=>hk.cell (p:=⟨g,o+j,none⟩) (hS g (by rw [e];rfl)) (h2 j u hj)⟩
end Go.Proofs.YtoapgjjepiopbaaGreatDoor
namespace Go.Proofs.YtoapgjjepiopbaaGreatDoor
inductive Ex where
 | mk (kind num:Int) (nm:ByteArray) (args:List Ex)
inductive Ac where
 | mk (kind reg obj:Int) (ex:Ex) (count:Int) (thn els:List Ac)
inductive St where
 | mk (kind:Int) (reg name:ByteArray) (ex:Ex) (count:Int) (thn els:List St)
structure Bd where
 regs:Int
 acts:List Ac
structure Un where
 cells:List Int
 mutexes:Int
 threads:List Bd
namespace Ex
def kind:Ex -> Int | .mk k _ _ _=>k
def num:Ex -> Int | .mk _ n _ _=>n
def nm:Ex -> ByteArray | .mk _ _ s _=>s
def args:Ex -> List Ex | .mk _ _ _ l=>l
mutual
def cnt:Ex -> Nat
 | .mk _ _ _ l=>1+zM l
def zM:List Ex -> Nat
 | []=>0
 | x :: r=>cnt x+zM r
end
mutual
def dep:Ex -> Nat
 | .mk _ _ _ l=>zB9 l+1
def zB9:List Ex -> Nat
 | []=>0
 | x :: r=>max (dep x) (zB9 r)
end
end Ex
def zV (s:ByteArray):Bool:=s.size==0
def zx (k num:Int) (nm:ByteArray) (n:Nat) (regs:Int):Bool :=
 if k=1 then decide (0 <= num)&&decide (num <= 2147483647)&&zV nm&&n==0
 else if k=2 then decide (0 <= num)&&decide (num < regs)&&zV nm&&n==0
 else decide (3 <= k)&&decide (k <= 17)&&num==0&&zV nm&&n==(if k=3 \/ k=4 then 1 else 2)
mutual
def Ex.may (regs:Int):Ex -> Bool
 | .mk k num nm l=>zx k num nm l.length regs&&Ex.zq regs l
def Ex.zq (regs:Int):List Ex -> Bool
 | []=>true
 | x :: r=>Ex.may regs x&&Ex.zq regs r
end
def Ex.none:Ex -> Bool
 | .mk k num nm l=>k==0&&num==0&&zV nm&&l.isEmpty
def Ex.there:Ex -> Bool
 | .mk k _ _ l=>k != 0 || !l.isEmpty
structure Fl where
 reg:Bool
 name:Bool
 ex:Bool
 count:Bool
 thn:Bool
 els:Bool
deriving DecidableEq
def fields (k:Int):Fl :=
 if k=1 then ⟨true,false,true,false,false,false⟩
 else if k=2 then ⟨true,true,false,false,false,false⟩
 else if k=3 then ⟨false,true,true,false,false,false⟩
 else if k=4 then ⟨true,true,true,false,false,false⟩
 else if 5 <= k /\ k <= 8 then ⟨false,true,false,false,false,false⟩
 else if k=9 then ⟨false,false,true,false,false,false⟩
 else if k=10 then ⟨false,false,true,false,true,true⟩
 else if k=11 then ⟨false,false,false,true,true,false⟩
 else ⟨false,false,false,false,false,false⟩
def zAv (u:Un) (k:Int):Int:=if 2 <= k /\ k <= 4 then u.cells.length else if k=5 \/ k=6 then u.mutexes else u.threads.length
def zAr (u:Un) (regs k reg obj:Int) (ex:Ex) (count:Int) (nt ne:Nat):Bool :=
 decide (1 <= k)&&decide (k <= 11) &&
 (if (fields k).reg then decide (0 <= reg)&&decide (reg < regs) else reg==0) &&
 (if (fields k).name then decide (0 <= obj)&&decide (obj < zAv u k) else obj==0) &&
 (if (fields k).ex then ex.may regs else ex.none) &&
 (if (fields k).count then decide (0 <= count)&&decide (count <= 1000) else count==0) &&
 ((fields k).thn || nt==0)&&((fields k).els || ne==0)
mutual
def Ac.may (u:Un) (regs:Int):Ac -> Bool
 | .mk k reg obj ex count t e=>zAr u regs k reg obj ex count t.length e.length&&Ac.zq u regs t&&Ac.zq u regs e
def Ac.zq (u:Un) (regs:Int):List Ac -> Bool
 | []=>true
 | x :: r=>Ac.may u regs x&&Ac.zq u regs r
end
mutual
def Ac.cnt:Ac -> Nat
 | .mk _ _ _ ex _ t e=>1+(if ex.there then ex.cnt else 0)+Ac.zM t+Ac.zM e
def Ac.zM:List Ac -> Nat
 | []=>0
 | x :: r=>Ac.cnt x+Ac.zM r
end
mutual
def Ac.deep (d:Nat):Ac -> Nat
 | .mk _ _ _ ex _ t e=>max (max d (if ex.there then ex.dep else 0)) (max (Ac.zk (d+1) t) (Ac.zk (d+1) e))
def Ac.zk (d:Nat):List Ac -> Nat
 | []=>0
 | x :: r=>max (Ac.deep d x) (Ac.zk d r)
end
def zBr (n:Int):Bool:=decide (-2147483647 <= n)&&decide (n <= 2147483647)
def zu (u:Un):Bool :=
 decide (1 <= u.threads.length)&&decide (u.threads.length <= 8)&&decide (u.cells.length <= 8)&&decide (0 <= u.mutexes)&&decide (u.mutexes <= 8)&&u.cells.all zBr &&
 u.threads.all (fun b=>decide (0 <= b.regs)&&decide (b.regs <= 8)&&Ac.zq u b.regs b.acts) &&
 decide ((u.threads.map fun b=>Ac.zk 1 b.acts).foldr max 0 <= 16)&&decide ((u.threads.map fun b=>Ac.zM b.acts).foldr (·+·) 0 <= 500)
mutual
def Ex.zBj (d:Nat):Ex -> Nat
 | .mk _ _ _ l=>max d (Ex.zBs (d+1) l)
def Ex.zBs (d:Nat):List Ex -> Nat
 | []=>0
 | x :: r=>max (Ex.zBj d x) (Ex.zBs d r)
end
mutual
theorem Ex.zF4 (d:Nat):(x:Ex) -> Ex.zBj d x=d+x.dep - 1
 | .mk k n s l=>by
   have h:=Ex.zDe (d+1) l;simp only [Ex.zBj,Ex.dep];rw [h];by_cases hl:l=[]
   ·rw [if_pos hl,hl];simp only [Ex.zB9];omega
   ·rw [if_neg hl]
    have h5:1 <= Ex.zB9 l:=by
     cases l with
     | nil=>exact absurd rfl hl
     | cons y r=>cases y;simp only [Ex.zB9,Ex.dep];omega
    omega
theorem Ex.zDe (d:Nat):(l:List Ex) -> Ex.zBs d l=if l=[] then 0 else d+Ex.zB9 l - 1
 | []=>rfl
 | x :: r=>by
   have h1:=Ex.zF4 d x;have h2:=Ex.zDe d r;have h3:1 <= x.dep:=by cases x;simp [Ex.dep]
   simp only [Ex.zBs,Ex.zB9,h1,h2];have h4:¬ (x :: r=[]):=by simp
   rw [if_neg h4];by_cases hr:r=[]
   ·rw [if_pos hr,hr];simp only [Ex.zB9];omega
   ·rw [if_neg hr]
    have h5:1 <= Ex.zB9 r:=by
     cases r with
     | nil=>exact absurd rfl hr
     | cons y r=>cases y;simp only [Ex.zB9,Ex.dep];omega
    omega
end
theorem Ex.zD7 (x:Ex):Ex.zBj 1 x=x.dep:=by rw [Ex.zF4];omega
end Go.Proofs.YtoapgjjepiopbaaGreatDoor
namespace Go.Proofs.YtoapgjjepiopbaaGreatDoor
open Go.RowKit
def zAx (w:World) (F:Nat -> Prop) (sz n:Nat) (ad:Option Addr) (css:Nat -> List Value):Prop :=
 ∀ i,i < n -> ∃ g o,ad=some ⟨g,o,none⟩ /\ F g /\ (css i).length=sz /\ ∀ j u,(css i)[j]?=some u -> w.cell? ⟨g,o+(i*sz+j),none⟩=some u
theorem zAx.keeps {S F:Nat -> Prop} {w w':World} {sz n:Nat} {ad:Option Addr} {css:Nat -> List Value} (h:zAx w F sz n ad css) (hk:Keeps S w w') (hS:∀ k,F k -> ¬ S k):zAx w' F sz n ad css:=fun i hi=>by
 obtain ⟨g,o,e,hg,hl,hc⟩:=h i hi;exact ⟨g,o,e,hg,hl,fun j u hj=>hk.cell (p:=⟨g,_,none⟩) (hS g hg) (hc j u hj)⟩
theorem zAx.mono {F F':Nat -> Prop} {w:World} {sz n:Nat} {ad:Option Addr} {css:Nat -> List Value} (h:zAx w F sz n ad css) (hF:∀ k,F k -> F' k):zAx w F' sz n ad css:=fun i hi=>by
 obtain ⟨g,o,e,hg,hl,hc⟩:=h i hi;exact ⟨g,o,e,hF g hg,hl,hc⟩
inductive zA5 (w:World) (F:Nat -> Prop):Ex -> List Value -> Prop where
 | mk (k num:Int) (nm:ByteArray) (args:List Ex) (ad:Option Addr) (cap:Nat) (css:Nat -> List Value) (h0:zAx w F 4 args.length ad css)
    (h1:∀ i x,args[i]?=some x -> zA5 w F x (css i)):zA5 w F (.mk k num nm args) [.int .i64 k, .int .i64 num, .string nm, .slice ad args.length cap]
theorem zA5.keeps {S F:Nat -> Prop} {w w':World} {x:Ex} {cs:List Value} (h:zA5 w F x cs) (hk:Keeps S w w') (hS:∀ k,F k -> ¬ S k):zA5 w' F x cs:=by
 induction h with
 | mk k num nm args ad cap css h0 _ ih=>exact .mk k num nm args ad cap css (h0.keeps hk hS) ih
theorem zA5.mono {F F':Nat -> Prop} {w:World} {x:Ex} {cs:List Value} (h:zA5 w F x cs) (hF:∀ k,F k -> F' k):zA5 w F' x cs:=by
 induction h with
 | mk k num nm args ad cap css h0 _ ih=>exact .mk k num nm args ad cap css (h0.mono hF) ih
inductive zCM (w:World) (F:Nat -> Prop):Ac -> List Value -> Prop where
 | mk (k reg obj:Int) (ex:Ex) (count:Int) (t e:List Ac) (xs:List Value) (ta ea:Option Addr) (tc ec:Nat) (tss ess:Nat -> List Value) (hx:zA5 w F ex xs)
    (t0:zAx w F 10 t.length ta tss) (t1:∀ i x,t[i]?=some x -> zCM w F x (tss i)) (e0:zAx w F 10 e.length ea ess) (e1:∀ i x,e[i]?=some x -> zCM w F x (ess i)) :
    zCM w F (.mk k reg obj ex count t e) ([.int .i64 k, .int .i64 reg, .int .i64 obj]++xs++[.int .i64 count, .slice ta t.length tc, .slice ea e.length ec])
theorem zCM.keeps {S F:Nat -> Prop} {w w':World} {x:Ac} {cs:List Value} (h:zCM w F x cs) (hk:Keeps S w w') (hS:∀ k,F k -> ¬ S k):zCM w' F x cs:=by
 induction h with
 | mk k reg obj ex count t e xs ta ea tc ec tss ess hx t0 _ e0 _ ih1 ih2=>exact .mk k reg obj ex count t e xs ta ea tc ec tss ess (hx.keeps hk hS) (t0.keeps hk hS) ih1 (e0.keeps hk hS) ih2
inductive zBN (w:World) (F:Nat -> Prop):St -> List Value -> Prop where
 | mk (k:Int) (reg name:ByteArray) (ex:Ex) (count:Int) (t e:List St) (xs:List Value) (ta ea:Option Addr) (tc ec:Nat) (tss ess:Nat -> List Value) (hx:zA5 w F ex xs)
    (t0:zAx w F 10 t.length ta tss) (t1:∀ i x,t[i]?=some x -> zBN w F x (tss i)) (e0:zAx w F 10 e.length ea ess) (e1:∀ i x,e[i]?=some x -> zBN w F x (ess i)) :
    zBN w F (.mk k reg name ex count t e) ([.int .i64 k, .string reg, .string name]++xs++[.int .i64 count, .slice ta t.length tc, .slice ea e.length ec])
theorem zBN.keeps {S F:Nat -> Prop} {w w':World} {x:St} {cs:List Value} (h:zBN w F x cs) (hk:Keeps S w w') (hS:∀ k,F k -> ¬ S k):zBN w' F x cs:=by
 induction h with
 | mk k reg name ex count t e xs ta ea tc ec tss ess hx t0 _ e0 _ ih1 ih2=>exact .mk k reg name ex count t e xs ta ea tc ec tss ess (hx.keeps hk hS) (t0.keeps hk hS) ih1 (e0.keeps hk hS) ih2
theorem zBN.mono {F F':Nat -> Prop} {w:World} {x:St} {cs:List Value} (h:zBN w F x cs) (hF:∀ k,F k -> F' k):zBN w F' x cs:=by
 induction h with
 | mk k reg name ex count t e xs ta ea tc ec tss ess hx t0 _ e0 _ ih1 ih2=>exact .mk k reg name ex count t e xs ta ea tc ec tss ess (hx.mono hF) (t0.mono hF) ih1 (e0.mono hF) ih2
theorem zA5.len {w:World} {F:Nat -> Prop} {x:Ex} {cs:List Value} (h:zA5 w F x cs):cs.length=4:=by cases h;rfl
theorem zCM.len {w:World} {F:Nat -> Prop} {x:Ac} {cs:List Value} (h:zCM w F x cs):cs.length=10:=by
 cases h with
 | mk k reg obj ex count t e xs ta ea tc ec tss ess hx=>simp [hx.len]
theorem zBN.len {w:World} {F:Nat -> Prop} {x:St} {cs:List Value} (h:zBN w F x cs):cs.length=10:=by
 cases h with
 | mk k reg name ex count t e xs ta ea tc ec tss ess hx=>simp [hx.len]
theorem zA5.show {w:World} {F:Nat -> Prop} {x:Ex} {cs:List Value} (h:zA5 w F x cs):∃ ad cap css,cs=[.int .i64 x.kind, .int .i64 x.num, .string x.nm, .slice ad x.args.length cap] /\ zAx w F 4 x.args.length ad css /\ ∀ i y,x.args[i]?=some y -> zA5 w F y (css i):=by
 cases h with
 | mk k num nm args ad cap css h0 h1=>exact ⟨ad,cap,css,rfl,h0,h1⟩
theorem Ex.ind {P:Ex -> Prop} (h:∀ k n s l,(∀ y,y ∈ l -> P y) -> P (.mk k n s l)):(x:Ex) -> P x
 | .mk k n s l=>h k n s l (fun y hy=>Ex.ind h y)
termination_by x=>SizeOf.sizeOf x
decreasing_by
 have:=List.sizeOf_lt_of_mem hy
 simp only [Ex.mk.sizeOf_spec];omega
theorem Ex.zAY (l:List Ex):l.length <= Ex.zM l:=by
 induction l with
 | nil=>simp
 | cons x r ih=>cases x;simp only [List.length_cons,Ex.zM,Ex.cnt];omega
theorem Ex.zBx {l:List Ex} {y:Ex} (h:y ∈ l):y.cnt <= Ex.zM l:=by
 induction l with
 | nil=>cases h
 | cons x r ih =>
   simp only [Ex.zM];rcases List.mem_cons.1 h with e | e
   ·subst e;omega
   ·have:=ih e;omega
theorem Ex.zGM:(x:Ex) -> x.dep <= x.cnt:=by
 refine Ex.ind (fun k n s l ih=>?_)
 simp only [Ex.dep,Ex.cnt]
 have:Ex.zB9 l <= Ex.zM l:=by
  induction l with
  | nil=>simp [Ex.zB9]
  | cons x r ih2 =>
    have h1:=ih x (List.mem_cons_self ..);have h2:=ih2 (fun y hy=>ih y (List.mem_cons_of_mem _ hy));simp only [Ex.zB9,Ex.zM];omega
 omega
theorem drop_at {α:Type} {l:List α} {i:Nat} (h:i < l.length):l.drop i=l[i] :: l.drop (i+1):=List.drop_eq_getElem_cons h
theorem zAx.four {w:World} {F:Nat -> Prop} {n i:Nat} {ad:Option Addr} {css:Nat -> List Value} {a b c d:Value} (h:zAx w F 4 n ad css) (hi:i < n) (hc:css i=[a,b,c,d]) :
 ∃ g o,ad=some ⟨g,o,none⟩ /\ F g /\ w.cell? ⟨g,o+i*4,none⟩=some a /\ w.cell? ⟨g,o+i*4+1,none⟩=some b /\ w.cell? ⟨g,o+i*4+2,none⟩=some c /\ w.cell? ⟨g,o+i*4+3,none⟩=some d:=by
 obtain ⟨g,o,e,hg,hl,hs⟩:=h i hi;rw [hc] at hs;exact ⟨g,o,e,hg,hs 0 _ rfl,hs 1 _ rfl,hs 2 _ rfl,hs 3 _ rfl⟩
def zR (w:World) (F:Nat -> Prop) (l:List Ex) (ad:Option Addr):Prop:=∃ css,zAx w F 4 l.length ad css /\ ∀ i y,l[i]?=some y -> zA5 w F y (css i)
theorem zR.keeps {S F:Nat -> Prop} {w w':World} {l:List Ex} {ad:Option Addr} (h:zR w F l ad) (hk:Keeps S w w') (hS:∀ k,F k -> ¬ S k):zR w' F l ad:=by
 exact J73 _
theorem zR.mono {F F':Nat -> Prop} {w:World} {l:List Ex} {ad:Option Addr} (h:zR w F l ad) (hF:∀ k,F k -> F' k):zR w F' l ad:=by
 exact J80 _
theorem zR.at {w:World} {F:Nat -> Prop} {l:List Ex} {ad:Option Addr} (h:zR w F l ad) {i:Nat} (hi:i < l.length) :
 ∃ g o a c,ad=some ⟨g,o,none⟩ /\ F g /\ w.cell? ⟨g,o+i*4,none⟩=some (.int .i64 l[i].kind) /\ w.cell? ⟨g,o+i*4+1,none⟩=some (.int .i64 l[i].num) /\ w.cell? ⟨g,o+i*4+2,none⟩=some (.string l[i].nm) ∧
   w.cell? ⟨g,o+i*4+3,none⟩=some (.slice a l[i].args.length c) /\ zR w F l[i].args a:=by
 obtain ⟨css,h0,h1⟩:=h;obtain ⟨a,c,css',e,h2,h3⟩:=(h1 i l[i] (List.getElem?_eq_getElem hi)).show
 obtain ⟨g,o,e1,hg,c0,c1,c2,c3⟩:=h0.four hi e;exact ⟨g,o,a,c,e1,hg,c0,c1,c2,c3,css',h2,h3⟩
def exV (x:Ex) (ad:Option Addr) (cap:Nat):Value:=.agg #[.int .i64 x.kind, .int .i64 x.num, .string x.nm, .slice ad x.args.length cap]
theorem zA5.exs {w:World} {F:Nat -> Prop} {x:Ex} {cs:List Value} (h:zA5 w F x cs):∃ ad cap,cs=[.int .i64 x.kind, .int .i64 x.num, .string x.nm, .slice ad x.args.length cap] /\ zR w F x.args ad:=by
 obtain ⟨ad,cap,css,e,h1,h2⟩:=h.show
 exact ⟨ad,cap,e,css,h1,h2⟩
theorem zA5.zI4 {w:World} {F:Nat -> Prop} {x:Ex} {ad:Option Addr} {cap:Nat} (h:zR w F x.args ad):zA5 w F x [.int .i64 x.kind, .int .i64 x.num, .string x.nm, .slice ad x.args.length cap]:=by
 obtain ⟨css,h1,h2⟩:=h;cases x;exact .mk _ _ _ _ ad cap css h1 h2
theorem zDV:∀ (x:Ex) (w:World) (F:Nat -> Prop) (ad:Option Addr) (cap:Nat),zR w F x.args ad -> x.cnt < 1000000000 →
 Calls Tryz.prog 98 #[exV x ad cap] w fun e w'=>e=.returned (.int .i64 x.cnt) /\ Keeps zA w w':=by
 refine Ex.ind (fun k num nm l ih w F ad cap h hb=>?_)
 have HL:Hid (zR w F l ad):=h;have IH:=Lib.hid ih;have hl:=Ex.zAY l;have hcn:Ex.cnt (.mk k num nm l)=1+Ex.zM l:=by simp [Ex.cnt]
 rw [hcn] at hb ⊢;clear h ih hcn;obtain ⟨tot,ht⟩:=eX (Ex.zM l);have HT:=Lib.hid ht;rw [<- ht] at hb hl ⊢;clear ht;show Calls _ _ #[.agg #[.int .i64 k, .int .i64 num, .string nm, .slice ad l.length cap]] _ _
 go_enter Tryz.func98,Tryz.ntmps98
 go_upto_region 1 with fail
 obtain ⟨b1,hb1⟩:=eX w.heap.size;have hr1:zC (w.alloc (.cells #[.int .i64 k, .int .i64 num, .string nm, .slice ad l.length cap] 144)) b1 [.int .i64 k, .int .i64 num, .string nm, .slice ad l.length cap]:=J150 _;have hk1:Keeps zA w (w.alloc (.cells #[.int .i64 k, .int .i64 num, .string nm, .slice ad l.length cap] 144)):=(Keeps.refl _ _).alloc _;rw [<- hb1];generalize w.alloc (.cells #[.int .i64 k, .int .i64 num, .string nm, .slice ad l.length cap] 144)=w1 at hr1 hk1 ⊢;have R1:=Lib.hid hr1;have K1:=Lib.hid hk1;have c3:=hr1.cell (k:=3) (v:=.slice ad l.length cap) rfl;clear hr1 hk1 hb1;go_wp2_with fail
 go_loopw [3,4] (fun nv iv wr=>∃ i n:Nat,i <= l.length /\ nv=.int .i64 n /\ iv=.int .i64 i /\ Hid (n+Ex.zM (l.drop i)=1+tot) /\ Hid (Keeps zA w1 wr)) (fun _ iv _=>l.length - (intOf iv).toNat)
 case atStart=>exact ⟨0,1,Nat.zero_le _,rfl,rfl,by show _=_;rw [List.drop_zero,HT.out],Keeps.refl _ _⟩
 case round =>
  obtain ⟨i,n,hi,rfl,rfl,HN,HK⟩:=hrel;have c3':=(R1.out.keeps HK.out (fun h=>h)).cell (k:=3) (v:=.slice ad l.length cap) rfl;clear c3;by_cases hlt:i < l.length
  ·have i1:(0:Int) <= i:=by omega
   have i2:(i:Int) < l.length:=by omega
   have hd:=HN.out;rw [drop_at hlt,Ex.zM] at hd;obtain ⟨g,o,a,c,e1,hg,d0,d1,d2,d3,hx⟩:=(HL.out.keeps (K1.out.zB HK.out) (fun _ _ h=>h)).at hlt;subst e1;have HC:Hid (∀ W,Keeps zA wr W -> Calls Tryz.prog 98 #[.agg #[.int .i64 l[i].kind, .int .i64 l[i].num, .string l[i].nm, .slice a l[i].args.length c]] W fun e w'=>e=.returned (.int .i64 l[i].cnt) /\ Keeps zA W w'):=fun W hk=>IH.out _ (List.getElem_mem hlt) W F a c (hx.keeps hk (fun _ _ h=>h)) (by omega)
   obtain ⟨m,hm⟩:=eX (l[i].cnt);rw [<- hm] at HC hd;have HD:=Lib.hid hd;have b1:n+m < 1000000001:=by omega
   clear hx hm hd;generalize l[i].kind=x0 at d0 HC;generalize l[i].num=x1 at d1 HC;generalize l[i].nm=x2 at d2 HC;generalize l[i].args.length=x3 at d3 HC;go_wp2_with (go_at_call 98;refine (HC.out _ (Keeps.refl _ _)).mono ?_;rintro e w2 ⟨rfl,g1⟩;have G1:=Lib.hid g1;clear g1)
   exact J90 _
  ·obtain rfl:i=l.length:=by omega
   have hd:=HN.out;rw [List.drop_length] at hd;simp only [Ex.zM] at hd;exact J39 _
end Go.Proofs.YtoapgjjepiopbaaGreatDoor
