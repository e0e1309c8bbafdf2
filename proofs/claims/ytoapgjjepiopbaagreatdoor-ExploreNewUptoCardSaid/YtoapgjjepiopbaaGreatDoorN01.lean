/- Layer N: texts joined. -/
import Derived.Test.YtoapgjjepiopbaaGreatDoorRows
import Derived.WalkSpells
import Derived.WalkLawsBesides
import Derived.Lib.Hide
import Derived.BigQuiet
import Derived.Deep.RegionHeld3
import Derived.Deep.AppendLies
import Derived.Deep.RegionLaw
import Derived.Deep.Cut
import Derived.StillTailTactics
set_option linter.all false
namespace Go.Proofs.YtoapgjjepiopbaaGreatDoor
open Go.RowKit
theorem J10 (P:Prop) (h:P:=by
 apply Array.ext
 ·rw [inv.size];simp [zo];omega
 ·intro k h1 h2
  by_cases hk:k < n
  ·have:=hall k hk
   simp only [Array.getD,h1,dif_pos] at this;rw [show listed[k]=true from this];simp [zo,hk,List.getElem_append]
  ·have hk2:k < l.toArray.size:=by rw [<- inv.size];exact h1
   have:=inv.tail k (by omega) hk2
   simp only [Array.getD,h1,dif_pos] at this;rw [show listed[k]=false from this];simp [zo,hk,List.getElem_append]):P:=h
theorem J17 (P:Prop) (h:P:=by
 simp only [Array.any_eq_true',Bool.and_eq_true,decide_eq_true_eq] at hj;obtain ⟨e,he,hb,rfl⟩:=hj;have h1:=hafter e he hb
 have hle:e.on < i:=by
  have h1:=List.all_eq_true.1 hback i (List.mem_range.2 hin);simp only [ho',Option.map_some,Option.getD_some,Array.all_eq_true_iff_forall_mem] at h1;have h2:=h1 e he;simpa only [hb,Bool.not_true,Bool.false_or,decide_eq_true_eq] using h2
 have h4:e.on < listed.size:=by rw [inv.size];simp;omega
 exact hF e.on (by omega) (by simpa [h4] using h1)):P:=h
theorem J19 (P:Prop) (h:P:=by
 have hil:i0 < l.length:=by omega
 rw [mem_ready];refine ⟨hu0,l[i0],by simp [hil],fun e he hb=>?_⟩
 have h1:=List.all_eq_true.1 hback i0 (List.mem_range.2 hi0);simp only [List.getElem?_eq_getElem hil,Option.map_some,Option.getD_some,Array.all_eq_true_iff_forall_mem] at h1;have h2:=h1 e he;simp only [hb,Bool.not_true,Bool.false_or,decide_eq_true_eq] at h2;have h3:=hb0 e.on h2;have h4:e.on < listed.size:=by rw [inv.size];simp;omega
 simpa [h4] using h3):P:=h
theorem J20 (P:Prop) (h:P:=by
 subst htn;have h1:=List.all_eq_true.1 hs i (List.mem_range.2 hi);simp only [Bool.or_eq_true,decide_eq_true_eq] at h1;rcases h1 with h1 | h1
 ·exact absurd h1 hip
 obtain ⟨j,hj,hj2⟩:=List.any_eq_true.1 h1;simp only [Bool.and_eq_true,decide_eq_true_eq] at hj2;obtain ⟨oj,hoj,e,he,hb,hon⟩:=Region.waitsFor_spec hj2.2;have hjle:j <= t:=by have:=List.mem_range.1 hj;omega
 by_cases hjt:j=t
 ·subst hjt
  have:oj=ot:=Option.some.inj (hoj.symm.trans hot)
  subst this;have h2:=hall e he hb;rw [hon,getD_both hun] at h2;cases h2
 ·cases hl:listed.getD j false with
  | true =>
    have h2:=inv.closed j oj hoj hl e he hb;rw [hon,getD_both hun] at h2;cases h2
  | false =>
    have hjs:j < listed.size:=by rw [inv.size];omega
    exact ih (t - j) (by omega) j rfl hj2.1.2 (by omega) (getD_in hjs hl) t (Nat.le_refl _) hr):P:=h
theorem J29 (P:Prop) (h:P:=by
 have hd:o.dst=(l[i]?).bind (·.dst):=by rw [ho'];rfl
 show wpAny P .any l.toArray Q (f+(l.length - n)) (listed.setIfInBounds i true) ((zJ l vs a n).put o.dst v) W'
 rw [hd,zBU v n vs hin (hdis n (by omega)) (fun m hm=>hdis m (by omega))];refine ih _ _ _ (inv.set hi hin) ?_ (htrans _ _ _ hR hR') (fun j hj hl=>?_)
 ·have:=zCV hun n
  rw [if_pos hin] at this;omega
 ·by_cases e:j=i
  ·subst e;rw [if_pos rfl];exact hF'
  ·rw [if_neg e]
   rw [getD_set_ne true (fun h=>e h.symm)] at hl;exact hst j _ _ _ (hF j hj hl) hR'):P:=h
theorem J33 (P:Prop) (h:P:=by
 intro m
 induction m with
 | zero=>intro _;rfl
 | succ m ih =>
   intro hm
   unfold zBO;rw [ih (by omega)]
   have:(Array.replicate l.toArray.size false).getD m true=false:=by
    have:m < l.length:=by omega
    simp [this]
   rw [this];simp):P:=h
theorem J40 (P:Prop) (h:P:=by
 have h1:=List.all_eq_true.1 hc t (List.mem_range.2 htlt);simp only [Bool.or_eq_true,decide_eq_true_eq] at h1;rcases h1 with h1 | h1
 ·omega
 ·obtain ⟨o',ho',e,he,hb,hon⟩:=Region.waitsFor_spec h1
  have:o'=ot:=Option.some.inj (ho'.symm.trans hot)
  subst this;have h2:=hall e he hb;rw [hon,getD_both (inv.tail (t - 1) (by omega) (by omega))] at h2;cases h2):P:=h
theorem J44 (P:Prop) (h:P:=by
 by_cases e:j=i
 ·subst e;rw [if_pos rfl];exact hF'
 ·rw [if_neg e]
  rw [getD_set_ne true (fun h=>e h.symm)] at hl;refine hloc _ _ gs _ _ (fun b hb=>?_) (hst j _ _ _ _ (hF j hj hl) hR')
  have h1:=hL j hj hl b hb;have h2:b ≠ i:=fun e=>by subst e;rw [hun] at h1;cases h1
  exact (if_neg h2).symm):P:=h
theorem J65 (P:Prop) (h:P:=by simp [Array.getElem_setIfInBounds,hpk,zo,hk,List.getElem_append]):P:=h
theorem J69 (P:Prop) (h:P:=by
 subst hkp;have:=hup
 simp only [Array.getD,h1,dif_pos] at this;rw [show listed[k]=false from this];first | exact (Array.getElem_setIfInBounds_self _).symm | (rw [Array.getElem_setIfInBounds];simp)):P:=h
theorem J97 (P:Prop) (h:P:=by
 rcases Nat.lt_or_ge i n with h | h
 ·exact h
 ·exact absurd hi (tail_waits hs hc (by simpa using hn) inv _ i0 rfl hi0 hu0 i h)):P:=h
theorem J103 (P:Prop) (h:P:=by
 have h5:e.on < listed.size:=by rw [inv.size];simp;omega
 exact hL e.on (by omega) (by simpa [h5] using h4) b h3):P:=h
theorem J113 (P:Prop) (h:P:=by
 cases e:listed.getD i true with
 | true=>rfl
 | false=>exact absurd ⟨i,hi,hip,e⟩ hno):P:=h
theorem J191 (P:Prop) (h:P:=by rw [h0] at hr0;exact absurd hr0 (by simp)):P:=h
theorem J195 (P:Prop) (h:P:=by rw [getD_replicate_false] at hl;cases hl):P:=h
theorem eX {α:Sort _} (a:α):∃ z,z=a:=⟨a,rfl⟩
structure Keeps (S:Nat -> Prop) (w w':World):Prop where
 os:w'.os=w.os
 tape:w'.tape=w.tape
 output:w'.output=w.output
 size:w.heap.size <= w'.heap.size
 block:∀ k,k < w.heap.size -> ¬ S k -> w'.heap[k]?=w.heap[k]?
namespace Keeps
variable {S S':Nat -> Prop} {w w' w'':World}
theorem refl (S:Nat -> Prop) (w:World):Keeps S w w:=⟨rfl,rfl,rfl,Nat.le_refl _,fun _ _ _=>rfl⟩
theorem trans (h:Keeps S w w') (k:Keeps S' w' w'') (hs:∀ k,k < w.heap.size -> S' k -> S k):Keeps S w w'' :=
 ⟨k.os.trans h.os,k.tape.trans h.tape,k.output.trans h.output,Nat.le_trans h.size k.size,
  fun i hi hn=>(k.block i (Nat.lt_of_lt_of_le hi h.size) (fun h'=>hn (hs i hi h'))).trans (h.block i hi hn)⟩
theorem mono (h:Keeps S' w w') (hs:∀ k,k < w.heap.size -> S' k -> S k):Keeps S w w' :=
 ⟨h.os,h.tape,h.output,h.size,fun i hi hn=>h.block i hi (fun h'=>hn (hs i hi h'))⟩
theorem drewN (h:Keeps S w w') (n:Nat):Keeps S w (w'.drewN n):=⟨h.os,h.tape,h.output,h.size,h.block⟩
theorem drew (h:Keeps S w w'):Keeps S w w'.drew:=⟨h.os,h.tape,h.output,h.size,h.block⟩
theorem alloc (h:Keeps S w w') (o:Obj):Keeps S w (w'.alloc o) :=
 h.trans (S':=fun _=>False) ⟨rfl,rfl,rfl,by simp,fun k hk _=>Below.heap_alloc _ _ _ hk⟩ (fun _ _ h=>h.elim)
theorem setCell (h:Keeps S w w') {p:Addr} (hp:p.block < w.heap.size -> S p.block) (u:Value):Keeps S w (w'.setCell p u) :=
 h.trans (S':=fun k=>k=p.block) ⟨rfl,rfl,rfl,by simp [World.setCell],fun k _ hn=>Below.heap_setCell _ _ _ _ hn⟩ (fun k hk e=>by subst e;exact hp hk)
theorem grown (h:Keeps S w w') {row:Option Nat} (hg:w'.grownBy w'' row) (hr:∀ k,row=some k -> k < w.heap.size -> S k):Keeps S w w'' :=
 h.trans (S':=fun k=>row=some k) ⟨hg.os,hg.tape,hg.output,hg.size,fun k hk hn=>hg.block k hk (fun e=>hn e.symm)⟩ (fun k hk e=>hr k e hk)
theorem cell (h:Keeps S w w') {p:Addr} {v:Value} (hp:¬ S p.block) (hc:w.cell? p=some v):w'.cell? p=some v :=
 (World.cell?_of_block (h.block p.block (World.block_lt_of_cell? w p hc) hp)).trans hc
theorem heap (h:Keeps S w w') {k:Nat} {o:Obj} (hp:¬ S k) (hc:w.heap[k]?=some o):w'.heap[k]?=some o :=
 (h.block k (lt_of_block hc) hp).trans hc
theorem below (h:Keeps S w w') {B:Nat} (hs:∀ k,k < w.heap.size -> S k -> B <= k) (hB:B <= w.heap.size):Below B w w' :=
 ⟨h.os,h.tape,h.output,h.size,fun k hk=>h.block k (by omega) (fun h'=>by have:=hs k (by omega) h';omega)⟩
theorem zBv (h:Below w.heap.size w w') (S:Nat -> Prop):Keeps S w w':=⟨h.os,h.tape,h.output,h.size,fun k hk _=>h.block k hk⟩
end Keeps
theorem zW (W:World) (o1 o2:Obj):((W.alloc o1).alloc o2).heap[W.heap.size+1]?=some o2:=by
 have h:=heap_alloc_new (W.alloc o1) o2;have e:(W.alloc o1).heap.size=W.heap.size+1:=by simp
 rw [e] at h;exact h
def zA:Nat -> Prop:=fun _=>False
theorem zF {S:Nat -> Prop} {w w':World} {base e size n:Nat} {v:Value} {xs:List Value} (h:w.ownsRow base e size v n xs) (hk:Keeps S w w') (hn:∀ k,v.ownBlock=some k -> ¬ S k):w'.ownsRow base e size v n xs:=by
 obtain ⟨h1,h2⟩:=h;refine ⟨h1,?_⟩
 rcases h2 with h2 | ⟨g,cap,cur,hv,hg,hh,r⟩
 ·exact Or.inl h2
 ·exact Or.inr ⟨g,cap,cur,hv,hg,hk.heap (hn g (by rw [hv];rfl)) hh,r⟩
theorem zAC {α:Type} (f:α -> List Value) (k:Nat) (hf:∀ x,(f x).length=k) (L:List α):(L.flatMap f).length=L.length*k:=by
 induction L with
 | nil=>simp
 | cons x L ih=>simp only [List.flatMap_cons,List.length_append,hf,ih,List.length_cons];rw [Nat.add_mul];omega
theorem zAu {α:Type} (f:α -> List Value) (k:Nat) (hf:∀ x,(f x).length=k) (L:List α) (i j:Nat) (hj:j < k):(L.flatMap f)[i*k+j]?=(L[i]?).bind fun x=>(f x)[j]?:=by
 induction L generalizing i with
 | nil=>simp
 | cons x L ih =>
   rw [List.flatMap_cons];cases i with
   | zero=>rw [Nat.zero_mul,Nat.zero_add,List.getElem?_append_left (by rw [hf];exact hj)];simp
   | succ i =>
     have e:(i+1)*k+j=(f x).length+(i*k+j):=by rw [hf,Nat.add_mul];omega
     rw [e,List.getElem?_append_right (by omega),Nat.add_sub_cancel_left,ih];simp
theorem zCe {α:Type} (f:α -> List Value) (k:Nat) (hf:∀ x,(f x).length=k) (L:List α) (i j:Nat) (hj:j < k) (u:Value) (x y:α) (hx:L[i]?=some x) (hy:f y=(f x).set j u) :
 (L.flatMap f).set (i*k+j) u=(L.set i y).flatMap f:=by
 induction L generalizing i with
 | nil=>simp at hx
 | cons z L ih =>
   rw [List.flatMap_cons];cases i with
   | zero =>
     simp only [List.getElem?_cons_zero,Option.some.injEq] at hx;subst hx;rw [Nat.zero_mul,Nat.zero_add,List.set_append_left _ _ (by rw [hf];exact hj),List.set_cons_zero,List.flatMap_cons,hy]
   | succ i =>
     have e:(i+1)*k+j=(f z).length+(i*k+j):=by rw [hf,Nat.add_mul];omega
     rw [e,List.set_append_right _ _ (by omega),Nat.add_sub_cancel_left,List.set_cons_succ,List.flatMap_cons,ih i (by simpa using hx)]
def zAa (w:World) (v:Value) (xs:List Int):Prop :=
 ∃ ad cap,v=.slice ad xs.length cap /\ (ad=none -> xs=[]) /\ ∀ g o s,ad=some ⟨g,o,s⟩ -> s=none /\ ∀ i,i < xs.length -> w.cell? ⟨g,o+i,none⟩=some (.int .i64 (xs.getD i 0))
theorem zAa.keeps {S:Nat -> Prop} {w w':World} {v:Value} {xs:List Int} (h:zAa w v xs) (hk:Keeps S w w') (hn:∀ k,v.ownBlock=some k -> ¬ S k):zAa w' v xs:=by
 obtain ⟨ad,cap,rfl,h1,h2⟩:=h;refine ⟨ad,cap,rfl,h1,fun g o s e=>⟨(h2 g o s e).1,fun i hi=>?_⟩⟩
 exact hk.cell (hn g (by rw [e];rfl)) ((h2 g o s e).2 i hi)
theorem zAa.len {w:World} {v:Value} {xs:List Int} (h:zAa w v xs):∃ ad cap,v=.slice ad xs.length cap:=by
 obtain ⟨ad,cap,e,_⟩:=h;exact ⟨ad,cap,e⟩
theorem zJA (xs:List Int) (i:Nat) (hi:i < xs.length):(xs.map (Value.int .i64))[i]?=some (.int .i64 (xs.getD i 0)):=by
 rw [List.getElem?_map,List.getElem?_eq_getElem hi];simp [List.getD,hi]
theorem zAa.ofRow {w:World} {e:TypeId} {base:Nat} {v:Value} {xs:List Int} (h:w.ownsRow base e 1 v xs.length (xs.map (Value.int .i64))):zAa w v xs:=by
 rcases h.2 with ⟨hv,hn⟩ | ⟨g,cap,cur,hv,hg,hh,r⟩
 ·exact ⟨none,0,by rw [hv,hn],fun _=>List.eq_nil_of_length_eq_zero hn,fun g o s e=>by cases e⟩
 ·refine ⟨_,cap,hv,fun e=>by (cases e),fun g' o s e=>?_⟩
  cases e;refine ⟨rfl,fun i hi=>?_⟩
  rw [Nat.zero_add];subst hv;rw [h.cellAt i (by omega)];exact zJA xs i hi
theorem zH2 {α:Type} (f:α -> List Value) (k:Nat) (hf:∀ x,(f x).length=k) (L:List α) (n:Nat):(L.flatMap f).take (n*k)=(L.take n).flatMap f:=by
 induction L generalizing n with
 | nil=>simp
 | cons z L ih =>
   cases n with
   | zero=>simp
   | succ n =>
     rw [List.flatMap_cons,List.take_succ_cons,List.flatMap_cons,List.take_append,hf,List.take_of_length_le (by rw [hf,Nat.add_mul];omega)];congr 1
     rw [show (n+1)*k - k=n*k by rw [Nat.add_mul];omega];exact ih n
def zJ (l:List Oper) (vs:Nat -> Value) (a:Act):Nat -> Act
 | 0=>a
 | n+1=>(zJ l vs a n).put ((l[n]?).bind (·.dst)) (vs n)
theorem zEJ {l:List Oper} {vs us:Nat -> Value} {a:Act}:∀ n,(∀ j,j < n -> vs j=us j) -> zJ l vs a n=zJ l us a n
 | 0,_=>rfl
 | n+1,h=>by
   unfold zJ;rw [zEJ n (fun j hj=>h j (by omega)),h n (by omega)]
theorem zMv (a:Act) (d:Option Tmp) (u v:Value):(a.put d u).put d v=a.put d v:=by
 cases d with
 | none=>rfl
 | some d=>simp [Act.put]
def zBz (l:List Oper) (n:Nat):Bool :=
 (List.range n).all fun i=>(List.range n).all fun j=>decide (i=j) || ((l[i]?).bind (·.dst)).isNone || decide ((l[i]?).bind (·.dst) ≠ (l[j]?).bind (·.dst))
theorem zFg {l:List Oper} {n:Nat} (h:zBz l n=true) {i j:Nat} (hi:i < n) (hj:j < n) (hne:i ≠ j):∀ d,(l[i]?).bind (·.dst)=some d -> (l[j]?).bind (·.dst) ≠ some d:=by
 intro d hd
 have h1:=List.all_eq_true.1 (List.all_eq_true.1 h i (List.mem_range.2 hi)) j (List.mem_range.2 hj);simp only [Bool.or_eq_true,decide_eq_true_eq,hne,false_or,hd,Option.isNone_some,Bool.false_eq_true] at h1;exact fun e=>h1 e.symm
theorem zBU {l:List Oper} {a:Act} {i:Nat} (v:Value):∀ (n:Nat) (vs:Nat -> Value),i < n -> zBz l n=true -> (∀ m,m <= n -> zBz l m=true) →
 (zJ l vs a n).put ((l[i]?).bind (·.dst)) v=zJ l (fun j=>if j=i then v else vs j) a n
 | 0,vs,h,_,_=>absurd h (Nat.not_lt_zero _)
 | n+1,vs,h,hd,hall=>by
   unfold zJ;by_cases e:n=i
   ·subst e
    rw [zMv,if_pos rfl];congr 1
    exact zEJ n (fun j hj=>by rw [if_neg (by omega)])
   ·rw [if_neg e,<- zBU v n vs (by omega) (hall n (by omega)) (fun m hm=>hall m (by omega))]
    exact Act.put_comm _ _ _ (zFg hd (by omega) (by omega) e)
theorem zKK (a:Act) (d:Option Tmp):a.put d (match d with | some s=>a.tmps.getD s undef | none=>undef)=a:=by
 cases d with
 | none=>rfl
 | some s =>
   obtain ⟨t,df⟩:=a;simp only [Act.put,Act.mk.injEq,and_true];apply Array.ext
   ·simp
   ·intro k h1 h2
    by_cases e:s=k
    ·subst e;simp [h2]
    ·exact Array.getElem_setIfInBounds_ne h2 e
def slotsOf (l:List Oper) (a:Act) (j:Nat):Value:=match (l[j]?).bind (·.dst) with | some s=>a.tmps.getD s undef | none=>undef
theorem zBe (l:List Oper) (a:Act):∀ n,zJ l (slotsOf l a) a n=a
 | 0=>rfl
 | n+1=>by
   unfold zJ;rw [zBe l a n];exact zKK a _
def zBO (listed:Array Bool):Nat -> Nat
 | 0=>0
 | n+1=>zBO listed n+(if listed.getD n true=true then 0 else 1)
theorem zCV {listed:Array Bool} {i:Nat} (hi:listed.getD i true=false):∀ n,zBO (listed.setIfInBounds i true) n+(if i < n then 1 else 0)=zBO listed n
 | 0=>rfl
 | n+1=>by
   have ih:=zCV hi n;unfold zBO;by_cases e:i=n
   ·subst e
    have h2:(listed.setIfInBounds i true).getD i true=true:=by
     by_cases hs:i < listed.size
     ·simp [hs]
     ·simp [hs]
    rw [hi,h2];simp at ih ⊢
    exact ih
   ·rw [getD_set_ne true e]
    by_cases hl:i < n
    ·rw [if_pos hl] at ih;rw [if_pos (by omega:i < n+1)];omega
    ·rw [if_neg hl] at ih;rw [if_neg (by omega:¬ i < n+1)];omega
theorem zB0 {listed:Array Bool}:∀ n,zBO listed n=0 -> ∀ i,i < n -> listed.getD i true=true
 | 0,_,_,h=>absurd h (Nat.not_lt_zero _)
 | n+1,h,i,hi=>by
   unfold zBO at h;by_cases e:i=n
   ·subst e
    by_cases h2:listed.getD i true=true
    ·exact h2
    ·rw [if_neg h2] at h;omega
   ·exact zB0 n (by omega) i (by omega)
theorem zA9 {listed:Array Bool}:∀ n,zBO listed n ≠ 0 -> ∃ i,i < n /\ listed.getD i true=false /\ ∀ j,j < i -> listed.getD j true=true
 | 0,h=>absurd rfl h
 | n+1,h=>by
   by_cases h0:zBO listed n=0
   ·refine ⟨n,by omega,?_,zB0 n h0⟩
    unfold zBO at h;rw [h0] at h;by_cases h2:listed.getD n true=true
    ·rw [if_pos h2] at h;omega
    ·simpa using h2
   ·obtain ⟨i,h1,h2,h3⟩:=zA9 n h0
    exact ⟨i,by omega,h2,h3⟩
def zKY (md:Region.Mode) (l:List Oper) (n:Nat):Bool :=
 (List.range n).all fun i=>((l[i]?).map fun o=>o.after.all fun e=>!Region.binds md e || decide (e.on < i)).getD true
def zo (n g:Nat):Array Bool:=(List.replicate n true++List.replicate g false).toArray
def zGZ (md:Region.Mode) (l:List Oper) (n:Nat):Bool :=
 decide (n < l.length)&&Region.sinkB md l.toArray n&&Region.chainB md l.toArray n&&zKY md l n&&((List.range (n+1)).all fun m=>zBz l m)&&Region.seqB md l.toArray (l.length - n) n (zo n (l.length - n))
section
variable {P:Program}
def zPG (Q:Exit -> Act -> World -> Prop) (K:Act -> World -> Prop):Exit -> Act -> World -> Prop
 | .normal,a,w=>K a w
 | e,a,w=>Q e a w
theorem zMr {o:Oper} {a:Act} {w:World} {K:Act -> World -> Prop} {Q:Exit -> Act -> World -> Prop} (h:o.wp P a w K (zPG Q K)):o.wp P a w K Q:=by
 unfold Oper.wp at *;generalize (execOp a.eval o).run P w=r at *;cases r with
 | ok n w' =>
   cases n <;> simp only [Oper.upon] at h ⊢ <;>
    first
     | exact h
     | exact Calls.mono h (fun e w'' he=>by cases e <;> exact he)
 | halt x w'=>cases x <;> simp only [Oper.upon] at h ⊢ <;> exact h
theorem zBw {ops:Array Oper} {o:Oper} {i:Nat} {a:Act} {w:World} {K:Act -> World -> Prop} {Q:Exit -> Act -> World -> Prop} (hi:ops[i]?=some o) (h:wpList P ops (zPG Q K) [o] a w):wpOp P ops Q i K a w:=by
 unfold wpOp;simp only [hi];unfold wpList at h;split
 ·rename_i hw
  rw [if_pos hw] at h;rcases h with h | ⟨h1,h2⟩
  ·exact .inl (zMr h)
  ·exact .inr ⟨h1,h2⟩
 ·rename_i hw
  rw [if_neg hw] at h;exact h
theorem ze {id:Nat} {Q:Exit -> Act -> World -> Prop} {a:Act} {w:World} {l:List Oper} (n:Nat) (hm:P.follows .mixedOrders=true) (hB:zGZ .any l n=true)
 (R:World -> World -> Prop) (hrefl:∀ w,R w w) (htrans:∀ a b c,R a b -> R b c -> R a c) (F:Nat -> Value -> World -> Prop) (hst:∀ j v W W',F j v W -> R W W' -> F j v W')
 (hstep:∀ i o,i < n -> l[i]?=some o -> ∀ (vs:Nat -> Value) (W:World) (Q':Exit -> Act -> World -> Prop),R w.drew W -> (∀ j,(o.after.any fun e=>Region.binds .any e&&decide (e.on=j))=true -> F j (vs j) W) →
   (∀ v W',R W W' -> F i v W' -> Q' .normal ((zJ l vs a n).put o.dst v) W') -> wpList P l.toArray Q' [o] (zJ l vs a n) W)
 (htail:∀ (vs:Nat -> Value) (W:World),R w.drew W -> (∀ j,j < n -> F j (vs j) W) -> wpList P l.toArray Q (l.drop n) (zJ l vs a n) W):(Code.region id l.toArray true).wp P Q a w:=by
 simp only [zGZ,Bool.and_eq_true,decide_eq_true_eq,List.all_eq_true,List.mem_range] at hB;obtain ⟨⟨⟨⟨⟨hn,hs⟩,hc⟩,hback⟩,hdis⟩,hseq⟩:=hB
 have key:∀ (f:Nat) (listed:Array Bool) (vs:Nat -> Value) (W:World),HeadInv .any l.toArray n listed -> zBO listed n=f -> R w.drew W -> (∀ j,j < n -> listed.getD j true=true -> F j (vs j) W) →
  wpAny P .any l.toArray Q (f+(l.length - n)) listed (zJ l vs a n) W:=by
  intro f
  induction f with
  | zero =>
    intro listed vs W inv hcnt hR hF
    have hall:=zB0 n hcnt
    have he:listed=zo n (l.length - n):=by
     exact J10 _
    have h1:=htail vs W hR (fun j hj=>hF j hj (hall j hj));have hdl:(l.drop n).length=l.length - n:=by simp
    have:=wpAny_of_seq (P:=P) (md:=.any) (ops:=l.toArray) (Q':=Q) (l.drop n) n listed (zJ l vs a n) W (fun j=>by simp [List.getElem?_drop]) (by rw [hdl,he];exact hseq) h1
    rw [hdl] at this;rw [Nat.zero_add];exact this
  | succ f ih =>
    intro listed vs W inv hcnt hR hF
    obtain ⟨i0,hi0,hu0,hb0⟩:=zA9 n (by omega:zBO listed n ≠ 0)
    have hr0:i0 ∈ Region.ready .any l.toArray listed:=by
     exact J19 _
    rw [show f+1+(l.length - n)=(f+(l.length - n))+1 by omega];refine ⟨fun h0=>by exact J191 _,fun i hi=>?_⟩
    have hin:i < n:=by
     exact J97 _
    have hun:=(mem_ready.1 hi).1;obtain ⟨_,o,ho,hafter⟩:=mem_ready.1 hi;have ho':l[i]?=some o:=by simpa using ho
    refine zBw ho (hstep i o hin ho' vs W _ hR (fun j hj=>?_) (fun v W' hR' hF'=>?_))
    ·exact J17 _
    ·exact J29 _
 refine wp_region_any hm ?_
 have inv0:HeadInv .any l.toArray n (Array.replicate l.toArray.size false) :=
  ⟨by simp,fun j oj _ hl=>(J195 _),fun t _ ht=>getD_in (by simpa using ht) (getD_replicate_false _ _)⟩
 have hcn:∀ m,m <= l.length -> zBO (Array.replicate l.toArray.size false) m=m:=by
  exact J33 _
 have:=key n (Array.replicate l.toArray.size false) (slotsOf l a) w.drew inv0 (hcn n (by omega)) (hrefl _) (fun j hj hl=>by
  have h1:j < l.length:=by omega
  have:(Array.replicate l.toArray.size false).getD j true=false:=by simp [h1]
  rw [this] at hl;cases hl)
 rw [zBe l a n,show n+(l.length - n)=l.toArray.size by simp;omega] at this;exact this
end
def zFL (gs:Nat -> Nat × Nat) (i:Nat) (p:Nat × Nat) (j:Nat):Nat × Nat:=if j=i then p else gs j
def zD6 (md:Region.Mode) (l:List Oper) (n:Nat) (D:Nat -> List Nat):Bool :=
 (List.range n).all fun i=>((l[i]?).map fun o=>(D i).all fun a=>decide (a=i) || o.after.any fun e=>Region.binds md e&&(D e.on).contains a).getD true
def zLD (md:Region.Mode) (ops:Array Oper) (n p:Nat):Bool :=
 (List.range n).all fun i=>decide (i=p) || (List.range (n+1)).any fun j=>decide (i < j)&&decide (j ≠ p)&&Region.waitsFor md ops j i
theorem zHK {md:Region.Mode} {ops:Array Oper} {n p:Nat} {listed:Array Bool} (hs:zLD md ops n p=true) (hc:Region.chainB md ops n=true) (hn:n < ops.size) (inv:HeadInv md ops n listed) :
 ∀ (d i:Nat),n - i=d -> i ≠ p -> i < n -> listed.getD i true=false -> ∀ t,n <= t -> t ∉ Region.ready md ops listed:=by
 intro d
 induction d using Nat.strongRecOn with
 | _ d ih =>
   intro i hd hip hi hun t ht hr
   obtain ⟨_,ot,hot,hall⟩:=mem_ready.1 hr;have htlt:t < ops.size:=(Array.getElem?_eq_some_iff.1 hot).1;by_cases htn:t=n
   ·exact J20 _
   ·exact J40 _
def zEC (n g p:Nat):Array Bool:=(zo n g).setIfInBounds p false
def zHT (md:Region.Mode) (l:List Oper) (n p:Nat):Bool :=
 decide (n < l.length)&&zLD md l.toArray n p&&Region.chainB md l.toArray n&&zKY md l n&&((List.range (n+1)).all fun m=>zBz l m)&&Region.seqB md l.toArray (l.length - n) n (zo n (l.length - n)) &&
  (decide (n <= p) || (Region.free md l.toArray (zEC n (l.length - n) p) p&&(Region.ready md l.toArray (zEC n (l.length - n) p)).contains p&&Region.noSelect l.toArray))
section
variable {P:Program}
theorem zNE {id:Nat} {Q:Exit -> Act -> World -> Prop} {a:Act} {w:World} {l:List Oper} (n p:Nat) (hm:P.follows .mixedOrders=true) (hB:zHT .any l n p=true) (D:Nat -> List Nat) (hDB:zD6 .any l n D=true)
 (F:Nat -> Value -> (Nat -> Nat × Nat) -> World -> Prop) (hst:∀ j v gs W W',F j v gs W -> Keeps zA W W' -> F j v gs W') (hloc:∀ j v gs gs' W,(∀ a,a ∈ D j -> gs a=gs' a) -> F j v gs W -> F j v gs' W)
 (hp:p < n -> ∃ op,l[p]?=some op /\ (∀ c a w v,Q (.panic c) (a.put op.dst v) w -> Q (.panic c) a w) /\ ∀ (vs:Nat -> Value) gs W,Keeps zA w.drew W -> (∀ j,j < n -> j ≠ p -> F j (vs j) gs W) -> ∃ v,Yields P l.toArray op v (zJ l vs a n) /\ F p v (zFL gs p (W.heap.size,W.heap.size)) W)
 (hstep:∀ i o,i < n -> l[i]?=some o -> ∀ (vs:Nat -> Value) (gs:Nat -> Nat × Nat) (W:World) (Q':Exit -> Act -> World -> Prop),Keeps zA w.drew W -> (∀ e,e ∈ o.after.toList -> Region.binds .any e=true -> F e.on (vs e.on) gs W) →
   (∀ v W',Keeps zA W W' -> F i v (zFL gs i (W.heap.size,W'.heap.size)) W' -> Q' .normal ((zJ l vs a n).put o.dst v) W') -> wpList P l.toArray Q' [o] (zJ l vs a n) W)
 (htail:∀ (vs:Nat -> Value) (gs:Nat -> Nat × Nat) (W:World),Keeps zA w.drew W -> (∀ j,j < n -> F j (vs j) gs W) -> (∀ j,j < n -> (gs j).2 <= W.heap.size) -> (∀ i j,i < n -> j < n -> i ≠ j -> (gs i).2 <= (gs j).1 \/ (gs j).2 <= (gs i).1) -> wpList P l.toArray Q (l.drop n) (zJ l vs a n) W):(Code.region id l.toArray true).wp P Q a w:=by
 simp only [zHT,Bool.and_eq_true,Bool.or_eq_true,decide_eq_true_eq,List.all_eq_true,List.mem_range] at hB;obtain ⟨⟨⟨⟨⟨⟨hn,hs⟩,hc⟩,hback⟩,hdis⟩,hseq⟩,hpB⟩:=hB
 have key:∀ (f:Nat) (listed:Array Bool) (vs:Nat -> Value) (gs:Nat -> Nat × Nat) (W:World),HeadInv .any l.toArray n listed -> zBO listed n=f -> Keeps zA w.drew W -> (∀ j,j < n -> listed.getD j true=true -> F j (vs j) gs W) -> (∀ j,j < n -> listed.getD j true=true -> ∀ a,a ∈ D j -> listed.getD a true=true) -> (∀ j,j < n -> listed.getD j true=true -> (gs j).2 <= W.heap.size) -> (∀ i j,i < n -> j < n -> i ≠ j -> listed.getD i true=true -> listed.getD j true=true -> (gs i).2 <= (gs j).1 \/ (gs j).2 <= (gs i).1) →
  wpAny P .any l.toArray Q (f+(l.length - n)) listed (zJ l vs a n) W:=by
  intro f
  induction f with
  | zero =>
    intro listed vs gs W inv hcnt hR hF hL hG hD
    have hall:=zB0 n hcnt
    have he:listed=zo n (l.length - n):=by
     exact J10 _
    have h1:=htail vs gs W hR (fun j hj=>hF j hj (hall j hj)) (fun j hj=>hG j hj (hall j hj)) (fun i j hi hj hne=>hD i j hi hj hne (hall i hi) (hall j hj));have hdl:(l.drop n).length=l.length - n:=by simp
    have:=wpAny_of_seq (P:=P) (md:=.any) (ops:=l.toArray) (Q':=Q) (l.drop n) n listed (zJ l vs a n) W (fun j=>by simp [List.getElem?_drop]) (by rw [hdl,he];exact hseq) h1
    rw [hdl] at this;rw [Nat.zero_add];exact this
  | succ f ih =>
    intro listed vs gs W inv hcnt hR hF hL hG hD
    have hle:∀ {i o},i < n -> l[i]?=some o -> ∀ e,e ∈ o.after -> Region.binds .any e=true -> e.on < i:=fun {i o} hin ho' e he hb=>by
     have h1:=List.all_eq_true.1 hback i (List.mem_range.2 hin);simp only [ho',Option.map_some,Option.getD_some,Array.all_eq_true_iff_forall_mem] at h1;have h2:=h1 e he;simpa only [hb,Bool.not_true,Bool.false_or,decide_eq_true_eq] using h2
    have adv:∀ i o v W',i ∈ Region.ready .any l.toArray listed -> i < n -> l[i]?=some o -> Keeps zA W W' -> F i v (zFL gs i (W.heap.size,W'.heap.size)) W' -> wpAny P .any l.toArray Q (f+(l.length - n)) (listed.setIfInBounds i true) ((zJ l vs a n).put o.dst v) W':=by
     intro i o v W' hi hin ho' hR' hF'
     have hun:=(mem_ready.1 hi).1;obtain ⟨_,o2,ho2,hafter⟩:=mem_ready.1 hi;have ho2':l[i]?=some o2:=by simpa using ho2
     have e2:o2=o:=Option.some.inj (ho2'.symm.trans ho');subst e2;have hd:o2.dst=(l[i]?).bind (·.dst):=by rw [ho'];rfl
     rw [hd,zBU v n vs hin (hdis n (by omega)) (fun m hm=>hdis m (by omega))];refine ih _ _ (zFL gs i (W.heap.size,W'.heap.size)) _ (inv.set hi hin) ?_ (hR.trans hR' (fun _ _ h=>h.elim)) (fun j hj hl=>?_) (fun j hj hl b hb=>?_) (fun j hj hl=>?_) (fun i1 j1 hi1 hj1 hne hl1 hl2=>?_)
     ·have:=zCV hun n
      rw [if_pos hin] at this;omega
     ·exact J44 _
     ·by_cases eb:b=i
      ·subst eb
       by_cases hs2:b < listed.size
       ·simp [hs2]
       ·simp [hs2]
      ·rw [getD_set_ne true (fun h=>eb h.symm)]
       by_cases e:j=i
       ·subst e
        have h1:=List.all_eq_true.1 hDB j (List.mem_range.2 hin);simp only [ho',Option.map_some,Option.getD_some,List.all_eq_true] at h1;have h2:=h1 b hb;simp only [Bool.or_eq_true,decide_eq_true_eq,Array.any_eq_true',Bool.and_eq_true,List.contains_iff_mem] at h2;rcases h2 with h2 | ⟨e,he,hbe,h3⟩
        ·exact absurd h2 eb
        ·have h4:=hafter e he hbe
         have h6:=hle hin ho' e he hbe;exact J103 _
       ·rw [getD_set_ne true (fun h=>e h.symm)] at hl
        exact hL j hj hl b hb
     ·by_cases e:j=i
      ·subst e;unfold zFL;rw [if_pos rfl];exact Nat.le_refl _
      ·rw [getD_set_ne true (fun h=>e h.symm)] at hl
       unfold zFL;rw [if_neg e];exact Nat.le_trans (hG j hj hl) hR'.size
     ·by_cases e1:i1=i
      ·subst e1
       have e2:¬ j1=i1:=fun h=>hne h.symm
       rw [getD_set_ne true hne] at hl2;unfold zFL;rw [if_pos rfl,if_neg e2];exact .inr (hG j1 hj1 hl2)
      ·rw [getD_set_ne true (fun h=>e1 h.symm)] at hl1
       by_cases e2:j1=i
       ·subst e2
        unfold zFL;rw [if_pos rfl,if_neg e1];exact .inl (hG i1 hi1 hl1)
       ·rw [getD_set_ne true (fun h=>e2 h.symm)] at hl2
        unfold zFL;rw [if_neg e1,if_neg e2];exact hD i1 j1 hi1 hj1 hne hl1 hl2
    rw [show f+1+(l.length - n)=(f+(l.length - n))+1 by omega];by_cases hall:∀ i,i < n -> i ≠ p -> listed.getD i true=true
    ·obtain ⟨i,hi1,hup,_⟩:=zA9 n (by omega:zBO listed n ≠ 0)
     have ei:i=p:=Classical.byContradiction fun ei=>by rw [hall i hi1 ei] at hup;cases hup
     subst ei;rcases hpB with hpB | ⟨⟨hfr,hrd⟩,hsel⟩
     ·omega
     have he:listed=zEC n (l.length - n) i:=by
      apply Array.ext
      ·rw [inv.size];simp [zEC,zo];omega
      ·intro k h1 h2
       unfold zEC;have hkl:k < l.toArray.size:=by rw [<- inv.size];exact h1
       by_cases hkp:k=i
       ·exact J69 _
       ·have hpk:¬ i=k:=fun e=>hkp e.symm
        by_cases hk:k < n
        ·have:=hall k hk hkp
         simp only [Array.getD,h1,dif_pos] at this;rw [show listed[k]=true from this];exact J65 _
        ·have:=inv.tail k (by omega) hkl
         simp only [Array.getD,h1,dif_pos] at this;rw [show listed[k]=false from this];exact J65 _
     have hrp:i ∈ Region.ready .any l.toArray listed:=by rw [he];simpa using hrd
     obtain ⟨op,hop,hQ,hy⟩:=hp hi1;obtain ⟨v,hyv,hFp⟩:=hy vs gs W hR (fun j hj hjp=>hF j hj (hall j hj hjp));have hop':l.toArray[i]?=some op:=by simpa using hop
     exact wpAny_first (P:=P) (ops:=l.toArray) (Q:=Q) (md:=.any) hop' (Region.noSelect_spec hsel) (fun c a w=>hQ c a w v) (f+(l.length - n)) listed (zJ l vs a n) W (by rw [he];exact Region.free_spec hop' hfr) hrp hyv (adv i op v W hrp hi1 hop (Keeps.refl _ _) hFp)
    obtain ⟨iu,hiu,hiup,hiuu⟩:∃ i,i < n /\ i ≠ p /\ listed.getD i true=false:=Classical.byContradiction fun hno=>hall fun i hi hip=>by
     exact J113 _
    obtain ⟨i0,hi0,hu0,hb0⟩:=zA9 n (by omega:zBO listed n ≠ 0)
    have hr0:i0 ∈ Region.ready .any l.toArray listed:=by
     have hil:i0 < l.length:=by omega
     rw [mem_ready];refine ⟨hu0,l[i0],by simp [hil],fun e he hb=>?_⟩
     have h3:=hb0 e.on (hle hi0 (List.getElem?_eq_getElem hil) e he hb);have h2:=hle hi0 (List.getElem?_eq_getElem hil) e he hb;have h4:e.on < listed.size:=by rw [inv.size];simp;omega
     simpa [h4] using h3
    refine ⟨fun h0=>by exact J191 _,fun i hi=>?_⟩
    have hin:i < n:=by
     rcases Nat.lt_or_ge i n with h | h
     ·exact h
     ·exact absurd hi (zHK hs hc (by simpa using hn) inv _ iu rfl hiup hiu hiuu i h)
    obtain ⟨_,o,ho,hafter⟩:=mem_ready.1 hi;have ho':l[i]?=some o:=by simpa using ho
    refine zBw ho (hstep i o hin ho' vs gs W _ hR (fun e he hb=>?_) (fun v W' hR' hF'=>adv i o v W' hi hin ho' hR' hF'))
    have he:e ∈ o.after:=by simpa using he
    have h1:=hafter e he hb;have h2:=hle hin ho' e he hb;have h4:e.on < listed.size:=by rw [inv.size];simp;omega
    exact hF e.on (by omega) (by simpa [h4] using h1)
 refine wp_region_any hm ?_
 have inv0:HeadInv .any l.toArray n (Array.replicate l.toArray.size false) :=
  ⟨by simp,fun j oj _ hl=>(J195 _),fun t _ ht=>getD_in (by simpa using ht) (getD_replicate_false _ _)⟩
 have hz:∀ m,m < l.length -> (Array.replicate l.toArray.size false).getD m true=false:=fun m hm=>by simp [hm]
 have hcn:∀ m,m <= l.length -> zBO (Array.replicate l.toArray.size false) m=m:=by
  intro m
  induction m with
  | zero=>intro _;rfl
  | succ m ih =>
    intro hm
    unfold zBO;rw [ih (by omega),hz m (by omega)];simp
 have hno:∀ j,j < n -> (Array.replicate l.toArray.size false).getD j true=true -> False:=fun j hj hl=>by
  rw [hz j (by omega)] at hl;cases hl
 have:=key n (Array.replicate l.toArray.size false) (slotsOf l a) (fun _=>(0,0)) w.drew inv0 (hcn n (by omega)) (Keeps.refl _ _) (fun j hj hl=>(hno j hj hl).elim) (fun j hj hl=>(hno j hj hl).elim) (fun j hj hl=>(hno j hj hl).elim) (fun i j hi hj _ hl _=>(hno i hi hl).elim)
 rw [zBe l a n,show n+(l.length - n)=l.toArray.size by simp;omega] at this;exact this
end
end Go.Proofs.YtoapgjjepiopbaaGreatDoor
