/- Layer K: texts joined. -/
import Derived.Test.YtfokdllgnblamaaGreatDoorRows
import Derived.WalkSpells
import Derived.WalkLawsBesides
import Derived.Lib.Hide
import Derived.Deep.RegionHeld3
import Derived.Deep.AppendLies
import Derived.Deep.Cut
import Derived.Great.Walk
import Derived.Deep.WholeRow
set_option linter.all false
namespace Go.Proofs.YtfokdllgnblamaaGreatDoor
abbrev yd:=@Option.isSome_iff_exists
abbrev yb:=@Go.World.cell?_setCell_same
abbrev kN:=@List.set_append_right
abbrev uZ:=@List.map_cons
abbrev uY:=@Nat.add_mul
abbrev uX:=@Go.World.cell?_setCell_other
abbrev uU:=@List.length_set
abbrev uQ:=@List.getElem?_set_ne
abbrev uJ:=@Go.Value.slice.injEq
abbrev uI:=@Nat.add_sub_cancel_left
abbrev xZ:=@List.length_cons
abbrev xU:=@List.length_append
abbrev xS:=@List.getElem?_append_left
abbrev xR:=@Nat.lt_or_ge
abbrev xP:=@Go.World.block_lt_of_cell?
abbrev xH:=@List.getElem?_append_right
abbrev xC:=@List.getElem?_set_self
abbrev yZ:=@Nat.zero_add
abbrev yX:=@Nat.le_trans
abbrev yV:=@Nat.le_refl
abbrev yQ:=@List.getElem?_eq_getElem
abbrev yP:=@List.getElem?_eq_some_iff
abbrev yO:=@Option.some.injEq
abbrev yK:=@Go.heap_alloc_new
abbrev yJ:=@Nat.zero_le
abbrev yI:=@Nat.lt_of_lt_of_le
abbrev yH:=@List.set_cons_succ
abbrev yG:=@List.set_cons_zero
abbrev yD:=@List.getElem?_cons_zero
theorem J190 (P:Prop) (h:P:=by simp [Value.ownBlock] at e):P:=h
theorem J257 (P:Prop) (h:P:=by simpa [Value.ownBlock] using e):P:=h
inductive Ex where
 | mk (kind num:Int) (nm:ByteArray) (args:List Ex)
inductive Ac where
 | mk (kind reg obj:Int) (ex:Ex) (count:Int) (thn els:List Ac)
inductive St where
 | mk (kind:Int) (reg name:ByteArray) (ex:Ex) (count:Int) (thn els:List St)
structure Bd where
 regs:Int
 acts:List Ac
structure Un where
 cells:List Int
 mutexes:Int
 threads:List Bd
namespace Ex
def kind:Ex -> Int | .mk k _ _ _=>k
def num:Ex -> Int | .mk _ n _ _=>n
def nm:Ex -> ByteArray | .mk _ _ s _=>s
def args:Ex -> List Ex | .mk _ _ _ l=>l
mutual
def cnt:Ex -> Nat
 | .mk _ _ _ l=>1+zW l
def zW:List Ex -> Nat
 | []=>0
 | x :: r=>cnt x+zW r
end
mutual
def dep:Ex -> Nat
 | .mk _ _ _ l=>zCa l+1
def zCa:List Ex -> Nat
 | []=>0
 | x :: r=>max (dep x) (zCa r)
end
end Ex
def zZ (s:ByteArray):Bool:=s.size==0
def zAK (k num:Int) (nm:ByteArray) (n:Nat) (regs:Int):Bool :=
 if k=1 then decide (0 <= num)&&decide (num <= 2147483647)&&zZ nm&&n==0
 else if k=2 then decide (0 <= num)&&decide (num < regs)&&zZ nm&&n==0
 else decide (3 <= k)&&decide (k <= 17)&&num==0&&zZ nm&&n==(if k=3 \/ k=4 then 1 else 2)
mutual
def Ex.may (regs:Int):Ex -> Bool
 | .mk k num nm l=>zAK k num nm l.length regs&&Ex.zAM regs l
def Ex.zAM (regs:Int):List Ex -> Bool
 | []=>true
 | x :: r=>Ex.may regs x&&Ex.zAM regs r
end
def Ex.none:Ex -> Bool
 | .mk k num nm l=>k==0&&num==0&&zZ nm&&l.isEmpty
def Ex.there:Ex -> Bool
 | .mk k _ _ l=>k != 0 || !l.isEmpty
structure Fl where
 reg:Bool
 name:Bool
 ex:Bool
 count:Bool
 thn:Bool
 els:Bool
deriving DecidableEq
def fields (k:Int):Fl :=
 if k=1 then ⟨true,false,true,false,false,false⟩
 else if k=2 then ⟨true,true,false,false,false,false⟩
 else if k=3 then ⟨false,true,true,false,false,false⟩
 else if k=4 then ⟨true,true,true,false,false,false⟩
 else if 5 <= k /\ k <= 8 then ⟨false,true,false,false,false,false⟩
 else if k=9 then ⟨false,false,true,false,false,false⟩
 else if k=10 then ⟨false,false,true,false,true,true⟩
 else if k=11 then ⟨false,false,false,true,true,false⟩
 else ⟨false,false,false,false,false,false⟩
def zBM (u:Un) (k:Int):Int:=if 2 <= k /\ k <= 4 then u.cells.length else if k=5 \/ k=6 then u.mutexes else u.threads.length
def zBS (u:Un) (regs k reg obj:Int) (ex:Ex) (count:Int) (nt ne:Nat):Bool :=
 decide (1 <= k)&&decide (k <= 11) &&
 (if (fields k).reg then decide (0 <= reg)&&decide (reg < regs) else reg==0) &&
 (if (fields k).name then decide (0 <= obj)&&decide (obj < zBM u k) else obj==0) &&
 (if (fields k).ex then ex.may regs else ex.none) &&
 (if (fields k).count then decide (0 <= count)&&decide (count <= 1000) else count==0) &&
 ((fields k).thn || nt==0)&&((fields k).els || ne==0)
mutual
def Ac.may (u:Un) (regs:Int):Ac -> Bool
 | .mk k reg obj ex count t e=>zBS u regs k reg obj ex count t.length e.length&&Ac.zAM u regs t&&Ac.zAM u regs e
def Ac.zAM (u:Un) (regs:Int):List Ac -> Bool
 | []=>true
 | x :: r=>Ac.may u regs x&&Ac.zAM u regs r
end
mutual
def Ac.cnt:Ac -> Nat
 | .mk _ _ _ ex _ t e=>1+(if ex.there then ex.cnt else 0)+Ac.zW t+Ac.zW e
def Ac.zW:List Ac -> Nat
 | []=>0
 | x :: r=>Ac.cnt x+Ac.zW r
end
mutual
def Ac.deep (d:Nat):Ac -> Nat
 | .mk _ _ _ ex _ t e=>max (max d (if ex.there then ex.dep else 0)) (max (Ac.zw (d+1) t) (Ac.zw (d+1) e))
def Ac.zw (d:Nat):List Ac -> Nat
 | []=>0
 | x :: r=>max (Ac.deep d x) (Ac.zw d r)
end
def zCT (n:Int):Bool:=decide (-2147483647 <= n)&&decide (n <= 2147483647)
def zX (u:Un):Bool :=
 decide (1 <= u.threads.length)&&decide (u.threads.length <= 8)&&decide (u.cells.length <= 8)&&decide (0 <= u.mutexes)&&decide (u.mutexes <= 8)&&u.cells.all zCT &&
 u.threads.all (fun b=>decide (0 <= b.regs)&&decide (b.regs <= 8)&&Ac.zAM u b.regs b.acts) &&
 decide ((u.threads.map fun b=>Ac.zw 1 b.acts).foldr max 0 <= 16)&&decide ((u.threads.map fun b=>Ac.zW b.acts).foldr (·+·) 0 <= 500)
mutual
def Ex.zCN (d:Nat):Ex -> Nat
 | .mk _ _ _ l=>max d (Ex.zCV (d+1) l)
def Ex.zCV (d:Nat):List Ex -> Nat
 | []=>0
 | x :: r=>max (Ex.zCN d x) (Ex.zCV d r)
end
mutual
theorem Ex.zGt (d:Nat):(x:Ex) -> Ex.zCN d x=d+x.dep - 1
 | .mk k n s l=>by
   have h:=Ex.zEO (d+1) l;simp only [Ex.zCN,Ex.dep];rw [h];by_cases hl:l=[]
   ·rw [if_pos hl,hl];simp only [Ex.zCa];omega
   ·rw [if_neg hl]
    have h5:1 <= Ex.zCa l:=by
     cases l with
     | nil=>exact absurd rfl hl
     | cons y r=>cases y;simp only [Ex.zCa,Ex.dep];omega
    omega
theorem Ex.zEO (d:Nat):(l:List Ex) -> Ex.zCV d l=if l=[] then 0 else d+Ex.zCa l - 1
 | []=>rfl
 | x :: r=>by
   have h1:=Ex.zGt d x;have h2:=Ex.zEO d r;have h3:1 <= x.dep:=by cases x;simp [Ex.dep]
   simp only [Ex.zCV,Ex.zCa,h1,h2];have h4:¬ (x :: r=[]):=by simp
   rw [if_neg h4];by_cases hr:r=[]
   ·rw [if_pos hr,hr];simp only [Ex.zCa];omega
   ·rw [if_neg hr]
    have h5:1 <= Ex.zCa r:=by
     cases r with
     | nil=>exact absurd rfl hr
     | cons y r=>cases y;simp only [Ex.zCa,Ex.dep];omega
    omega
end
theorem Ex.zEv (x:Ex):Ex.zCN 1 x=x.dep:=by rw [Ex.zGt];omega
end Go.Proofs.YtfokdllgnblamaaGreatDoor
namespace Go.Proofs.YtfokdllgnblamaaGreatDoor
open Go.RowKit
theorem eX {α:Sort _} (a:α):∃ z,z=a:=⟨a,rfl⟩
structure Keeps (S:Nat -> Prop) (w w':World):Prop where
 os:w'.os=w.os
 tape:w'.tape=w.tape
 output:w'.output=w.output
 size:w.heap.size <= w'.heap.size
 block:∀ k,k < w.heap.size -> ¬ S k -> w'.heap[k]?=w.heap[k]?
namespace Keeps
variable {S S':Nat -> Prop} {w w' w'':World}
theorem refl (S:Nat -> Prop) (w:World):Keeps S w w:=⟨rfl,rfl,rfl,yV _,fun _ _ _=>rfl⟩
theorem trans (h:Keeps S w w') (k:Keeps S' w' w'') (hs:∀ k,k < w.heap.size -> S' k -> S k):Keeps S w w'' :=
 ⟨k.os.trans h.os,k.tape.trans h.tape,k.output.trans h.output,yX h.size k.size,
  fun i hi hn=>(k.block i (yI hi h.size) (fun h'=>hn (hs i hi h'))).trans (h.block i hi hn)⟩
theorem mono (h:Keeps S' w w') (hs:∀ k,k < w.heap.size -> S' k -> S k):Keeps S w w' :=
 ⟨h.os,h.tape,h.output,h.size,fun i hi hn=>h.block i hi (fun h'=>hn (hs i hi h'))⟩
theorem drewN (h:Keeps S w w') (n:Nat):Keeps S w (w'.drewN n):=⟨h.os,h.tape,h.output,h.size,h.block⟩
theorem drew (h:Keeps S w w'):Keeps S w w'.drew:=⟨h.os,h.tape,h.output,h.size,h.block⟩
theorem alloc (h:Keeps S w w') (o:Obj):Keeps S w (w'.alloc o) :=
 h.trans (S':=fun _=>False) ⟨rfl,rfl,rfl,by simp,fun k hk _=>Below.heap_alloc _ _ _ hk⟩ (fun _ _ h=>h.elim)
theorem setCell (h:Keeps S w w') {p:Addr} (hp:p.block < w.heap.size -> S p.block) (u:Value):Keeps S w (w'.setCell p u) :=
 h.trans (S':=fun k=>k=p.block) ⟨rfl,rfl,rfl,by simp [World.setCell],fun k _ hn=>Below.heap_setCell _ _ _ _ hn⟩ (fun k hk e=>by subst e;exact hp hk)
theorem grown (h:Keeps S w w') {row:Option Nat} (hg:w'.grownBy w'' row) (hr:∀ k,row=some k -> k < w.heap.size -> S k):Keeps S w w'' :=
 h.trans (S':=fun k=>row=some k) ⟨hg.os,hg.tape,hg.output,hg.size,fun k hk hn=>hg.block k hk (fun e=>hn e.symm)⟩ (fun k hk e=>hr k e hk)
theorem cell (h:Keeps S w w') {p:Addr} {v:Value} (hp:¬ S p.block) (hc:w.cell? p=some v):w'.cell? p=some v :=
 (World.cell?_of_block (h.block p.block (xP w p hc) hp)).trans hc
theorem heap (h:Keeps S w w') {k:Nat} {o:Obj} (hp:¬ S k) (hc:w.heap[k]?=some o):w'.heap[k]?=some o :=
 (h.block k (lt_of_block hc) hp).trans hc
theorem below (h:Keeps S w w') {B:Nat} (hs:∀ k,k < w.heap.size -> S k -> B <= k) (hB:B <= w.heap.size):Below B w w' :=
 ⟨h.os,h.tape,h.output,h.size,fun k hk=>h.block k (by omega) (fun h'=>by have:=hs k (by omega) h';omega)⟩
end Keeps
theorem ze (W:World) (o1 o2:Obj):((W.alloc o1).alloc o2).heap[W.heap.size+1]?=some o2:=by
 have h:=yK (W.alloc o1) o2;have e:(W.alloc o1).heap.size=W.heap.size+1:=by simp
 rw [e] at h;exact h
def zA:Nat -> Prop:=fun _=>False
theorem zG {S:Nat -> Prop} {w w':World} {base e size n:Nat} {v:Value} {xs:List Value} (h:w.ownsRow base e size v n xs) (hk:Keeps S w w') (hn:∀ k,v.ownBlock=some k -> ¬ S k):w'.ownsRow base e size v n xs:=by
 obtain ⟨h1,h2⟩:=h;refine ⟨h1,?_⟩
 rcases h2 with h2 | ⟨g,cap,cur,hv,hg,hh,r⟩
 ·exact Or.inl h2
 ·exact Or.inr ⟨g,cap,cur,hv,hg,hk.heap (hn g (by rw [hv];rfl)) hh,r⟩
theorem zBw {α:Type} (f:α -> List Value) (k:Nat) (hf:∀ x,(f x).length=k) (L:List α):(L.flatMap f).length=L.length*k:=by
 induction L with
 | nil=>simp
 | cons x L ih=>simp only [List.flatMap_cons,xU,hf,ih,xZ];rw [uY];omega
theorem zDz {α:Type} (f:α -> List Value) (k:Nat) (hf:∀ x,(f x).length=k) (L:List α) (i j:Nat) (hj:j < k):(L.flatMap f)[i*k+j]?=(L[i]?).bind fun x=>(f x)[j]?:=by
 induction L generalizing i with
 | nil=>simp
 | cons x L ih =>
   rw [List.flatMap_cons];cases i with
   | zero=>rw [Nat.zero_mul,yZ,xS (by rw [hf];exact hj)];simp
   | succ i =>
     have e:(i+1)*k+j=(f x).length+(i*k+j):=by rw [hf,uY];omega
     rw [e,xH (by omega),uI,ih];simp
theorem zK2 {α:Type} (f:α -> List Value) (k:Nat) (hf:∀ x,(f x).length=k) (L:List α) (i j:Nat) (hj:j < k) (u:Value) (x y:α) (hx:L[i]?=some x) (hy:f y=(f x).set j u) :
 (L.flatMap f).set (i*k+j) u=(L.set i y).flatMap f:=by
 induction L generalizing i with
 | nil=>simp at hx
 | cons z L ih =>
   rw [List.flatMap_cons];cases i with
   | zero =>
     simp only [yD,yO] at hx;subst hx;rw [Nat.zero_mul,yZ,List.set_append_left _ _ (by rw [hf];exact hj),yG,List.flatMap_cons,hy]
   | succ i =>
     have e:(i+1)*k+j=(f z).length+(i*k+j):=by rw [hf,uY];omega
     rw [e,kN _ _ (by omega),uI,yH,List.flatMap_cons,ih i (by simpa using hx)]
def zBN (w:World) (F:Nat -> Prop) (sz n:Nat) (ad:Option Addr) (css:Nat -> List Value):Prop :=
 ∀ i,i < n -> ∃ g o,ad=some ⟨g,o,none⟩ /\ F g /\ (css i).length=sz /\ ∀ j u,(css i)[j]?=some u -> w.cell? ⟨g,o+(i*sz+j),none⟩=some u
theorem zBN.keeps {S F:Nat -> Prop} {w w':World} {sz n:Nat} {ad:Option Addr} {css:Nat -> List Value} (h:zBN w F sz n ad css) (hk:Keeps S w w') (hS:∀ k,F k -> ¬ S k):zBN w' F sz n ad css:=fun i hi=>by
 obtain ⟨g,o,e,hg,hl,hc⟩:=h i hi;exact ⟨g,o,e,hg,hl,fun j u hj=>hk.cell (p:=⟨g,_,none⟩) (hS g hg) (hc j u hj)⟩
theorem zBN.mono {F F':Nat -> Prop} {w:World} {sz n:Nat} {ad:Option Addr} {css:Nat -> List Value} (h:zBN w F sz n ad css) (hF:∀ k,F k -> F' k):zBN w F' sz n ad css:=fun i hi=>by
 obtain ⟨g,o,e,hg,hl,hc⟩:=h i hi;exact ⟨g,o,e,hF g hg,hl,hc⟩
inductive zA9 (w:World) (F:Nat -> Prop):Ex -> List Value -> Prop where
 | mk (k num:Int) (nm:ByteArray) (args:List Ex) (ad:Option Addr) (cap:Nat) (css:Nat -> List Value) (h0:zBN w F 4 args.length ad css)
    (h1:∀ i x,args[i]?=some x -> zA9 w F x (css i)):zA9 w F (.mk k num nm args) [.int .i64 k, .int .i64 num, .string nm, .slice ad args.length cap]
theorem zA9.keeps {S F:Nat -> Prop} {w w':World} {x:Ex} {cs:List Value} (h:zA9 w F x cs) (hk:Keeps S w w') (hS:∀ k,F k -> ¬ S k):zA9 w' F x cs:=by
 induction h with
 | mk k num nm args ad cap css h0 _ ih=>exact .mk k num nm args ad cap css (h0.keeps hk hS) ih
theorem zA9.mono {F F':Nat -> Prop} {w:World} {x:Ex} {cs:List Value} (h:zA9 w F x cs) (hF:∀ k,F k -> F' k):zA9 w F' x cs:=by
 induction h with
 | mk k num nm args ad cap css h0 _ ih=>exact .mk k num nm args ad cap css (h0.mono hF) ih
inductive zB6 (w:World) (F:Nat -> Prop):Ac -> List Value -> Prop where
 | mk (k reg obj:Int) (ex:Ex) (count:Int) (t e:List Ac) (xs:List Value) (ta ea:Option Addr) (tc ec:Nat) (tss ess:Nat -> List Value) (hx:zA9 w F ex xs)
    (t0:zBN w F 10 t.length ta tss) (t1:∀ i x,t[i]?=some x -> zB6 w F x (tss i)) (e0:zBN w F 10 e.length ea ess) (e1:∀ i x,e[i]?=some x -> zB6 w F x (ess i)) :
    zB6 w F (.mk k reg obj ex count t e) ([.int .i64 k, .int .i64 reg, .int .i64 obj]++xs++[.int .i64 count, .slice ta t.length tc, .slice ea e.length ec])
theorem zB6.keeps {S F:Nat -> Prop} {w w':World} {x:Ac} {cs:List Value} (h:zB6 w F x cs) (hk:Keeps S w w') (hS:∀ k,F k -> ¬ S k):zB6 w' F x cs:=by
 induction h with
 | mk k reg obj ex count t e xs ta ea tc ec tss ess hx t0 _ e0 _ ih1 ih2=>exact .mk k reg obj ex count t e xs ta ea tc ec tss ess (hx.keeps hk hS) (t0.keeps hk hS) ih1 (e0.keeps hk hS) ih2
inductive zB4 (w:World) (F:Nat -> Prop):St -> List Value -> Prop where
 | mk (k:Int) (reg name:ByteArray) (ex:Ex) (count:Int) (t e:List St) (xs:List Value) (ta ea:Option Addr) (tc ec:Nat) (tss ess:Nat -> List Value) (hx:zA9 w F ex xs)
    (t0:zBN w F 10 t.length ta tss) (t1:∀ i x,t[i]?=some x -> zB4 w F x (tss i)) (e0:zBN w F 10 e.length ea ess) (e1:∀ i x,e[i]?=some x -> zB4 w F x (ess i)) :
    zB4 w F (.mk k reg name ex count t e) ([.int .i64 k, .string reg, .string name]++xs++[.int .i64 count, .slice ta t.length tc, .slice ea e.length ec])
theorem zB4.keeps {S F:Nat -> Prop} {w w':World} {x:St} {cs:List Value} (h:zB4 w F x cs) (hk:Keeps S w w') (hS:∀ k,F k -> ¬ S k):zB4 w' F x cs:=by
 induction h with
 | mk k reg name ex count t e xs ta ea tc ec tss ess hx t0 _ e0 _ ih1 ih2=>exact .mk k reg name ex count t e xs ta ea tc ec tss ess (hx.keeps hk hS) (t0.keeps hk hS) ih1 (e0.keeps hk hS) ih2
theorem zB4.mono {F F':Nat -> Prop} {w:World} {x:St} {cs:List Value} (h:zB4 w F x cs) (hF:∀ k,F k -> F' k):zB4 w F' x cs:=by
 induction h with
 | mk k reg name ex count t e xs ta ea tc ec tss ess hx t0 _ e0 _ ih1 ih2=>exact .mk k reg name ex count t e xs ta ea tc ec tss ess (hx.mono hF) (t0.mono hF) ih1 (e0.mono hF) ih2
theorem zA9.len {w:World} {F:Nat -> Prop} {x:Ex} {cs:List Value} (h:zA9 w F x cs):cs.length=4:=by cases h;rfl
theorem zB6.len {w:World} {F:Nat -> Prop} {x:Ac} {cs:List Value} (h:zB6 w F x cs):cs.length=10:=by
 cases h with
 | mk k reg obj ex count t e xs ta ea tc ec tss ess hx=>simp [hx.len]
theorem zB4.len {w:World} {F:Nat -> Prop} {x:St} {cs:List Value} (h:zB4 w F x cs):cs.length=10:=by
 cases h with
 | mk k reg name ex count t e xs ta ea tc ec tss ess hx=>simp [hx.len]
theorem zA9.show {w:World} {F:Nat -> Prop} {x:Ex} {cs:List Value} (h:zA9 w F x cs):∃ ad cap css,cs=[.int .i64 x.kind, .int .i64 x.num, .string x.nm, .slice ad x.args.length cap] /\ zBN w F 4 x.args.length ad css /\ ∀ i y,x.args[i]?=some y -> zA9 w F y (css i):=by
 cases h with
 | mk k num nm args ad cap css h0 h1=>exact ⟨ad,cap,css,rfl,h0,h1⟩
theorem zFf {w:World} {b o n:Nat} (ht:w.there b o n) (vs:List Value) (hn:vs.length <= n):(w.setCells b o vs).there b o n:=by
 intro j hj
 refine ⟨?_,by rw [World.frozen?_setCells];exact (ht j hj).2⟩
 rcases xR j vs.length with hlt | hge
 ·rw [World.cell?_setCells_in b vs o w (fun i hi=>(ht i (by omega)).1) j hlt];rfl
 ·rw [World.cell?_setCells_out b vs o w ⟨b,o+j,none⟩ (fun _ _=>.inr (by show o+vs.length <= o+j;omega))]
  exact (ht j hj).1
theorem zKK {w:World} {b o:Nat} {cs:List Value} (h:w.rangeAt b o cs) (k:Nat) (hk:k < cs.length) (u:Value):(w.setCell ⟨b,o+k,none⟩ u).rangeAt b o (cs.set k u):=by
 intro j v hj
 by_cases e:j=k
 ·subst e
  rw [xC hk] at hj;obtain ⟨x,hx⟩:∃ x,cs[j]?=some x:=⟨_,yQ hk⟩
  cases hj;exact yb _ _ _ (h j x hx)
 ·rw [uQ (fun e'=>e e'.symm)] at hj
  rw [uX _ _ _ _ (by simp;try omega)];exact h j v hj
theorem zGH {w:World} {b:Nat} {cs:List Value} {t:TypeId} {fr:Nat × Nat} (h:w.heap[b]?=some (.cells cs.toArray t fr)):w.rangeAt b 0 cs:=fun j v hj=>by
 rw [yZ,cell_of_row w b j _ t fr h];simpa using hj
theorem zGJ {w:World} {b:Nat} {cs:List Value} {t:TypeId} (h:w.heap[b]?=some (.cells cs.toArray t (0,0))):w.there b 0 cs.length:=fun j hj=>by
 refine ⟨?_,?_⟩
 ·rw [yZ,cell_of_row w b j _ t _ h]
  simp [hj]
 ·exact frozen_of_row w b _ _ _ h
theorem zIa {S:Nat -> Prop} {w w':World} {b o:Nat} {cs:List Value} (h:w.rangeAt b o cs) (hk:Keeps S w w') (hb:¬ S b):w'.rangeAt b o cs:=fun j v hj=>hk.cell (p:=⟨b,o+j,none⟩) hb (h j v hj)
theorem zFT {S:Nat -> Prop} {w w':World} {b o n:Nat} (h:w.there b o n) (hk:Keeps S w w') (hb:¬ S b):w'.there b o n:=fun j hj=>by
 obtain ⟨h1,h2⟩:=h j hj;obtain ⟨v,hv⟩:=yd.1 h1;have hlt:=xP w _ hv;refine ⟨by rw [World.cell?_of_block (hk.block b hlt hb)];exact h1,by rw [World.frozen?_of_block (hk.block b hlt hb)];exact h2⟩
structure zC (w:World) (g:Nat) (cs:List Value):Prop where
 rng:w.rangeAt g 0 cs
 thr:w.there g 0 cs.length
namespace zC
theorem cell {w:World} {g:Nat} {cs:List Value} (h:zC w g cs) {k:Nat} {v:Value} (hk:cs[k]?=some v):w.cell? ⟨g,k,none⟩=some v:=by
 have:=h.rng k v hk
 rwa [yZ] at this
theorem free {w:World} {g:Nat} {cs:List Value} (h:zC w g cs) {k:Nat} (hk:k < cs.length):w.frozen? ⟨g,k,none⟩=false:=by
 have:=(h.thr k hk).2
 rwa [yZ] at this
theorem lt {w:World} {g:Nat} {cs:List Value} (h:zC w g cs) (hn:cs ≠ []):g < w.heap.size:=by
 cases cs with
 | nil=>exact absurd rfl hn
 | cons a r=>exact xP w ⟨g,0,none⟩ (h.cell (k:=0) (v:=a) rfl)
theorem keeps {S:Nat -> Prop} {w w':World} {g:Nat} {cs:List Value} (h:zC w g cs) (hk:Keeps S w w') (hg:¬ S g):zC w' g cs :=
 ⟨zIa h.rng hk hg,zFT h.thr hk hg⟩
theorem set {w:World} {g:Nat} {cs:List Value} (h:zC w g cs) (k:Nat) (hk:k < cs.length) (u:Value):zC (w.setCell ⟨g,k,none⟩ u) g (cs.set k u):=by
 have h1:=zKK h.rng k hk u;have h2:=zFf h.thr [] (yJ _);rw [yZ] at h1;refine ⟨h1,fun j hj=>?_⟩
 rw [uU] at hj;obtain ⟨a,b⟩:=h.thr j hj;refine ⟨?_,by rw [World.frozen?_setCell];exact b⟩
 by_cases e:0+j=k
 ·obtain ⟨v,hv⟩:=yd.1 a
  rw [<- e,yb _ _ _ hv];rfl
 ·rw [uX _ _ _ _ (by simp;try omega)]
  exact a
theorem other {w:World} {g:Nat} {cs:List Value} (h:zC w g cs) {p:Addr} (hp:p.block ≠ g) (u:Value):zC (w.setCell p u) g cs :=
 h.keeps (S:=fun k=>k=p.block) (Keeps.setCell (p:=p) (Keeps.refl (fun k=>k=p.block) w) (fun _=>rfl) u) (fun e=>hp e.symm)
theorem zF {w:World} {g:Nat} {cs:List Value} {t:TypeId} (h:w.heap[g]?=some (.cells cs.toArray t (0,0))):zC w g cs:=⟨zGH h,zGJ h⟩
theorem zAj {w:World} {base e size n cap:Nat} {g:Nat} {xs:List Value} (h:w.ownsRow base e size (.slice (some ⟨g,0,none⟩) n cap) n xs):zC w g xs:=by
 refine ⟨fun j v hj=>?_,fun j hj=>⟨?_,?_⟩⟩
 ·rw [yZ,World.ownsRow.cellAt h j (by have:=(yP.1 hj).1;rw [h.1] at this;exact this)]
  exact hj
 ·rw [yZ,World.ownsRow.cellAt h j (by rw [h.1] at hj;exact hj),yQ hj];rfl
 ·rcases h.2 with ⟨h',_⟩ | ⟨g',cap',cur,h',_,hg,_⟩
  ·simp at h'
  ·simp only [uJ,yO,Addr.mk.injEq,and_true,true_and] at h'
   obtain ⟨rfl,_⟩:=h';exact frozen_of_row w g _ cur _ hg
theorem drewN {w:World} {g:Nat} {cs:List Value} (h:zC w g cs) (n:Nat):zC (w.drewN n) g cs:=h.keeps (S:=zA) ((Keeps.refl _ _).drewN n) (fun h=>h)
theorem alloc {w:World} {g:Nat} {cs:List Value} (h:zC w g cs) (o:Obj):zC (w.alloc o) g cs:=h.keeps (S:=zA) ((Keeps.refl _ _).alloc o) (fun h=>h)
end zC
def zAD (w:World) (v:Value) (n:Nat) (cs:List Value):Prop :=
 ∃ ad cap,v=.slice ad n cap /\ (n ≠ 0 -> ∃ g o,ad=some ⟨g,o,none⟩ /\ ∀ j u,cs[j]?=some u -> w.cell? ⟨g,o+j,none⟩=some u)
def zAB (w:World) (base e size:Nat) (v:Value) (n:Nat) (xs:List Value) (ad:Option Addr) (cap:Nat) (w':World):Prop :=
 w'.ownsRow base e size (.slice ad n cap) n xs /\ w.grownBy w' v.ownBlock /\ ∀ kb,(Value.slice ad n cap).ownBlock=some kb -> v.ownBlock=some kb \/ kb=w.heap.size
section
variable {P:Program} (w:World)
theorem zF6 (base:Nat) (t ty e:TypeId) (i:TypeInfo) (z:Value) (size bytes:Nat) (ht:P.underlying t=some (.slice e)) (hi:P.info? e=some i) (hz:i.zero=some z)
 (hsize:i.size=size) (hby:i.bytes=bytes) (hzs:z.cells.size=size) (hsz:0 < size)
 (v:Value) (n:Nat) (xs:List Value) (hown:w.ownsRow base e size v n xs)
 (s:Value) (m:Nat) (news:List Value) (hs:zAD w s m news) (hl:news.length=m*size) (h1:∀ u ∈ news,u.oneCell'=true)
 (h63:n+m <= maxLen) (hbytes:(n+m)*bytes <= 140737488355328) (hbase:base <= w.heap.size) :
 ∃ ad cap w',(Builtin.append_ #[t,t] ty #[v,s]).run P w=.ok (.slice ad (n+m) cap) w' /\ zAB w base e size v (n+m) (xs++news) ad cap w':=by
 obtain ⟨ad,c,rfl,h2⟩:=hs;by_cases hm:m=0
 ·subst hm
  obtain rfl:news=[]:=List.eq_nil_of_length_eq_zero (by simpa using hl);have hsame:w.ownsRow base e size v (n+0) (xs++[]):=by simpa using hown
  have hrun:(Builtin.append_ #[t,t] ty #[v, .slice ad 0 c]).run P w=.ok v w:=by
   rcases hown.2 with ⟨rfl,rfl⟩ | ⟨g,cap,cur,rfl,_,_,hnc,_⟩
   ·cases ad <;> simp [Builtin.append_,run_underlying ht,sizeOf,typeInfo,hi,Builtin.lenOf,Builtin.firstCells,loadCells,loadCellsFrom]
   ·cases ad <;> simp [Builtin.append_,run_underlying ht,sizeOf,typeInfo,hi,Builtin.lenOf,Builtin.firstCells,hnc,storeCells,loadCells,loadCellsFrom]
  rcases hown.2 with ⟨rfl,rfl⟩ | ⟨g,cap,cur,rfl,_,_,hnc,_⟩
  ·exact ⟨none,0,w,hrun,hsame,⟨rfl,rfl,rfl,yV _,fun k hk _=>rfl⟩,fun kb e=>by exact J190 _⟩
  ·exact ⟨some ⟨g,0,none⟩,cap,w,by simpa using hrun,hsame,⟨rfl,rfl,rfl,yV _,fun k hk _=>rfl⟩,fun kb e=>.inl (J257 _)⟩
 ·obtain ⟨g,o,rfl,hc⟩:=h2 hm
  obtain ⟨v',w',hr,r1,r2,r3,r4⟩:=run_append_own_at (P:=P) w base t ty e i z size bytes ht hi hz hsize hby hzs hsz v n xs hown ⟨g,o,none⟩ m c news hl (fun j u hj=>by rw [Addr.add_lit];exact hc j u hj) h1 h63 hbytes hbase;obtain ⟨g',cap,rfl,_,_⟩:=r1.form (by omega);refine ⟨_,cap,w',hr,r1,r2,fun kb e=>?_⟩
  rcases r4 with r4 | r4
  ·exact .inl (by rw [<- r4];exact e)
  ·rw [r4] at e;cases e;exact .inr rfl
variable {ops:Array Oper} {o:Oper} {a:Act} {Q:Exit -> Act -> World -> Prop}
theorem zGT {K:Act -> World -> Prop} (s x:Operand) (t:TypeId)
 (ho:o.op=.call { callee:=.builtin .append,args:=#[s,x],argTypes:=#[t,t] })
 (base:Nat) (e:TypeId) (i:TypeInfo) (z:Value) (size bytes:Nat) (ht:P.underlying t=some (.slice e)) (hi:P.info? e=some i) (hz:i.zero=some z)
 (hsize:i.size=size) (hby:i.bytes=bytes) (hzs:z.cells.size=size) (hsz:0 < size)
 (v:Value) (n:Nat) (xs:List Value) (hs:a.eval s=v) (hown:w.ownsRow base e size v n xs)
 (sv:Value) (m:Nat) (news:List Value) (hx:a.eval x=sv) (hsrc:zAD w sv m news) (hl:news.length=m*size) (h1:∀ u ∈ news,u.oneCell'=true)
 (h63:n+m <= maxLen) (hbytes:(n+m)*bytes <= 140737488355328) (hbase:base <= w.heap.size)
 (h:∀ ad cap w',zAB w base e size v (n+m) (xs++news) ad cap w' -> K (a.put o.dst (.slice ad (n+m) cap)) w'):o.wp P a w K Q:=by
 obtain ⟨ad,cap,w',hr,h2⟩:=zF6 (P:=P) w base t o.type e i z size bytes ht hi hz hsize hby hzs hsz v n xs hown sv m news hsrc hl h1 h63 hbytes hbase;unfold Oper.wp execOp;simp only [ho,resolve,invoke,builtin,Sem.run_bind,Sem.run_pure,Result.andThen_ok,List.map_toArray,uZ,List.map_nil,hs,hx,hr];exact h ad cap w' h2
theorem zI {rest:List Oper} (hgd:o.guard=none) (s x:Operand) (t:TypeId)
 (ho:o.op=.call { callee:=.builtin .append,args:=#[s,x],argTypes:=#[t,t] })
 (base:Nat) (e:TypeId) (i:TypeInfo) (z:Value) (size bytes:Nat) (ht:P.underlying t=some (.slice e)) (hi:P.info? e=some i) (hz:i.zero=some z)
 (hsize:i.size=size) (hby:i.bytes=bytes) (hzs:z.cells.size=size) (hsz:0 < size)
 (v:Value) (n:Nat) (xs:List Value) (hs:a.eval s=v) (hown:w.ownsRow base e size v n xs)
 (sv:Value) (m:Nat) (news:List Value) (hx:a.eval x=sv) (hsrc:zAD w sv m news) (hl:news.length=m*size) (h1:∀ u ∈ news,u.oneCell'=true)
 (h63:n+m <= maxLen) (hbytes:(n+m)*bytes <= 140737488355328) (hbase:base <= w.heap.size)
 (h:∀ ad cap w',zAB w base e size v (n+m) (xs++news) ad cap w' -> wpList P ops Q rest (a.put o.dst (.slice ad (n+m) cap)) w'):wpList P ops Q (o :: rest) a w :=
 wpList_plain hgd fun _ hK=>zGT w s x t ho base e i z size bytes ht hi hz hsize hby hzs hsz v n xs hs hown sv m news hx hsrc hl h1 h63 hbytes hbase fun ad cap w' h2=>hK _ _ (h ad cap w' h2)
end
theorem Keeps.zB {a b c:World} (h:Keeps zA a b) (h':Keeps zA b c):Keeps zA a c:=h.trans h' (fun _ _ h=>h)
theorem zAB.keeps {w w':World} {base e size n cap:Nat} {v:Value} {xs:List Value} {ad:Option Addr} (h:zAB w base e size v n xs ad cap w') {S:Nat -> Prop} {w0:World} (h0:Keeps S w0 w) (hv:∀ k,v.ownBlock=some k -> k < w0.heap.size -> S k):Keeps S w0 w' :=
 h0.grown h.2.1 hv
def zAt (w:World) (B:Nat) (v:Value) (n:Nat) (cs:List Value):Prop :=
 ∃ ad cap,v=.slice ad n cap /\ cap <= maxLen /\ (ad=none -> cap=0) /\ (n ≠ 0 -> ∃ g,ad=some ⟨g,0,none⟩ /\ B <= g /\ zC w g cs)
theorem zAt.keeps {S:Nat -> Prop} {w w':World} {B:Nat} {v:Value} {n:Nat} {cs:List Value} (h:zAt w B v n cs) (hk:Keeps S w w') (hS:∀ k,B <= k -> ¬ S k):zAt w' B v n cs:=by
 obtain ⟨ad,cap,e,e1,e2,h1⟩:=h;refine ⟨ad,cap,e,e1,e2,fun hn=>?_⟩
 obtain ⟨g,h2,h3,h4⟩:=h1 hn;exact ⟨g,h2,h3,h4.keeps hk (hS g h3)⟩
theorem zAt.of {w:World} {base e size n B:Nat} {v:Value} {xs:List Value} (h:w.ownsRow base e size v n xs) (hb:∀ k,v.ownBlock=some k -> B <= k):zAt w B v n xs:=by
 rcases h.2 with ⟨rfl,rfl⟩ | ⟨g,cap,cur,rfl,_,hg,_,hm,_⟩
 ·exact ⟨none,0,rfl,by unfold maxLen;omega,fun _=>rfl,fun h=>absurd rfl h⟩
 ·exact ⟨_,cap,rfl,hm,fun h=>(by cases h),fun _=>⟨g,rfl,hb g rfl,zC.zAj h⟩⟩
theorem zAt.src {w:World} {B n:Nat} {v:Value} {cs:List Value} (h:zAt w B v n cs):zAD w v n cs:=by
 obtain ⟨ad,cap,e,_,_,h1⟩:=h;refine ⟨ad,cap,e,fun hn=>?_⟩
 obtain ⟨g,h2,h3,h4⟩:=h1 hn;exact ⟨g,0,h2,h4.rng⟩
theorem zAD.keeps {S:Nat -> Prop} {w w':World} {v:Value} {n:Nat} {cs:List Value} (h:zAD w v n cs) (hk:Keeps S w w') (hS:∀ k,v.ownBlock=some k -> ¬ S k):zAD w' v n cs:=by
 obtain ⟨ad,cap,rfl,h1⟩:=h;refine ⟨ad,cap,rfl,fun hn=>?_⟩
 obtain ⟨g,o,e,h2⟩:=h1 hn;refine ⟨g,o,e,fun j u hj=>hk.cell (p:=⟨g,o+j,none⟩) (hS g (by rw [e];rfl)) (h2 j u hj)⟩
end Go.Proofs.YtfokdllgnblamaaGreatDoor
