/- Layer L: texts joined. -/
import Derived.Test.YtfokdllgnblamaaGreatDoorRows
import Derived.WalkSpells
import Derived.WalkLawsBesides
import Derived.Lib.Hide
import Derived.Deep.RegionHeld3
import Derived.Deep.AppendLies
import Derived.Deep.Cut
import Derived.Great.Walk
import Derived.Deep.WholeRow
set_option linter.all false
namespace Go.Proofs.YtfokdllgnblamaaGreatDoor
abbrev kH:=@Go.World.cell?_setCell_same
abbrev vN:=@Nat.add_sub_cancel_left
abbrev vI:=@List.eq_nil_of_length_eq_zero
abbrev vH:=@Nat.add_mul
abbrev vE:=@Go.World.cell?_setCell_other
abbrev uP:=@List.set_append_right
abbrev uO:=@List.getElem?_map
abbrev uB:=@List.getElem?_set_ne
abbrev xX:=@Go.Value.slice.injEq
abbrev xQ:=@List.length_cons
abbrev xP:=@Go.World.block_lt_of_cell?
abbrev xL:=@Nat.lt_or_ge
abbrev xK:=@List.getElem?_append_left
abbrev xE:=@List.length_append
abbrev xC:=@Nat.zero_add
abbrev xA:=@List.length_set
abbrev yY:=@List.getElem?_append_right
abbrev yX:=@List.getElem?_set_self
abbrev yV:=@Nat.le_refl
abbrev yU:=@Nat.le_trans
abbrev yP:=@Option.some.injEq
abbrev yO:=@List.getElem?_eq_some_iff
abbrev yK:=@List.set_cons_zero
abbrev yJ:=@List.getElem?_eq_getElem
abbrev yI:=@Nat.lt_of_lt_of_le
abbrev yH:=@Nat.zero_le
abbrev yG:=@Go.heap_alloc_new
abbrev yF:=@List.set_cons_succ
abbrev yC:=@List.getElem?_cons_zero
inductive Ex where
 | mk (kind num:Int) (nm:ByteArray) (args:List Ex)
inductive Ac where
 | mk (kind reg obj:Int) (ex:Ex) (count:Int) (thn els:List Ac)
inductive St where
 | mk (kind:Int) (reg name:ByteArray) (ex:Ex) (count:Int) (thn els:List St)
structure Bd where
 regs:Int
 acts:List Ac
structure Un where
 cells:List Int
 mutexes:Int
 threads:List Bd
namespace Ex
def kind:Ex -> Int | .mk k _ _ _=>k
def num:Ex -> Int | .mk _ n _ _=>n
def nm:Ex -> ByteArray | .mk _ _ s _=>s
def args:Ex -> List Ex | .mk _ _ _ l=>l
mutual
def cnt:Ex -> Nat
 | .mk _ _ _ l=>1+zY l
def zY:List Ex -> Nat
 | []=>0
 | x :: r=>cnt x+zY r
end
mutual
def dep:Ex -> Nat
 | .mk _ _ _ l=>zCZ l+1
def zCZ:List Ex -> Nat
 | []=>0
 | x :: r=>max (dep x) (zCZ r)
end
end Ex
def zW (s:ByteArray):Bool:=s.size==0
def zAE (k num:Int) (nm:ByteArray) (n:Nat) (regs:Int):Bool :=
 if k=1 then decide (0 <= num)&&decide (num <= 2147483647)&&zW nm&&n==0
 else if k=2 then decide (0 <= num)&&decide (num < regs)&&zW nm&&n==0
 else decide (3 <= k)&&decide (k <= 17)&&num==0&&zW nm&&n==(if k=3 \/ k=4 then 1 else 2)
mutual
def Ex.may (regs:Int):Ex -> Bool
 | .mk k num nm l=>zAE k num nm l.length regs&&Ex.zAC regs l
def Ex.zAC (regs:Int):List Ex -> Bool
 | []=>true
 | x :: r=>Ex.may regs x&&Ex.zAC regs r
end
def Ex.none:Ex -> Bool
 | .mk k num nm l=>k==0&&num==0&&zW nm&&l.isEmpty
def Ex.there:Ex -> Bool
 | .mk k _ _ l=>k != 0 || !l.isEmpty
structure Fl where
 reg:Bool
 name:Bool
 ex:Bool
 count:Bool
 thn:Bool
 els:Bool
deriving DecidableEq
def fields (k:Int):Fl :=
 if k=1 then ⟨true,false,true,false,false,false⟩
 else if k=2 then ⟨true,true,false,false,false,false⟩
 else if k=3 then ⟨false,true,true,false,false,false⟩
 else if k=4 then ⟨true,true,true,false,false,false⟩
 else if 5 <= k /\ k <= 8 then ⟨false,true,false,false,false,false⟩
 else if k=9 then ⟨false,false,true,false,false,false⟩
 else if k=10 then ⟨false,false,true,false,true,true⟩
 else if k=11 then ⟨false,false,false,true,true,false⟩
 else ⟨false,false,false,false,false,false⟩
def zAb (u:Un) (k:Int):Int:=if 2 <= k /\ k <= 4 then u.cells.length else if k=5 \/ k=6 then u.mutexes else u.threads.length
def zBA (u:Un) (regs k reg obj:Int) (ex:Ex) (count:Int) (nt ne:Nat):Bool :=
 decide (1 <= k)&&decide (k <= 11) &&
 (if (fields k).reg then decide (0 <= reg)&&decide (reg < regs) else reg==0) &&
 (if (fields k).name then decide (0 <= obj)&&decide (obj < zAb u k) else obj==0) &&
 (if (fields k).ex then ex.may regs else ex.none) &&
 (if (fields k).count then decide (0 <= count)&&decide (count <= 1000) else count==0) &&
 ((fields k).thn || nt==0)&&((fields k).els || ne==0)
mutual
def Ac.may (u:Un) (regs:Int):Ac -> Bool
 | .mk k reg obj ex count t e=>zBA u regs k reg obj ex count t.length e.length&&Ac.zAC u regs t&&Ac.zAC u regs e
def Ac.zAC (u:Un) (regs:Int):List Ac -> Bool
 | []=>true
 | x :: r=>Ac.may u regs x&&Ac.zAC u regs r
end
mutual
def Ac.cnt:Ac -> Nat
 | .mk _ _ _ ex _ t e=>1+(if ex.there then ex.cnt else 0)+Ac.zY t+Ac.zY e
def Ac.zY:List Ac -> Nat
 | []=>0
 | x :: r=>Ac.cnt x+Ac.zY r
end
mutual
def Ac.deep (d:Nat):Ac -> Nat
 | .mk _ _ _ ex _ t e=>max (max d (if ex.there then ex.dep else 0)) (max (Ac.zm (d+1) t) (Ac.zm (d+1) e))
def Ac.zm (d:Nat):List Ac -> Nat
 | []=>0
 | x :: r=>max (Ac.deep d x) (Ac.zm d r)
end
def zCL (n:Int):Bool:=decide (-2147483647 <= n)&&decide (n <= 2147483647)
def zV (u:Un):Bool :=
 decide (1 <= u.threads.length)&&decide (u.threads.length <= 8)&&decide (u.cells.length <= 8)&&decide (0 <= u.mutexes)&&decide (u.mutexes <= 8)&&u.cells.all zCL &&
 u.threads.all (fun b=>decide (0 <= b.regs)&&decide (b.regs <= 8)&&Ac.zAC u b.regs b.acts) &&
 decide ((u.threads.map fun b=>Ac.zm 1 b.acts).foldr max 0 <= 16)&&decide ((u.threads.map fun b=>Ac.zY b.acts).foldr (·+·) 0 <= 500)
mutual
def Ex.zCH (d:Nat):Ex -> Nat
 | .mk _ _ _ l=>max d (Ex.zCN (d+1) l)
def Ex.zCN (d:Nat):List Ex -> Nat
 | []=>0
 | x :: r=>max (Ex.zCH d x) (Ex.zCN d r)
end
mutual
theorem Ex.zGX (d:Nat):(x:Ex) -> Ex.zCH d x=d+x.dep - 1
 | .mk k n s l=>by
   have h:=Ex.zEA (d+1) l;simp only [Ex.zCH,Ex.dep];rw [h];by_cases hl:l=[]
   ·rw [if_pos hl,hl];simp only [Ex.zCZ];omega
   ·rw [if_neg hl]
    have h5:1 <= Ex.zCZ l:=by
     cases l with
     | nil=>exact absurd rfl hl
     | cons y r=>cases y;simp only [Ex.zCZ,Ex.dep];omega
    omega
theorem Ex.zEA (d:Nat):(l:List Ex) -> Ex.zCN d l=if l=[] then 0 else d+Ex.zCZ l - 1
 | []=>rfl
 | x :: r=>by
   have h1:=Ex.zGX d x;have h2:=Ex.zEA d r;have h3:1 <= x.dep:=by cases x;simp [Ex.dep]
   simp only [Ex.zCN,Ex.zCZ,h1,h2];have h4:¬ (x :: r=[]):=by simp
   rw [if_neg h4];by_cases hr:r=[]
   ·rw [if_pos hr,hr];simp only [Ex.zCZ];omega
   ·rw [if_neg hr]
    have h5:1 <= Ex.zCZ r:=by
     cases r with
     | nil=>exact absurd rfl hr
     | cons y r=>cases y;simp only [Ex.zCZ,Ex.dep];omega
    omega
end
theorem Ex.zEZ (x:Ex):Ex.zCH 1 x=x.dep:=by rw [Ex.zGX];omega
end Go.Proofs.YtfokdllgnblamaaGreatDoor
namespace Go.Proofs.YtfokdllgnblamaaGreatDoor
open Go.RowKit
structure Keeps (S:Nat -> Prop) (w w':World):Prop where
 os:w'.os=w.os
 tape:w'.tape=w.tape
 output:w'.output=w.output
 size:w.heap.size <= w'.heap.size
 block:∀ k,k < w.heap.size -> ¬ S k -> w'.heap[k]?=w.heap[k]?
namespace Keeps
variable {S S':Nat -> Prop} {w w' w'':World}
theorem refl (S:Nat -> Prop) (w:World):Keeps S w w:=⟨rfl,rfl,rfl,yV _,fun _ _ _=>rfl⟩
theorem trans (h:Keeps S w w') (k:Keeps S' w' w'') (hs:∀ k,k < w.heap.size -> S' k -> S k):Keeps S w w'' :=
 ⟨k.os.trans h.os,k.tape.trans h.tape,k.output.trans h.output,yU h.size k.size,
  fun i hi hn=>(k.block i (yI hi h.size) (fun h'=>hn (hs i hi h'))).trans (h.block i hi hn)⟩
theorem mono (h:Keeps S' w w') (hs:∀ k,k < w.heap.size -> S' k -> S k):Keeps S w w' :=
 ⟨h.os,h.tape,h.output,h.size,fun i hi hn=>h.block i hi (fun h'=>hn (hs i hi h'))⟩
theorem drewN (h:Keeps S w w') (n:Nat):Keeps S w (w'.drewN n):=⟨h.os,h.tape,h.output,h.size,h.block⟩
theorem drew (h:Keeps S w w'):Keeps S w w'.drew:=⟨h.os,h.tape,h.output,h.size,h.block⟩
theorem alloc (h:Keeps S w w') (o:Obj):Keeps S w (w'.alloc o) :=
 h.trans (S':=fun _=>False) ⟨rfl,rfl,rfl,by simp,fun k hk _=>Below.heap_alloc _ _ _ hk⟩ (fun _ _ h=>h.elim)
theorem setCell (h:Keeps S w w') {p:Addr} (hp:p.block < w.heap.size -> S p.block) (u:Value):Keeps S w (w'.setCell p u) :=
 h.trans (S':=fun k=>k=p.block) ⟨rfl,rfl,rfl,by simp [World.setCell],fun k _ hn=>Below.heap_setCell _ _ _ _ hn⟩ (fun k hk e=>by subst e;exact hp hk)
theorem grown (h:Keeps S w w') {row:Option Nat} (hg:w'.grownBy w'' row) (hr:∀ k,row=some k -> k < w.heap.size -> S k):Keeps S w w'' :=
 h.trans (S':=fun k=>row=some k) ⟨hg.os,hg.tape,hg.output,hg.size,fun k hk hn=>hg.block k hk (fun e=>hn e.symm)⟩ (fun k hk e=>hr k e hk)
theorem cell (h:Keeps S w w') {p:Addr} {v:Value} (hp:¬ S p.block) (hc:w.cell? p=some v):w'.cell? p=some v :=
 (World.cell?_of_block (h.block p.block (xP w p hc) hp)).trans hc
theorem heap (h:Keeps S w w') {k:Nat} {o:Obj} (hp:¬ S k) (hc:w.heap[k]?=some o):w'.heap[k]?=some o :=
 (h.block k (lt_of_block hc) hp).trans hc
theorem below (h:Keeps S w w') {B:Nat} (hs:∀ k,k < w.heap.size -> S k -> B <= k) (hB:B <= w.heap.size):Below B w w' :=
 ⟨h.os,h.tape,h.output,h.size,fun k hk=>h.block k (by omega) (fun h'=>by have:=hs k (by omega) h';omega)⟩
end Keeps
theorem zf (W:World) (o1 o2:Obj):((W.alloc o1).alloc o2).heap[W.heap.size+1]?=some o2:=by
 have h:=yG (W.alloc o1) o2;have e:(W.alloc o1).heap.size=W.heap.size+1:=by simp
 rw [e] at h;exact h
def zA:Nat -> Prop:=fun _=>False
theorem zF {S:Nat -> Prop} {w w':World} {base e size n:Nat} {v:Value} {xs:List Value} (h:w.ownsRow base e size v n xs) (hk:Keeps S w w') (hn:∀ k,v.ownBlock=some k -> ¬ S k):w'.ownsRow base e size v n xs:=by
 obtain ⟨h1,h2⟩:=h;refine ⟨h1,?_⟩
 rcases h2 with h2 | ⟨g,cap,cur,hv,hg,hh,r⟩
 ·exact Or.inl h2
 ·exact Or.inr ⟨g,cap,cur,hv,hg,hk.heap (hn g (by rw [hv];rfl)) hh,r⟩
theorem zw {α:Type} (f:α -> List Value) (k:Nat) (hf:∀ x,(f x).length=k) (L:List α):(L.flatMap f).length=L.length*k:=by
 induction L with
 | nil=>simp
 | cons x L ih=>simp only [List.flatMap_cons,xE,hf,ih,xQ];rw [vH];omega
theorem zBL {α:Type} (f:α -> List Value) (k:Nat) (hf:∀ x,(f x).length=k) (L:List α) (i j:Nat) (hj:j < k):(L.flatMap f)[i*k+j]?=(L[i]?).bind fun x=>(f x)[j]?:=by
 induction L generalizing i with
 | nil=>simp
 | cons x L ih =>
   rw [List.flatMap_cons];cases i with
   | zero=>rw [Nat.zero_mul,xC,xK (by rw [hf];exact hj)];simp
   | succ i =>
     have e:(i+1)*k+j=(f x).length+(i*k+j):=by rw [hf,vH];omega
     rw [e,yY (by omega),vN,ih];simp
theorem zDh {α:Type} (f:α -> List Value) (k:Nat) (hf:∀ x,(f x).length=k) (L:List α) (i j:Nat) (hj:j < k) (u:Value) (x y:α) (hx:L[i]?=some x) (hy:f y=(f x).set j u) :
 (L.flatMap f).set (i*k+j) u=(L.set i y).flatMap f:=by
 induction L generalizing i with
 | nil=>simp at hx
 | cons z L ih =>
   rw [List.flatMap_cons];cases i with
   | zero =>
     simp only [yC,yP] at hx;subst hx;rw [Nat.zero_mul,xC,List.set_append_left _ _ (by rw [hf];exact hj),yK,List.flatMap_cons,hy]
   | succ i =>
     have e:(i+1)*k+j=(f z).length+(i*k+j):=by rw [hf,vH];omega
     rw [e,uP _ _ (by omega),vN,yF,List.flatMap_cons,ih i (by simpa using hx)]
def zEE (w:World) (v:Value) (xs:List Int):Prop :=
 ∃ ad cap,v=.slice ad xs.length cap /\ (ad=none -> xs=[]) /\ ∀ g o s,ad=some ⟨g,o,s⟩ -> s=none /\ ∀ i,i < xs.length -> w.cell? ⟨g,o+i,none⟩=some (.int .i64 (xs.getD i 0))
theorem zEE.keeps {S:Nat -> Prop} {w w':World} {v:Value} {xs:List Int} (h:zEE w v xs) (hk:Keeps S w w') (hn:∀ k,v.ownBlock=some k -> ¬ S k):zEE w' v xs:=by
 obtain ⟨ad,cap,rfl,h1,h2⟩:=h;refine ⟨ad,cap,rfl,h1,fun g o s e=>⟨(h2 g o s e).1,fun i hi=>?_⟩⟩
 exact hk.cell (hn g (by rw [e];rfl)) ((h2 g o s e).2 i hi)
theorem zEE.len {w:World} {v:Value} {xs:List Int} (h:zEE w v xs):∃ ad cap,v=.slice ad xs.length cap:=by
 obtain ⟨ad,cap,e,_⟩:=h;exact ⟨ad,cap,e⟩
theorem zKN (xs:List Int) (i:Nat) (hi:i < xs.length):(xs.map (Value.int .i64))[i]?=some (.int .i64 (xs.getD i 0)):=by
 rw [uO,yJ hi];simp [List.getD,hi]
theorem zEE.ofRow {w:World} {e:TypeId} {base:Nat} {v:Value} {xs:List Int} (h:w.ownsRow base e 1 v xs.length (xs.map (Value.int .i64))):zEE w v xs:=by
 rcases h.2 with ⟨hv,hn⟩ | ⟨g,cap,cur,hv,hg,hh,r⟩
 ·exact ⟨none,0,by rw [hv,hn],fun _=>vI hn,fun g o s e=>by cases e⟩
 ·refine ⟨_,cap,hv,fun e=>by (cases e),fun g' o s e=>?_⟩
  cases e;refine ⟨rfl,fun i hi=>?_⟩
  rw [xC];subst hv;rw [h.cellAt i (by omega)];exact zKN xs i hi
def zBQ (w:World) (F:Nat -> Prop) (sz n:Nat) (ad:Option Addr) (css:Nat -> List Value):Prop :=
 ∀ i,i < n -> ∃ g o,ad=some ⟨g,o,none⟩ /\ F g /\ (css i).length=sz /\ ∀ j u,(css i)[j]?=some u -> w.cell? ⟨g,o+(i*sz+j),none⟩=some u
theorem zBQ.keeps {S F:Nat -> Prop} {w w':World} {sz n:Nat} {ad:Option Addr} {css:Nat -> List Value} (h:zBQ w F sz n ad css) (hk:Keeps S w w') (hS:∀ k,F k -> ¬ S k):zBQ w' F sz n ad css:=fun i hi=>by
 obtain ⟨g,o,e,hg,hl,hc⟩:=h i hi;exact ⟨g,o,e,hg,hl,fun j u hj=>hk.cell (p:=⟨g,_,none⟩) (hS g hg) (hc j u hj)⟩
theorem zBQ.mono {F F':Nat -> Prop} {w:World} {sz n:Nat} {ad:Option Addr} {css:Nat -> List Value} (h:zBQ w F sz n ad css) (hF:∀ k,F k -> F' k):zBQ w F' sz n ad css:=fun i hi=>by
 obtain ⟨g,o,e,hg,hl,hc⟩:=h i hi;exact ⟨g,o,e,hF g hg,hl,hc⟩
inductive zBC (w:World) (F:Nat -> Prop):Ex -> List Value -> Prop where
 | mk (k num:Int) (nm:ByteArray) (args:List Ex) (ad:Option Addr) (cap:Nat) (css:Nat -> List Value) (h0:zBQ w F 4 args.length ad css)
    (h1:∀ i x,args[i]?=some x -> zBC w F x (css i)):zBC w F (.mk k num nm args) [.int .i64 k, .int .i64 num, .string nm, .slice ad args.length cap]
theorem zBC.keeps {S F:Nat -> Prop} {w w':World} {x:Ex} {cs:List Value} (h:zBC w F x cs) (hk:Keeps S w w') (hS:∀ k,F k -> ¬ S k):zBC w' F x cs:=by
 induction h with
 | mk k num nm args ad cap css h0 _ ih=>exact .mk k num nm args ad cap css (h0.keeps hk hS) ih
theorem zBC.mono {F F':Nat -> Prop} {w:World} {x:Ex} {cs:List Value} (h:zBC w F x cs) (hF:∀ k,F k -> F' k):zBC w F' x cs:=by
 induction h with
 | mk k num nm args ad cap css h0 _ ih=>exact .mk k num nm args ad cap css (h0.mono hF) ih
inductive zCm (w:World) (F:Nat -> Prop):Ac -> List Value -> Prop where
 | mk (k reg obj:Int) (ex:Ex) (count:Int) (t e:List Ac) (xs:List Value) (ta ea:Option Addr) (tc ec:Nat) (tss ess:Nat -> List Value) (hx:zBC w F ex xs)
    (t0:zBQ w F 10 t.length ta tss) (t1:∀ i x,t[i]?=some x -> zCm w F x (tss i)) (e0:zBQ w F 10 e.length ea ess) (e1:∀ i x,e[i]?=some x -> zCm w F x (ess i)) :
    zCm w F (.mk k reg obj ex count t e) ([.int .i64 k, .int .i64 reg, .int .i64 obj]++xs++[.int .i64 count, .slice ta t.length tc, .slice ea e.length ec])
theorem zCm.keeps {S F:Nat -> Prop} {w w':World} {x:Ac} {cs:List Value} (h:zCm w F x cs) (hk:Keeps S w w') (hS:∀ k,F k -> ¬ S k):zCm w' F x cs:=by
 induction h with
 | mk k reg obj ex count t e xs ta ea tc ec tss ess hx t0 _ e0 _ ih1 ih2=>exact .mk k reg obj ex count t e xs ta ea tc ec tss ess (hx.keeps hk hS) (t0.keeps hk hS) ih1 (e0.keeps hk hS) ih2
inductive zBw (w:World) (F:Nat -> Prop):St -> List Value -> Prop where
 | mk (k:Int) (reg name:ByteArray) (ex:Ex) (count:Int) (t e:List St) (xs:List Value) (ta ea:Option Addr) (tc ec:Nat) (tss ess:Nat -> List Value) (hx:zBC w F ex xs)
    (t0:zBQ w F 10 t.length ta tss) (t1:∀ i x,t[i]?=some x -> zBw w F x (tss i)) (e0:zBQ w F 10 e.length ea ess) (e1:∀ i x,e[i]?=some x -> zBw w F x (ess i)) :
    zBw w F (.mk k reg name ex count t e) ([.int .i64 k, .string reg, .string name]++xs++[.int .i64 count, .slice ta t.length tc, .slice ea e.length ec])
theorem zBw.keeps {S F:Nat -> Prop} {w w':World} {x:St} {cs:List Value} (h:zBw w F x cs) (hk:Keeps S w w') (hS:∀ k,F k -> ¬ S k):zBw w' F x cs:=by
 induction h with
 | mk k reg name ex count t e xs ta ea tc ec tss ess hx t0 _ e0 _ ih1 ih2=>exact .mk k reg name ex count t e xs ta ea tc ec tss ess (hx.keeps hk hS) (t0.keeps hk hS) ih1 (e0.keeps hk hS) ih2
theorem zBw.mono {F F':Nat -> Prop} {w:World} {x:St} {cs:List Value} (h:zBw w F x cs) (hF:∀ k,F k -> F' k):zBw w F' x cs:=by
 induction h with
 | mk k reg name ex count t e xs ta ea tc ec tss ess hx t0 _ e0 _ ih1 ih2=>exact .mk k reg name ex count t e xs ta ea tc ec tss ess (hx.mono hF) (t0.mono hF) ih1 (e0.mono hF) ih2
theorem zBC.len {w:World} {F:Nat -> Prop} {x:Ex} {cs:List Value} (h:zBC w F x cs):cs.length=4:=by cases h;rfl
theorem zCm.len {w:World} {F:Nat -> Prop} {x:Ac} {cs:List Value} (h:zCm w F x cs):cs.length=10:=by
 cases h with
 | mk k reg obj ex count t e xs ta ea tc ec tss ess hx=>simp [hx.len]
theorem zBw.len {w:World} {F:Nat -> Prop} {x:St} {cs:List Value} (h:zBw w F x cs):cs.length=10:=by
 cases h with
 | mk k reg name ex count t e xs ta ea tc ec tss ess hx=>simp [hx.len]
theorem zBC.show {w:World} {F:Nat -> Prop} {x:Ex} {cs:List Value} (h:zBC w F x cs):∃ ad cap css,cs=[.int .i64 x.kind, .int .i64 x.num, .string x.nm, .slice ad x.args.length cap] /\ zBQ w F 4 x.args.length ad css /\ ∀ i y,x.args[i]?=some y -> zBC w F y (css i):=by
 cases h with
 | mk k num nm args ad cap css h0 h1=>exact ⟨ad,cap,css,rfl,h0,h1⟩
theorem zFJ {w:World} {b o n:Nat} (ht:w.there b o n) (vs:List Value) (hn:vs.length <= n):(w.setCells b o vs).there b o n:=by
 intro j hj
 refine ⟨?_,by rw [World.frozen?_setCells];exact (ht j hj).2⟩
 rcases xL j vs.length with hlt | hge
 ·rw [World.cell?_setCells_in b vs o w (fun i hi=>(ht i (by omega)).1) j hlt];rfl
 ·rw [World.cell?_setCells_out b vs o w ⟨b,o+j,none⟩ (fun _ _=>.inr (by show o+vs.length <= o+j;omega))]
  exact (ht j hj).1
theorem Keeps.setCells {S:Nat -> Prop} {w:World} {b:Nat} (hb:b < w.heap.size -> S b):∀ (vs:List Value) (o:Nat) (w':World),Keeps S w w' -> Keeps S w (w'.setCells b o vs)
 | [],_,_,h=>h
 | v :: r,o,w',h=>Keeps.setCells hb r (o+1) _ (h.setCell (p:=⟨b,o,none⟩) hb v)
theorem zJj {w:World} {b o:Nat} {cs:List Value} (h:w.rangeAt b o cs) (k:Nat) (hk:k < cs.length) (u:Value):(w.setCell ⟨b,o+k,none⟩ u).rangeAt b o (cs.set k u):=by
 intro j v hj
 by_cases e:j=k
 ·subst e
  rw [yX hk] at hj;obtain ⟨x,hx⟩:∃ x,cs[j]?=some x:=⟨_,yJ hk⟩
  cases hj;exact kH _ _ _ (h j x hx)
 ·rw [uB (fun e'=>e e'.symm)] at hj
  rw [vE _ _ _ _ (by simp;try omega)];exact h j v hj
theorem zFy {w:World} {b:Nat} {cs:List Value} {t:TypeId} {fr:Nat × Nat} (h:w.heap[b]?=some (.cells cs.toArray t fr)):w.rangeAt b 0 cs:=fun j v hj=>by
 rw [xC,cell_of_row w b j _ t fr h];simpa using hj
theorem zFt {w:World} {b:Nat} {cs:List Value} {t:TypeId} (h:w.heap[b]?=some (.cells cs.toArray t (0,0))):w.there b 0 cs.length:=fun j hj=>by
 refine ⟨?_,?_⟩
 ·rw [xC,cell_of_row w b j _ t _ h]
  simp [hj]
 ·exact frozen_of_row w b _ _ _ h
theorem zID {S:Nat -> Prop} {w w':World} {b o:Nat} {cs:List Value} (h:w.rangeAt b o cs) (hk:Keeps S w w') (hb:¬ S b):w'.rangeAt b o cs:=fun j v hj=>hk.cell (p:=⟨b,o+j,none⟩) hb (h j v hj)
theorem zFB {S:Nat -> Prop} {w w':World} {b o n:Nat} (h:w.there b o n) (hk:Keeps S w w') (hb:¬ S b):w'.there b o n:=fun j hj=>by
 obtain ⟨h1,h2⟩:=h j hj;obtain ⟨v,hv⟩:=Option.isSome_iff_exists.1 h1;have hlt:=xP w _ hv;refine ⟨by rw [World.cell?_of_block (hk.block b hlt hb)];exact h1,by rw [World.frozen?_of_block (hk.block b hlt hb)];exact h2⟩
structure zC (w:World) (g:Nat) (cs:List Value):Prop where
 rng:w.rangeAt g 0 cs
 thr:w.there g 0 cs.length
namespace zC
theorem cell {w:World} {g:Nat} {cs:List Value} (h:zC w g cs) {k:Nat} {v:Value} (hk:cs[k]?=some v):w.cell? ⟨g,k,none⟩=some v:=by
 have:=h.rng k v hk
 rwa [xC] at this
theorem free {w:World} {g:Nat} {cs:List Value} (h:zC w g cs) {k:Nat} (hk:k < cs.length):w.frozen? ⟨g,k,none⟩=false:=by
 have:=(h.thr k hk).2
 rwa [xC] at this
theorem lt {w:World} {g:Nat} {cs:List Value} (h:zC w g cs) (hn:cs ≠ []):g < w.heap.size:=by
 cases cs with
 | nil=>exact absurd rfl hn
 | cons a r=>exact xP w ⟨g,0,none⟩ (h.cell (k:=0) (v:=a) rfl)
theorem keeps {S:Nat -> Prop} {w w':World} {g:Nat} {cs:List Value} (h:zC w g cs) (hk:Keeps S w w') (hg:¬ S g):zC w' g cs :=
 ⟨zID h.rng hk hg,zFB h.thr hk hg⟩
theorem set {w:World} {g:Nat} {cs:List Value} (h:zC w g cs) (k:Nat) (hk:k < cs.length) (u:Value):zC (w.setCell ⟨g,k,none⟩ u) g (cs.set k u):=by
 have h1:=zJj h.rng k hk u;have h2:=zFJ h.thr [] (yH _);rw [xC] at h1;refine ⟨h1,fun j hj=>?_⟩
 rw [xA] at hj;obtain ⟨a,b⟩:=h.thr j hj;refine ⟨?_,by rw [World.frozen?_setCell];exact b⟩
 by_cases e:0+j=k
 ·obtain ⟨v,hv⟩:=Option.isSome_iff_exists.1 a
  rw [<- e,kH _ _ _ hv];rfl
 ·rw [vE _ _ _ _ (by simp;try omega)]
  exact a
theorem other {w:World} {g:Nat} {cs:List Value} (h:zC w g cs) {p:Addr} (hp:p.block ≠ g) (u:Value):zC (w.setCell p u) g cs :=
 h.keeps (S:=fun k=>k=p.block) (Keeps.setCell (p:=p) (Keeps.refl (fun k=>k=p.block) w) (fun _=>rfl) u) (fun e=>hp e.symm)
theorem zD {w:World} {g:Nat} {cs:List Value} {t:TypeId} (h:w.heap[g]?=some (.cells cs.toArray t (0,0))):zC w g cs:=⟨zFy h,zFt h⟩
theorem zAm {w:World} {base e size n cap:Nat} {g:Nat} {xs:List Value} (h:w.ownsRow base e size (.slice (some ⟨g,0,none⟩) n cap) n xs):zC w g xs:=by
 refine ⟨fun j v hj=>?_,fun j hj=>⟨?_,?_⟩⟩
 ·rw [xC,World.ownsRow.cellAt h j (by have:=(yO.1 hj).1;rw [h.1] at this;exact this)]
  exact hj
 ·rw [xC,World.ownsRow.cellAt h j (by rw [h.1] at hj;exact hj),yJ hj];rfl
 ·rcases h.2 with ⟨h',_⟩ | ⟨g',cap',cur,h',_,hg,_⟩
  ·simp at h'
  ·simp only [xX,yP,Addr.mk.injEq,and_true,true_and] at h'
   obtain ⟨rfl,_⟩:=h';exact frozen_of_row w g _ cur _ hg
theorem drewN {w:World} {g:Nat} {cs:List Value} (h:zC w g cs) (n:Nat):zC (w.drewN n) g cs:=h.keeps (S:=zA) ((Keeps.refl _ _).drewN n) (fun h=>h)
theorem alloc {w:World} {g:Nat} {cs:List Value} (h:zC w g cs) (o:Obj):zC (w.alloc o) g cs:=h.keeps (S:=zA) ((Keeps.refl _ _).alloc o) (fun h=>h)
end zC
end Go.Proofs.YtfokdllgnblamaaGreatDoor
