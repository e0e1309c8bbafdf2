/- Layer M: texts joined. -/
import Derived.Test.YtfokdllgnblamaaGreatDoorRows
import Derived.WalkSpells
import Derived.WalkLawsBesides
import Derived.Lib.Hide
import Derived.Deep.RegionHeld3
import Derived.Deep.AppendLies
import Derived.Deep.Cut
import Derived.Great.Walk
import Derived.Deep.WholeRow
set_option linter.all false
set_option maxRecDepth 8000
namespace Go.Proofs.YtfokdllgnblamaaGreatDoor
abbrev yh:=@Option.isSome_iff_exists
abbrev yg:=@Go.World.cell?_setCell_same
abbrev kP:=@List.set_append_right
abbrev kJ:=@List.mem_cons_self
abbrev vQ:=@List.mem_cons_of_mem
abbrev vP:=@List.eq_nil_of_length_eq_zero
abbrev vO:=@Nat.add_mul
abbrev vH:=@Classical.byContradiction
abbrev vG:=@Go.World.cell?_setCell_other
abbrev uY:=@List.map_cons
abbrev uS:=@List.length_set
abbrev uQ:=@List.getElem?_set_ne
abbrev uP:=@Nat.add_sub_cancel_left
abbrev uN:=@Go.Value.slice.injEq
abbrev uB:=@List.length_cons
abbrev uA:=@decide_eq_true
abbrev xX:=@List.length_append
abbrev xU:=@List.mem_cons
abbrev xT:=@Go.World.block_lt_of_cell?
abbrev xS:=@List.getElem?_append_left
abbrev xQ:=@List.drop_length
abbrev xM:=@Nat.lt_or_ge
abbrev xL:=@decide_eq_false
abbrev xJ:=@List.getElem?_append_right
abbrev xH:=@List.getElem?_set_self
abbrev xC:=@Nat.le_refl
abbrev xA:=@Nat.zero_add
abbrev yX:=@Nat.le_trans
abbrev yU:=@Bool.and_eq_true
abbrev yS:=@List.drop_zero
abbrev yR:=@List.getElem?_eq_getElem
abbrev yQ:=@List.getElem?_eq_some_iff
abbrev yP:=@Option.some.injEq
abbrev yO:=@List.getElem_mem
abbrev yL:=@Go.heap_alloc_new
abbrev yK:=@Nat.zero_le
abbrev yJ:=@Nat.lt_of_lt_of_le
abbrev yI:=@List.set_cons_succ
abbrev yH:=@List.set_cons_zero
abbrev yE:=@List.getElem?_cons_zero
abbrev yC:=@Go.Lib.hid
theorem J48 (P:Prop) (h:P:=by
 go_wp2_with fail
 go_ret
 exact ⟨by rw [<- hd];rfl,K1.out.zB HK.out⟩):P:=h
theorem J85 (P:Prop) (h:P:=by
 obtain ⟨css,h0,h1⟩:=h;exact ⟨css,h0.keeps hk hS,fun i y e=>(h1 i y e).keeps hk hS⟩):P:=h
theorem J96 (P:Prop) (h:P:=by
 obtain ⟨css,h0,h1⟩:=h;exact ⟨css,h0.mono hF,fun i y e=>(h1 i y e).mono hF⟩):P:=h
theorem J109 (P:Prop) (h:P:=by
 go_roundw
 case rel=>exact ⟨i+1,n+m,by omega,by go_num,by go_num,by show _=_;have:=HD.out;omega,HK.out.zB G1.out⟩
 case measure=>simp [intOf];omega):P:=h
theorem J189 (P:Prop) (h:P:=by rw [hb1];exact zC.zF (yL w _)):P:=h
theorem J193 (P:Prop) (h:P:=by simp [Value.ownBlock] at e):P:=h
theorem J259 (P:Prop) (h:P:=by simpa [Value.ownBlock] using e):P:=h
inductive Ex where
 | mk (kind num:Int) (nm:ByteArray) (args:List Ex)
inductive Ac where
 | mk (kind reg obj:Int) (ex:Ex) (count:Int) (thn els:List Ac)
inductive St where
 | mk (kind:Int) (reg name:ByteArray) (ex:Ex) (count:Int) (thn els:List St)
structure Bd where
 regs:Int
 acts:List Ac
structure Un where
 cells:List Int
 mutexes:Int
 threads:List Bd
namespace Ex
def kind:Ex -> Int | .mk k _ _ _=>k
def num:Ex -> Int | .mk _ n _ _=>n
def nm:Ex -> ByteArray | .mk _ _ s _=>s
def args:Ex -> List Ex | .mk _ _ _ l=>l
mutual
def cnt:Ex -> Nat
 | .mk _ _ _ l=>1+zX l
def zX:List Ex -> Nat
 | []=>0
 | x :: r=>cnt x+zX r
end
mutual
def dep:Ex -> Nat
 | .mk _ _ _ l=>zCd l+1
def zCd:List Ex -> Nat
 | []=>0
 | x :: r=>max (dep x) (zCd r)
end
end Ex
def zZ (s:ByteArray):Bool:=s.size==0
def zAK (k num:Int) (nm:ByteArray) (n:Nat) (regs:Int):Bool :=
 if k=1 then decide (0 <= num)&&decide (num <= 2147483647)&&zZ nm&&n==0
 else if k=2 then decide (0 <= num)&&decide (num < regs)&&zZ nm&&n==0
 else decide (3 <= k)&&decide (k <= 17)&&num==0&&zZ nm&&n==(if k=3 \/ k=4 then 1 else 2)
mutual
def Ex.may (regs:Int):Ex -> Bool
 | .mk k num nm l=>zAK k num nm l.length regs&&Ex.zAM regs l
def Ex.zAM (regs:Int):List Ex -> Bool
 | []=>true
 | x :: r=>Ex.may regs x&&Ex.zAM regs r
end
def Ex.none:Ex -> Bool
 | .mk k num nm l=>k==0&&num==0&&zZ nm&&l.isEmpty
def Ex.there:Ex -> Bool
 | .mk k _ _ l=>k != 0 || !l.isEmpty
structure Fl where
 reg:Bool
 name:Bool
 ex:Bool
 count:Bool
 thn:Bool
 els:Bool
deriving DecidableEq
def fields (k:Int):Fl :=
 if k=1 then ⟨true,false,true,false,false,false⟩
 else if k=2 then ⟨true,true,false,false,false,false⟩
 else if k=3 then ⟨false,true,true,false,false,false⟩
 else if k=4 then ⟨true,true,true,false,false,false⟩
 else if 5 <= k /\ k <= 8 then ⟨false,true,false,false,false,false⟩
 else if k=9 then ⟨false,false,true,false,false,false⟩
 else if k=10 then ⟨false,false,true,false,true,true⟩
 else if k=11 then ⟨false,false,false,true,true,false⟩
 else ⟨false,false,false,false,false,false⟩
def zBR (u:Un) (k:Int):Int:=if 2 <= k /\ k <= 4 then u.cells.length else if k=5 \/ k=6 then u.mutexes else u.threads.length
def zBT (u:Un) (regs k reg obj:Int) (ex:Ex) (count:Int) (nt ne:Nat):Bool :=
 decide (1 <= k)&&decide (k <= 11) &&
 (if (fields k).reg then decide (0 <= reg)&&decide (reg < regs) else reg==0) &&
 (if (fields k).name then decide (0 <= obj)&&decide (obj < zBR u k) else obj==0) &&
 (if (fields k).ex then ex.may regs else ex.none) &&
 (if (fields k).count then decide (0 <= count)&&decide (count <= 1000) else count==0) &&
 ((fields k).thn || nt==0)&&((fields k).els || ne==0)
mutual
def Ac.may (u:Un) (regs:Int):Ac -> Bool
 | .mk k reg obj ex count t e=>zBT u regs k reg obj ex count t.length e.length&&Ac.zAM u regs t&&Ac.zAM u regs e
def Ac.zAM (u:Un) (regs:Int):List Ac -> Bool
 | []=>true
 | x :: r=>Ac.may u regs x&&Ac.zAM u regs r
end
mutual
def Ac.cnt:Ac -> Nat
 | .mk _ _ _ ex _ t e=>1+(if ex.there then ex.cnt else 0)+Ac.zX t+Ac.zX e
def Ac.zX:List Ac -> Nat
 | []=>0
 | x :: r=>Ac.cnt x+Ac.zX r
end
mutual
def Ac.deep (d:Nat):Ac -> Nat
 | .mk _ _ _ ex _ t e=>max (max d (if ex.there then ex.dep else 0)) (max (Ac.zy (d+1) t) (Ac.zy (d+1) e))
def Ac.zy (d:Nat):List Ac -> Nat
 | []=>0
 | x :: r=>max (Ac.deep d x) (Ac.zy d r)
end
def zCV (n:Int):Bool:=decide (-2147483647 <= n)&&decide (n <= 2147483647)
def zU (u:Un):Bool :=
 decide (1 <= u.threads.length)&&decide (u.threads.length <= 8)&&decide (u.cells.length <= 8)&&decide (0 <= u.mutexes)&&decide (u.mutexes <= 8)&&u.cells.all zCV &&
 u.threads.all (fun b=>decide (0 <= b.regs)&&decide (b.regs <= 8)&&Ac.zAM u b.regs b.acts) &&
 decide ((u.threads.map fun b=>Ac.zy 1 b.acts).foldr max 0 <= 16)&&decide ((u.threads.map fun b=>Ac.zX b.acts).foldr (·+·) 0 <= 500)
mutual
def Ex.zCK (d:Nat):Ex -> Nat
 | .mk _ _ _ l=>max d (Ex.zCS (d+1) l)
def Ex.zCS (d:Nat):List Ex -> Nat
 | []=>0
 | x :: r=>max (Ex.zCK d x) (Ex.zCS d r)
end
mutual
theorem Ex.zGR (d:Nat):(x:Ex) -> Ex.zCK d x=d+x.dep - 1
 | .mk k n s l=>by
   have h:=Ex.zEW (d+1) l;simp only [Ex.zCK,Ex.dep];rw [h];by_cases hl:l=[]
   ·rw [if_pos hl,hl];simp only [Ex.zCd];omega
   ·rw [if_neg hl]
    have h5:1 <= Ex.zCd l:=by
     cases l with
     | nil=>exact absurd rfl hl
     | cons y r=>cases y;simp only [Ex.zCd,Ex.dep];omega
    omega
theorem Ex.zEW (d:Nat):(l:List Ex) -> Ex.zCS d l=if l=[] then 0 else d+Ex.zCd l - 1
 | []=>rfl
 | x :: r=>by
   have h1:=Ex.zGR d x;have h2:=Ex.zEW d r;have h3:1 <= x.dep:=by cases x;simp [Ex.dep]
   simp only [Ex.zCS,Ex.zCd,h1,h2];have h4:¬ (x :: r=[]):=by simp
   rw [if_neg h4];by_cases hr:r=[]
   ·rw [if_pos hr,hr];simp only [Ex.zCd];omega
   ·rw [if_neg hr]
    have h5:1 <= Ex.zCd r:=by
     cases r with
     | nil=>exact absurd rfl hr
     | cons y r=>cases y;simp only [Ex.zCd,Ex.dep];omega
    omega
end
theorem Ex.zEf (x:Ex):Ex.zCK 1 x=x.dep:=by rw [Ex.zGR];omega
end Go.Proofs.YtfokdllgnblamaaGreatDoor
namespace Go.Proofs.YtfokdllgnblamaaGreatDoor
open Go.RowKit
theorem eX {α:Sort _} (a:α):∃ z,z=a:=⟨a,rfl⟩
structure Keeps (S:Nat -> Prop) (w w':World):Prop where
 os:w'.os=w.os
 tape:w'.tape=w.tape
 output:w'.output=w.output
 size:w.heap.size <= w'.heap.size
 block:∀ k,k < w.heap.size -> ¬ S k -> w'.heap[k]?=w.heap[k]?
namespace Keeps
variable {S S':Nat -> Prop} {w w' w'':World}
theorem refl (S:Nat -> Prop) (w:World):Keeps S w w:=⟨rfl,rfl,rfl,xC _,fun _ _ _=>rfl⟩
theorem trans (h:Keeps S w w') (k:Keeps S' w' w'') (hs:∀ k,k < w.heap.size -> S' k -> S k):Keeps S w w'' :=
 ⟨k.os.trans h.os,k.tape.trans h.tape,k.output.trans h.output,yX h.size k.size,
  fun i hi hn=>(k.block i (yJ hi h.size) (fun h'=>hn (hs i hi h'))).trans (h.block i hi hn)⟩
theorem mono (h:Keeps S' w w') (hs:∀ k,k < w.heap.size -> S' k -> S k):Keeps S w w' :=
 ⟨h.os,h.tape,h.output,h.size,fun i hi hn=>h.block i hi (fun h'=>hn (hs i hi h'))⟩
theorem drewN (h:Keeps S w w') (n:Nat):Keeps S w (w'.drewN n):=⟨h.os,h.tape,h.output,h.size,h.block⟩
theorem drew (h:Keeps S w w'):Keeps S w w'.drew:=⟨h.os,h.tape,h.output,h.size,h.block⟩
theorem alloc (h:Keeps S w w') (o:Obj):Keeps S w (w'.alloc o) :=
 h.trans (S':=fun _=>False) ⟨rfl,rfl,rfl,by simp,fun k hk _=>Below.heap_alloc _ _ _ hk⟩ (fun _ _ h=>h.elim)
theorem setCell (h:Keeps S w w') {p:Addr} (hp:p.block < w.heap.size -> S p.block) (u:Value):Keeps S w (w'.setCell p u) :=
 h.trans (S':=fun k=>k=p.block) ⟨rfl,rfl,rfl,by simp [World.setCell],fun k _ hn=>Below.heap_setCell _ _ _ _ hn⟩ (fun k hk e=>by subst e;exact hp hk)
theorem grown (h:Keeps S w w') {row:Option Nat} (hg:w'.grownBy w'' row) (hr:∀ k,row=some k -> k < w.heap.size -> S k):Keeps S w w'' :=
 h.trans (S':=fun k=>row=some k) ⟨hg.os,hg.tape,hg.output,hg.size,fun k hk hn=>hg.block k hk (fun e=>hn e.symm)⟩ (fun k hk e=>hr k e hk)
theorem cell (h:Keeps S w w') {p:Addr} {v:Value} (hp:¬ S p.block) (hc:w.cell? p=some v):w'.cell? p=some v :=
 (World.cell?_of_block (h.block p.block (xT w p hc) hp)).trans hc
theorem heap (h:Keeps S w w') {k:Nat} {o:Obj} (hp:¬ S k) (hc:w.heap[k]?=some o):w'.heap[k]?=some o :=
 (h.block k (lt_of_block hc) hp).trans hc
theorem below (h:Keeps S w w') {B:Nat} (hs:∀ k,k < w.heap.size -> S k -> B <= k) (hB:B <= w.heap.size):Below B w w' :=
 ⟨h.os,h.tape,h.output,h.size,fun k hk=>h.block k (by omega) (fun h'=>by have:=hs k (by omega) h';omega)⟩
end Keeps
theorem ze (W:World) (o1 o2:Obj):((W.alloc o1).alloc o2).heap[W.heap.size+1]?=some o2:=by
 have h:=yL (W.alloc o1) o2;have e:(W.alloc o1).heap.size=W.heap.size+1:=by simp
 rw [e] at h;exact h
def zA:Nat -> Prop:=fun _=>False
theorem zG {S:Nat -> Prop} {w w':World} {base e size n:Nat} {v:Value} {xs:List Value} (h:w.ownsRow base e size v n xs) (hk:Keeps S w w') (hn:∀ k,v.ownBlock=some k -> ¬ S k):w'.ownsRow base e size v n xs:=by
 obtain ⟨h1,h2⟩:=h;refine ⟨h1,?_⟩
 rcases h2 with h2 | ⟨g,cap,cur,hv,hg,hh,r⟩
 ·exact Or.inl h2
 ·exact Or.inr ⟨g,cap,cur,hv,hg,hk.heap (hn g (by rw [hv];rfl)) hh,r⟩
theorem zBv {α:Type} (f:α -> List Value) (k:Nat) (hf:∀ x,(f x).length=k) (L:List α):(L.flatMap f).length=L.length*k:=by
 induction L with
 | nil=>simp
 | cons x L ih=>simp only [List.flatMap_cons,xX,hf,ih,uB];rw [vO];omega
theorem zD2 {α:Type} (f:α -> List Value) (k:Nat) (hf:∀ x,(f x).length=k) (L:List α) (i j:Nat) (hj:j < k):(L.flatMap f)[i*k+j]?=(L[i]?).bind fun x=>(f x)[j]?:=by
 induction L generalizing i with
 | nil=>simp
 | cons x L ih =>
   rw [List.flatMap_cons];cases i with
   | zero=>rw [Nat.zero_mul,xA,xS (by rw [hf];exact hj)];simp
   | succ i =>
     have e:(i+1)*k+j=(f x).length+(i*k+j):=by rw [hf,vO];omega
     rw [e,xJ (by omega),uP,ih];simp
theorem zKF {α:Type} (f:α -> List Value) (k:Nat) (hf:∀ x,(f x).length=k) (L:List α) (i j:Nat) (hj:j < k) (u:Value) (x y:α) (hx:L[i]?=some x) (hy:f y=(f x).set j u) :
 (L.flatMap f).set (i*k+j) u=(L.set i y).flatMap f:=by
 induction L generalizing i with
 | nil=>simp at hx
 | cons z L ih =>
   rw [List.flatMap_cons];cases i with
   | zero =>
     simp only [yE,yP] at hx;subst hx;rw [Nat.zero_mul,xA,List.set_append_left _ _ (by rw [hf];exact hj),yH,List.flatMap_cons,hy]
   | succ i =>
     have e:(i+1)*k+j=(f z).length+(i*k+j):=by rw [hf,vO];omega
     rw [e,kP _ _ (by omega),uP,yI,List.flatMap_cons,ih i (by simpa using hx)]
def zBW (w:World) (F:Nat -> Prop) (sz n:Nat) (ad:Option Addr) (css:Nat -> List Value):Prop :=
 ∀ i,i < n -> ∃ g o,ad=some ⟨g,o,none⟩ /\ F g /\ (css i).length=sz /\ ∀ j u,(css i)[j]?=some u -> w.cell? ⟨g,o+(i*sz+j),none⟩=some u
theorem zBW.keeps {S F:Nat -> Prop} {w w':World} {sz n:Nat} {ad:Option Addr} {css:Nat -> List Value} (h:zBW w F sz n ad css) (hk:Keeps S w w') (hS:∀ k,F k -> ¬ S k):zBW w' F sz n ad css:=fun i hi=>by
 obtain ⟨g,o,e,hg,hl,hc⟩:=h i hi;exact ⟨g,o,e,hg,hl,fun j u hj=>hk.cell (p:=⟨g,_,none⟩) (hS g hg) (hc j u hj)⟩
theorem zBW.mono {F F':Nat -> Prop} {w:World} {sz n:Nat} {ad:Option Addr} {css:Nat -> List Value} (h:zBW w F sz n ad css) (hF:∀ k,F k -> F' k):zBW w F' sz n ad css:=fun i hi=>by
 obtain ⟨g,o,e,hg,hl,hc⟩:=h i hi;exact ⟨g,o,e,hF g hg,hl,hc⟩
inductive zBJ (w:World) (F:Nat -> Prop):Ex -> List Value -> Prop where
 | mk (k num:Int) (nm:ByteArray) (args:List Ex) (ad:Option Addr) (cap:Nat) (css:Nat -> List Value) (h0:zBW w F 4 args.length ad css)
    (h1:∀ i x,args[i]?=some x -> zBJ w F x (css i)):zBJ w F (.mk k num nm args) [.int .i64 k, .int .i64 num, .string nm, .slice ad args.length cap]
theorem zBJ.keeps {S F:Nat -> Prop} {w w':World} {x:Ex} {cs:List Value} (h:zBJ w F x cs) (hk:Keeps S w w') (hS:∀ k,F k -> ¬ S k):zBJ w' F x cs:=by
 induction h with
 | mk k num nm args ad cap css h0 _ ih=>exact .mk k num nm args ad cap css (h0.keeps hk hS) ih
theorem zBJ.mono {F F':Nat -> Prop} {w:World} {x:Ex} {cs:List Value} (h:zBJ w F x cs) (hF:∀ k,F k -> F' k):zBJ w F' x cs:=by
 induction h with
 | mk k num nm args ad cap css h0 _ ih=>exact .mk k num nm args ad cap css (h0.mono hF) ih
inductive zCx (w:World) (F:Nat -> Prop):Ac -> List Value -> Prop where
 | mk (k reg obj:Int) (ex:Ex) (count:Int) (t e:List Ac) (xs:List Value) (ta ea:Option Addr) (tc ec:Nat) (tss ess:Nat -> List Value) (hx:zBJ w F ex xs)
    (t0:zBW w F 10 t.length ta tss) (t1:∀ i x,t[i]?=some x -> zCx w F x (tss i)) (e0:zBW w F 10 e.length ea ess) (e1:∀ i x,e[i]?=some x -> zCx w F x (ess i)) :
    zCx w F (.mk k reg obj ex count t e) ([.int .i64 k, .int .i64 reg, .int .i64 obj]++xs++[.int .i64 count, .slice ta t.length tc, .slice ea e.length ec])
theorem zCx.keeps {S F:Nat -> Prop} {w w':World} {x:Ac} {cs:List Value} (h:zCx w F x cs) (hk:Keeps S w w') (hS:∀ k,F k -> ¬ S k):zCx w' F x cs:=by
 induction h with
 | mk k reg obj ex count t e xs ta ea tc ec tss ess hx t0 _ e0 _ ih1 ih2=>exact .mk k reg obj ex count t e xs ta ea tc ec tss ess (hx.keeps hk hS) (t0.keeps hk hS) ih1 (e0.keeps hk hS) ih2
inductive zB0 (w:World) (F:Nat -> Prop):St -> List Value -> Prop where
 | mk (k:Int) (reg name:ByteArray) (ex:Ex) (count:Int) (t e:List St) (xs:List Value) (ta ea:Option Addr) (tc ec:Nat) (tss ess:Nat -> List Value) (hx:zBJ w F ex xs)
    (t0:zBW w F 10 t.length ta tss) (t1:∀ i x,t[i]?=some x -> zB0 w F x (tss i)) (e0:zBW w F 10 e.length ea ess) (e1:∀ i x,e[i]?=some x -> zB0 w F x (ess i)) :
    zB0 w F (.mk k reg name ex count t e) ([.int .i64 k, .string reg, .string name]++xs++[.int .i64 count, .slice ta t.length tc, .slice ea e.length ec])
theorem zB0.keeps {S F:Nat -> Prop} {w w':World} {x:St} {cs:List Value} (h:zB0 w F x cs) (hk:Keeps S w w') (hS:∀ k,F k -> ¬ S k):zB0 w' F x cs:=by
 induction h with
 | mk k reg name ex count t e xs ta ea tc ec tss ess hx t0 _ e0 _ ih1 ih2=>exact .mk k reg name ex count t e xs ta ea tc ec tss ess (hx.keeps hk hS) (t0.keeps hk hS) ih1 (e0.keeps hk hS) ih2
theorem zB0.mono {F F':Nat -> Prop} {w:World} {x:St} {cs:List Value} (h:zB0 w F x cs) (hF:∀ k,F k -> F' k):zB0 w F' x cs:=by
 induction h with
 | mk k reg name ex count t e xs ta ea tc ec tss ess hx t0 _ e0 _ ih1 ih2=>exact .mk k reg name ex count t e xs ta ea tc ec tss ess (hx.mono hF) (t0.mono hF) ih1 (e0.mono hF) ih2
theorem zBJ.len {w:World} {F:Nat -> Prop} {x:Ex} {cs:List Value} (h:zBJ w F x cs):cs.length=4:=by cases h;rfl
theorem zB0.len {w:World} {F:Nat -> Prop} {x:St} {cs:List Value} (h:zB0 w F x cs):cs.length=10:=by
 cases h with
 | mk k reg name ex count t e xs ta ea tc ec tss ess hx=>simp [hx.len]
theorem zBJ.show {w:World} {F:Nat -> Prop} {x:Ex} {cs:List Value} (h:zBJ w F x cs):∃ ad cap css,cs=[.int .i64 x.kind, .int .i64 x.num, .string x.nm, .slice ad x.args.length cap] /\ zBW w F 4 x.args.length ad css /\ ∀ i y,x.args[i]?=some y -> zBJ w F y (css i):=by
 cases h with
 | mk k num nm args ad cap css h0 h1=>exact ⟨ad,cap,css,rfl,h0,h1⟩
theorem zFd {w:World} {b o n:Nat} (ht:w.there b o n) (vs:List Value) (hn:vs.length <= n):(w.setCells b o vs).there b o n:=by
 intro j hj
 refine ⟨?_,by rw [World.frozen?_setCells];exact (ht j hj).2⟩
 rcases xM j vs.length with hlt | hge
 ·rw [World.cell?_setCells_in b vs o w (fun i hi=>(ht i (by omega)).1) j hlt];rfl
 ·rw [World.cell?_setCells_out b vs o w ⟨b,o+j,none⟩ (fun _ _=>.inr (by show o+vs.length <= o+j;omega))]
  exact (ht j hj).1
theorem zKR {w:World} {b o:Nat} {cs:List Value} (h:w.rangeAt b o cs) (k:Nat) (hk:k < cs.length) (u:Value):(w.setCell ⟨b,o+k,none⟩ u).rangeAt b o (cs.set k u):=by
 intro j v hj
 by_cases e:j=k
 ·subst e
  rw [xH hk] at hj;obtain ⟨x,hx⟩:∃ x,cs[j]?=some x:=⟨_,yR hk⟩
  cases hj;exact yg _ _ _ (h j x hx)
 ·rw [uQ (fun e'=>e e'.symm)] at hj
  rw [vG _ _ _ _ (by simp;try omega)];exact h j v hj
theorem zF2 {w:World} {b:Nat} {cs:List Value} {t:TypeId} {fr:Nat × Nat} (h:w.heap[b]?=some (.cells cs.toArray t fr)):w.rangeAt b 0 cs:=fun j v hj=>by
 rw [xA,cell_of_row w b j _ t fr h];simpa using hj
theorem zFs {w:World} {b:Nat} {cs:List Value} {t:TypeId} (h:w.heap[b]?=some (.cells cs.toArray t (0,0))):w.there b 0 cs.length:=fun j hj=>by
 refine ⟨?_,?_⟩
 ·rw [xA,cell_of_row w b j _ t _ h]
  simp [hj]
 ·exact frozen_of_row w b _ _ _ h
theorem zH4 {S:Nat -> Prop} {w w':World} {b o:Nat} {cs:List Value} (h:w.rangeAt b o cs) (hk:Keeps S w w') (hb:¬ S b):w'.rangeAt b o cs:=fun j v hj=>hk.cell (p:=⟨b,o+j,none⟩) hb (h j v hj)
theorem zFX {S:Nat -> Prop} {w w':World} {b o n:Nat} (h:w.there b o n) (hk:Keeps S w w') (hb:¬ S b):w'.there b o n:=fun j hj=>by
 obtain ⟨h1,h2⟩:=h j hj;obtain ⟨v,hv⟩:=yh.1 h1;have hlt:=xT w _ hv;refine ⟨by rw [World.cell?_of_block (hk.block b hlt hb)];exact h1,by rw [World.frozen?_of_block (hk.block b hlt hb)];exact h2⟩
structure zC (w:World) (g:Nat) (cs:List Value):Prop where
 rng:w.rangeAt g 0 cs
 thr:w.there g 0 cs.length
namespace zC
theorem cell {w:World} {g:Nat} {cs:List Value} (h:zC w g cs) {k:Nat} {v:Value} (hk:cs[k]?=some v):w.cell? ⟨g,k,none⟩=some v:=by
 have:=h.rng k v hk
 rwa [xA] at this
theorem free {w:World} {g:Nat} {cs:List Value} (h:zC w g cs) {k:Nat} (hk:k < cs.length):w.frozen? ⟨g,k,none⟩=false:=by
 have:=(h.thr k hk).2
 rwa [xA] at this
theorem lt {w:World} {g:Nat} {cs:List Value} (h:zC w g cs) (hn:cs ≠ []):g < w.heap.size:=by
 cases cs with
 | nil=>exact absurd rfl hn
 | cons a r=>exact xT w ⟨g,0,none⟩ (h.cell (k:=0) (v:=a) rfl)
theorem keeps {S:Nat -> Prop} {w w':World} {g:Nat} {cs:List Value} (h:zC w g cs) (hk:Keeps S w w') (hg:¬ S g):zC w' g cs :=
 ⟨zH4 h.rng hk hg,zFX h.thr hk hg⟩
theorem set {w:World} {g:Nat} {cs:List Value} (h:zC w g cs) (k:Nat) (hk:k < cs.length) (u:Value):zC (w.setCell ⟨g,k,none⟩ u) g (cs.set k u):=by
 have h1:=zKR h.rng k hk u;have h2:=zFd h.thr [] (yK _);rw [xA] at h1;refine ⟨h1,fun j hj=>?_⟩
 rw [uS] at hj;obtain ⟨a,b⟩:=h.thr j hj;refine ⟨?_,by rw [World.frozen?_setCell];exact b⟩
 by_cases e:0+j=k
 ·obtain ⟨v,hv⟩:=yh.1 a
  rw [<- e,yg _ _ _ hv];rfl
 ·rw [vG _ _ _ _ (by simp;try omega)]
  exact a
theorem other {w:World} {g:Nat} {cs:List Value} (h:zC w g cs) {p:Addr} (hp:p.block ≠ g) (u:Value):zC (w.setCell p u) g cs :=
 h.keeps (S:=fun k=>k=p.block) (Keeps.setCell (p:=p) (Keeps.refl (fun k=>k=p.block) w) (fun _=>rfl) u) (fun e=>hp e.symm)
theorem zF {w:World} {g:Nat} {cs:List Value} {t:TypeId} (h:w.heap[g]?=some (.cells cs.toArray t (0,0))):zC w g cs:=⟨zF2 h,zFs h⟩
theorem zAn {w:World} {base e size n cap:Nat} {g:Nat} {xs:List Value} (h:w.ownsRow base e size (.slice (some ⟨g,0,none⟩) n cap) n xs):zC w g xs:=by
 refine ⟨fun j v hj=>?_,fun j hj=>⟨?_,?_⟩⟩
 ·rw [xA,World.ownsRow.cellAt h j (by have:=(yQ.1 hj).1;rw [h.1] at this;exact this)]
  exact hj
 ·rw [xA,World.ownsRow.cellAt h j (by rw [h.1] at hj;exact hj),yR hj];rfl
 ·rcases h.2 with ⟨h',_⟩ | ⟨g',cap',cur,h',_,hg,_⟩
  ·simp at h'
  ·simp only [uN,yP,Addr.mk.injEq,and_true,true_and] at h'
   obtain ⟨rfl,_⟩:=h';exact frozen_of_row w g _ cur _ hg
theorem drewN {w:World} {g:Nat} {cs:List Value} (h:zC w g cs) (n:Nat):zC (w.drewN n) g cs:=h.keeps (S:=zA) ((Keeps.refl _ _).drewN n) (fun h=>h)
theorem alloc {w:World} {g:Nat} {cs:List Value} (h:zC w g cs) (o:Obj):zC (w.alloc o) g cs:=h.keeps (S:=zA) ((Keeps.refl _ _).alloc o) (fun h=>h)
end zC
def zk (w:World) (v:Value) (n:Nat) (cs:List Value):Prop :=
 ∃ ad cap,v=.slice ad n cap /\ (n ≠ 0 -> ∃ g o,ad=some ⟨g,o,none⟩ /\ ∀ j u,cs[j]?=some u -> w.cell? ⟨g,o+j,none⟩=some u)
def zAQ (w:World) (base e size:Nat) (v:Value) (n:Nat) (xs:List Value) (ad:Option Addr) (cap:Nat) (w':World):Prop :=
 w'.ownsRow base e size (.slice ad n cap) n xs /\ w.grownBy w' v.ownBlock /\ ∀ kb,(Value.slice ad n cap).ownBlock=some kb -> v.ownBlock=some kb \/ kb=w.heap.size
section
variable {P:Program} (w:World)
theorem zGD (base:Nat) (t ty e:TypeId) (i:TypeInfo) (z:Value) (size bytes:Nat) (ht:P.underlying t=some (.slice e)) (hi:P.info? e=some i) (hz:i.zero=some z)
 (hsize:i.size=size) (hby:i.bytes=bytes) (hzs:z.cells.size=size) (hsz:0 < size)
 (v:Value) (n:Nat) (xs:List Value) (hown:w.ownsRow base e size v n xs)
 (s:Value) (m:Nat) (news:List Value) (hs:zk w s m news) (hl:news.length=m*size) (h1:∀ u ∈ news,u.oneCell'=true)
 (h63:n+m <= maxLen) (hbytes:(n+m)*bytes <= 140737488355328) (hbase:base <= w.heap.size) :
 ∃ ad cap w',(Builtin.append_ #[t,t] ty #[v,s]).run P w=.ok (.slice ad (n+m) cap) w' /\ zAQ w base e size v (n+m) (xs++news) ad cap w':=by
 obtain ⟨ad,c,rfl,h2⟩:=hs;by_cases hm:m=0
 ·subst hm
  obtain rfl:news=[]:=vP (by simpa using hl);have hsame:w.ownsRow base e size v (n+0) (xs++[]):=by simpa using hown
  have hrun:(Builtin.append_ #[t,t] ty #[v, .slice ad 0 c]).run P w=.ok v w:=by
   rcases hown.2 with ⟨rfl,rfl⟩ | ⟨g,cap,cur,rfl,_,_,hnc,_⟩
   ·cases ad <;> simp [Builtin.append_,run_underlying ht,sizeOf,typeInfo,hi,Builtin.lenOf,Builtin.firstCells,loadCells,loadCellsFrom]
   ·cases ad <;> simp [Builtin.append_,run_underlying ht,sizeOf,typeInfo,hi,Builtin.lenOf,Builtin.firstCells,hnc,storeCells,loadCells,loadCellsFrom]
  rcases hown.2 with ⟨rfl,rfl⟩ | ⟨g,cap,cur,rfl,_,_,hnc,_⟩
  ·exact ⟨none,0,w,hrun,hsame,⟨rfl,rfl,rfl,xC _,fun k hk _=>rfl⟩,fun kb e=>by exact J193 _⟩
  ·exact ⟨some ⟨g,0,none⟩,cap,w,by simpa using hrun,hsame,⟨rfl,rfl,rfl,xC _,fun k hk _=>rfl⟩,fun kb e=>.inl (J259 _)⟩
 ·obtain ⟨g,o,rfl,hc⟩:=h2 hm
  obtain ⟨v',w',hr,r1,r2,r3,r4⟩:=run_append_own_at (P:=P) w base t ty e i z size bytes ht hi hz hsize hby hzs hsz v n xs hown ⟨g,o,none⟩ m c news hl (fun j u hj=>by rw [Addr.add_lit];exact hc j u hj) h1 h63 hbytes hbase;obtain ⟨g',cap,rfl,_,_⟩:=r1.form (by omega);refine ⟨_,cap,w',hr,r1,r2,fun kb e=>?_⟩
  rcases r4 with r4 | r4
  ·exact .inl (by rw [<- r4];exact e)
  ·rw [r4] at e;cases e;exact .inr rfl
variable {ops:Array Oper} {o:Oper} {a:Act} {Q:Exit -> Act -> World -> Prop}
theorem zGH {K:Act -> World -> Prop} (s x:Operand) (t:TypeId)
 (ho:o.op=.call { callee:=.builtin .append,args:=#[s,x],argTypes:=#[t,t] })
 (base:Nat) (e:TypeId) (i:TypeInfo) (z:Value) (size bytes:Nat) (ht:P.underlying t=some (.slice e)) (hi:P.info? e=some i) (hz:i.zero=some z)
 (hsize:i.size=size) (hby:i.bytes=bytes) (hzs:z.cells.size=size) (hsz:0 < size)
 (v:Value) (n:Nat) (xs:List Value) (hs:a.eval s=v) (hown:w.ownsRow base e size v n xs)
 (sv:Value) (m:Nat) (news:List Value) (hx:a.eval x=sv) (hsrc:zk w sv m news) (hl:news.length=m*size) (h1:∀ u ∈ news,u.oneCell'=true)
 (h63:n+m <= maxLen) (hbytes:(n+m)*bytes <= 140737488355328) (hbase:base <= w.heap.size)
 (h:∀ ad cap w',zAQ w base e size v (n+m) (xs++news) ad cap w' -> K (a.put o.dst (.slice ad (n+m) cap)) w'):o.wp P a w K Q:=by
 obtain ⟨ad,cap,w',hr,h2⟩:=zGD (P:=P) w base t o.type e i z size bytes ht hi hz hsize hby hzs hsz v n xs hown sv m news hsrc hl h1 h63 hbytes hbase;unfold Oper.wp execOp;simp only [ho,resolve,invoke,builtin,Sem.run_bind,Sem.run_pure,Result.andThen_ok,List.map_toArray,uY,List.map_nil,hs,hx,hr];exact h ad cap w' h2
theorem zI {rest:List Oper} (hgd:o.guard=none) (s x:Operand) (t:TypeId)
 (ho:o.op=.call { callee:=.builtin .append,args:=#[s,x],argTypes:=#[t,t] })
 (base:Nat) (e:TypeId) (i:TypeInfo) (z:Value) (size bytes:Nat) (ht:P.underlying t=some (.slice e)) (hi:P.info? e=some i) (hz:i.zero=some z)
 (hsize:i.size=size) (hby:i.bytes=bytes) (hzs:z.cells.size=size) (hsz:0 < size)
 (v:Value) (n:Nat) (xs:List Value) (hs:a.eval s=v) (hown:w.ownsRow base e size v n xs)
 (sv:Value) (m:Nat) (news:List Value) (hx:a.eval x=sv) (hsrc:zk w sv m news) (hl:news.length=m*size) (h1:∀ u ∈ news,u.oneCell'=true)
 (h63:n+m <= maxLen) (hbytes:(n+m)*bytes <= 140737488355328) (hbase:base <= w.heap.size)
 (h:∀ ad cap w',zAQ w base e size v (n+m) (xs++news) ad cap w' -> wpList P ops Q rest (a.put o.dst (.slice ad (n+m) cap)) w'):wpList P ops Q (o :: rest) a w :=
 wpList_plain hgd fun _ hK=>zGH w s x t ho base e i z size bytes ht hi hz hsize hby hzs hsz v n xs hs hown sv m news hx hsrc hl h1 h63 hbytes hbase fun ad cap w' h2=>hK _ _ (h ad cap w' h2)
end
theorem Keeps.zB {a b c:World} (h:Keeps zA a b) (h':Keeps zA b c):Keeps zA a c:=h.trans h' (fun _ _ h=>h)
theorem zAQ.keeps {w w':World} {base e size n cap:Nat} {v:Value} {xs:List Value} {ad:Option Addr} (h:zAQ w base e size v n xs ad cap w') {S:Nat -> Prop} {w0:World} (h0:Keeps S w0 w) (hv:∀ k,v.ownBlock=some k -> k < w0.heap.size -> S k):Keeps S w0 w' :=
 h0.grown h.2.1 hv
def zAk (w:World) (B:Nat) (v:Value) (n:Nat) (cs:List Value):Prop :=
 ∃ ad cap,v=.slice ad n cap /\ cap <= maxLen /\ (ad=none -> cap=0) /\ (n ≠ 0 -> ∃ g,ad=some ⟨g,0,none⟩ /\ B <= g /\ zC w g cs)
theorem zAk.keeps {S:Nat -> Prop} {w w':World} {B:Nat} {v:Value} {n:Nat} {cs:List Value} (h:zAk w B v n cs) (hk:Keeps S w w') (hS:∀ k,B <= k -> ¬ S k):zAk w' B v n cs:=by
 obtain ⟨ad,cap,e,e1,e2,h1⟩:=h;refine ⟨ad,cap,e,e1,e2,fun hn=>?_⟩
 obtain ⟨g,h2,h3,h4⟩:=h1 hn;exact ⟨g,h2,h3,h4.keeps hk (hS g h3)⟩
theorem zAk.of {w:World} {base e size n B:Nat} {v:Value} {xs:List Value} (h:w.ownsRow base e size v n xs) (hb:∀ k,v.ownBlock=some k -> B <= k):zAk w B v n xs:=by
 rcases h.2 with ⟨rfl,rfl⟩ | ⟨g,cap,cur,rfl,_,hg,_,hm,_⟩
 ·exact ⟨none,0,rfl,by unfold maxLen;omega,fun _=>rfl,fun h=>absurd rfl h⟩
 ·exact ⟨_,cap,rfl,hm,fun h=>(by cases h),fun _=>⟨g,rfl,hb g rfl,zC.zAn h⟩⟩
theorem zAk.src {w:World} {B n:Nat} {v:Value} {cs:List Value} (h:zAk w B v n cs):zk w v n cs:=by
 obtain ⟨ad,cap,e,_,_,h1⟩:=h;refine ⟨ad,cap,e,fun hn=>?_⟩
 obtain ⟨g,h2,h3,h4⟩:=h1 hn;exact ⟨g,0,h2,h4.rng⟩
theorem zk.keeps {S:Nat -> Prop} {w w':World} {v:Value} {n:Nat} {cs:List Value} (h:zk w v n cs) (hk:Keeps S w w') (hS:∀ k,v.ownBlock=some k -> ¬ S k):zk w' v n cs:=by
 obtain ⟨ad,cap,rfl,h1⟩:=h;refine ⟨ad,cap,rfl,fun hn=>?_⟩
 obtain ⟨g,o,e,h2⟩:=h1 hn;refine ⟨g,o,e,fun j u hj=>hk.cell (p:=⟨g,o+j,none⟩) (hS g (by rw [e];rfl)) (h2 j u hj)⟩
theorem Ex.ind {P:Ex -> Prop} (h:∀ k n s l,(∀ y,y ∈ l -> P y) -> P (.mk k n s l)):(x:Ex) -> P x
 | .mk k n s l=>h k n s l (fun y hy=>Ex.ind h y)
termination_by x=>SizeOf.sizeOf x
decreasing_by
 have:=List.sizeOf_lt_of_mem hy
 simp only [Ex.mk.sizeOf_spec];omega
theorem Ex.zAx (l:List Ex):l.length <= Ex.zX l:=by
 induction l with
 | nil=>simp
 | cons x r ih=>cases x;simp only [uB,Ex.zX,Ex.cnt];omega
theorem Ex.zCA {l:List Ex} {y:Ex} (h:y ∈ l):y.cnt <= Ex.zX l:=by
 induction l with
 | nil=>cases h
 | cons x r ih =>
   simp only [Ex.zX];rcases xU.1 h with e | e
   ·subst e;omega
   ·have:=ih e;omega
theorem Ex.zHY:(x:Ex) -> x.dep <= x.cnt:=by
 refine Ex.ind (fun k n s l ih=>?_)
 simp only [Ex.dep,Ex.cnt]
 have:Ex.zCd l <= Ex.zX l:=by
  induction l with
  | nil=>simp [Ex.zCd]
  | cons x r ih2 =>
    have h1:=ih x (kJ ..);have h2:=ih2 (fun y hy=>ih y (vQ _ hy));simp only [Ex.zCd,Ex.zX];omega
 omega
theorem drop_at {α:Type} {l:List α} {i:Nat} (h:i < l.length):l.drop i=l[i] :: l.drop (i+1):=List.drop_eq_getElem_cons h
theorem zBW.four {w:World} {F:Nat -> Prop} {n i:Nat} {ad:Option Addr} {css:Nat -> List Value} {a b c d:Value} (h:zBW w F 4 n ad css) (hi:i < n) (hc:css i=[a,b,c,d]) :
 ∃ g o,ad=some ⟨g,o,none⟩ /\ F g /\ w.cell? ⟨g,o+i*4,none⟩=some a /\ w.cell? ⟨g,o+i*4+1,none⟩=some b /\ w.cell? ⟨g,o+i*4+2,none⟩=some c /\ w.cell? ⟨g,o+i*4+3,none⟩=some d:=by
 obtain ⟨g,o,e,hg,hl,hs⟩:=h i hi;rw [hc] at hs;exact ⟨g,o,e,hg,hs 0 _ rfl,hs 1 _ rfl,hs 2 _ rfl,hs 3 _ rfl⟩
def zO (w:World) (F:Nat -> Prop) (l:List Ex) (ad:Option Addr):Prop:=∃ css,zBW w F 4 l.length ad css /\ ∀ i y,l[i]?=some y -> zBJ w F y (css i)
theorem zO.keeps {S F:Nat -> Prop} {w w':World} {l:List Ex} {ad:Option Addr} (h:zO w F l ad) (hk:Keeps S w w') (hS:∀ k,F k -> ¬ S k):zO w' F l ad:=by
 exact J85 _
theorem zO.mono {F F':Nat -> Prop} {w:World} {l:List Ex} {ad:Option Addr} (h:zO w F l ad) (hF:∀ k,F k -> F' k):zO w F' l ad:=by
 exact J96 _
theorem zO.at {w:World} {F:Nat -> Prop} {l:List Ex} {ad:Option Addr} (h:zO w F l ad) {i:Nat} (hi:i < l.length) :
 ∃ g o a c,ad=some ⟨g,o,none⟩ /\ F g /\ w.cell? ⟨g,o+i*4,none⟩=some (.int .i64 l[i].kind) /\ w.cell? ⟨g,o+i*4+1,none⟩=some (.int .i64 l[i].num) /\ w.cell? ⟨g,o+i*4+2,none⟩=some (.string l[i].nm) ∧
   w.cell? ⟨g,o+i*4+3,none⟩=some (.slice a l[i].args.length c) /\ zO w F l[i].args a:=by
 obtain ⟨css,h0,h1⟩:=h;obtain ⟨a,c,css',e,h2,h3⟩:=(h1 i l[i] (yR hi)).show
 obtain ⟨g,o,e1,hg,c0,c1,c2,c3⟩:=h0.four hi e;exact ⟨g,o,a,c,e1,hg,c0,c1,c2,c3,css',h2,h3⟩
def exV (x:Ex) (ad:Option Addr) (cap:Nat):Value:=.agg #[.int .i64 x.kind, .int .i64 x.num, .string x.nm, .slice ad x.args.length cap]
theorem zBJ.exs {w:World} {F:Nat -> Prop} {x:Ex} {cs:List Value} (h:zBJ w F x cs):∃ ad cap,cs=[.int .i64 x.kind, .int .i64 x.num, .string x.nm, .slice ad x.args.length cap] /\ zO w F x.args ad:=by
 obtain ⟨ad,cap,css,e,h1,h2⟩:=h.show
 exact ⟨ad,cap,e,css,h1,h2⟩
theorem zBJ.zGf {w:World} {F:Nat -> Prop} {x:Ex} {ad:Option Addr} {cap:Nat} (h:zO w F x.args ad):zBJ w F x [.int .i64 x.kind, .int .i64 x.num, .string x.nm, .slice ad x.args.length cap]:=by
 obtain ⟨css,h1,h2⟩:=h;cases x;exact .mk _ _ _ _ ad cap css h1 h2
theorem zEC:∀ (x:Ex) (w:World) (F:Nat -> Prop) (ad:Option Addr) (cap:Nat),zO w F x.args ad -> x.cnt < 1000000000 →
 Calls Tryz.prog 108 #[exV x ad cap] w fun e w'=>e=.returned (.int .i64 x.cnt) /\ Keeps zA w w':=by
 refine Ex.ind (fun k num nm l ih w F ad cap h hb=>?_)
 have HL:Hid (zO w F l ad):=h;have IH:=yC ih;have hl:=Ex.zAx l;have hcn:Ex.cnt (.mk k num nm l)=1+Ex.zX l:=by simp [Ex.cnt]
 rw [hcn] at hb ⊢;clear h ih hcn;obtain ⟨tot,ht⟩:=eX (Ex.zX l);have HT:=yC ht;rw [<- ht] at hb hl ⊢;clear ht;show Calls _ _ #[.agg #[.int .i64 k, .int .i64 num, .string nm, .slice ad l.length cap]] _ _
 go_enter Tryz.func108,Tryz.ntmps108
 go_upto_region 1 with fail
 obtain ⟨b1,hb1⟩:=eX w.heap.size;have hr1:zC (w.alloc (.cells #[.int .i64 k, .int .i64 num, .string nm, .slice ad l.length cap] 65)) b1 [.int .i64 k, .int .i64 num, .string nm, .slice ad l.length cap]:=J189 _;have hk1:Keeps zA w (w.alloc (.cells #[.int .i64 k, .int .i64 num, .string nm, .slice ad l.length cap] 65)):=(Keeps.refl _ _).alloc _;rw [<- hb1];generalize w.alloc (.cells #[.int .i64 k, .int .i64 num, .string nm, .slice ad l.length cap] 65)=w1 at hr1 hk1 ⊢;have R1:=yC hr1;have K1:=yC hk1;have c3:=hr1.cell (k:=3) (v:=.slice ad l.length cap) rfl;clear hr1 hk1 hb1;go_wp2_with fail
 go_loopw [3,4] (fun nv iv wr=>∃ i n:Nat,i <= l.length /\ nv=.int .i64 n /\ iv=.int .i64 i /\ Hid (n+Ex.zX (l.drop i)=1+tot) /\ Hid (Keeps zA w1 wr)) (fun _ iv _=>l.length - (intOf iv).toNat)
 case atStart=>exact ⟨0,1,yK _,rfl,rfl,by show _=_;rw [yS,HT.out],Keeps.refl _ _⟩
 case round =>
  obtain ⟨i,n,hi,rfl,rfl,HN,HK⟩:=hrel;have c3':=(R1.out.keeps HK.out (fun h=>h)).cell (k:=3) (v:=.slice ad l.length cap) rfl;clear c3;by_cases hlt:i < l.length
  ·have i1:(0:Int) <= i:=by omega
   have i2:(i:Int) < l.length:=by omega
   have hd:=HN.out;rw [drop_at hlt,Ex.zX] at hd;obtain ⟨g,o,a,c,e1,hg,d0,d1,d2,d3,hx⟩:=(HL.out.keeps (K1.out.zB HK.out) (fun _ _ h=>h)).at hlt;subst e1;have HC:Hid (∀ W,Keeps zA wr W -> Calls Tryz.prog 108 #[.agg #[.int .i64 l[i].kind, .int .i64 l[i].num, .string l[i].nm, .slice a l[i].args.length c]] W fun e w'=>e=.returned (.int .i64 l[i].cnt) /\ Keeps zA W w'):=fun W hk=>IH.out _ (yO hlt) W F a c (hx.keeps hk (fun _ _ h=>h)) (by omega)
   obtain ⟨m,hm⟩:=eX (l[i].cnt);rw [<- hm] at HC hd;have HD:=yC hd;have b1:n+m < 1000000001:=by omega
   clear hx hm hd;generalize l[i].kind=x0 at d0 HC;generalize l[i].num=x1 at d1 HC;generalize l[i].nm=x2 at d2 HC;generalize l[i].args.length=x3 at d3 HC;go_wp2_with (go_at_call 108;refine (HC.out _ (Keeps.refl _ _)).mono ?_;rintro e w2 ⟨rfl,g1⟩;have G1:=yC g1;clear g1)
   exact J109 _
  ·obtain rfl:i=l.length:=by omega
   have hd:=HN.out;rw [xQ] at hd;simp only [Ex.zX] at hd;exact J48 _
end Go.Proofs.YtfokdllgnblamaaGreatDoor
namespace Go.Proofs.YtfokdllgnblamaaGreatDoor
def xNm:ByteArray:=⟨#[120]⟩
def zq:ByteArray:=⟨#[]⟩
def zGN (s:ByteArray):Bool:=s.data.toList==[120]
def nameAt (n i:Int):ByteArray:=if 0 <= i /\ i < n then xNm else zq
theorem zFJ (n i:Int):zGN (nameAt n i)=(decide (0 <= i)&&decide (i < n)):=by
 unfold nameAt;split
 ·rename_i h;simp [zGN,xNm,h.1,h.2]
 ·rename_i h
  by_cases h0:0 <= i
  ·have:¬ i < n:=fun e=>h ⟨h0,e⟩
   simp [zGN,zq,this]
  ·simp [zGN,zq,h0]
theorem zHD:zZ zq=true:=rfl
theorem zMt:zGN zq=false:=rfl
mutual
def Ex.named (regs:Int):Ex -> Ex
 | .mk k num nm l=>.mk k (if k=2 then 0 else num) (if k=2 then (if zZ nm then nameAt regs num else zq) else nm) (Ex.zS regs l)
def Ex.zS (regs:Int):List Ex -> List Ex
 | []=>[]
 | x :: r=>Ex.named regs x :: Ex.zS regs r
end
theorem Ex.zAo (regs:Int) (l:List Ex):Ex.zS regs l=l.map (Ex.named regs):=by
 induction l with
 | nil=>rfl
 | cons x r ih=>simp [Ex.zS,ih]
def zA9 (k num:Int) (nm:ByteArray) (n:Nat):Bool :=
 if k=1 then decide (0 <= num)&&decide (num <= 2147483647)&&zZ nm&&n==0
 else if k=2 then zGN nm&&num==0&&n==0
 else decide (3 <= k)&&decide (k <= 17)&&n==(if k=3 \/ k=4 then 1 else 2)&&num==0&&zZ nm
mutual
def Ex.zC1:Ex -> Bool
 | .mk k num nm l=>zA9 k num nm l.length&&Ex.zDZ l
def Ex.zDZ:List Ex -> Bool
 | []=>true
 | x :: r=>Ex.zC1 x&&Ex.zDZ r
end
theorem zJF (k num regs:Int) (nm:ByteArray) (n:Nat) :
 zA9 k (if k=2 then 0 else num) (if k=2 then (if zZ nm then nameAt regs num else zq) else nm) n=zAK k num nm n regs:=by
 unfold zA9 zAK;by_cases h1:k=1
 ·subst h1;simp
 ·by_cases h2:k=2
  ·subst h2
   by_cases h3:zZ nm=true
   ·simp [h3,zFJ]
   ·simp [h3,zMt]
  ·simp only [h1,h2,if_false]
   cases decide (3 <= k) <;> cases decide (k <= 17) <;> cases (num==0) <;> cases zZ nm <;> simp
mutual
theorem Ex.zFV (regs:Int):(x:Ex) -> Ex.zC1 (x.named regs)=x.may regs
 | .mk k num nm l=>by
   have h:=Ex.zEm regs l;have hl:(Ex.zS regs l).length=l.length:=by rw [Ex.zAo];simp
   simp only [Ex.named,Ex.zC1,Ex.may,hl,h,zJF]
theorem Ex.zEm (regs:Int):(l:List Ex) -> Ex.zDZ (Ex.zS regs l)=Ex.zAM regs l
 | []=>rfl
 | x :: r=>by
   have h1:=Ex.zFV regs x;have h2:=Ex.zEm regs r;simp only [Ex.zS,Ex.zDZ,Ex.zAM,h1,h2]
end
mutual
theorem Ex.zC5 (regs:Int):(x:Ex) -> (x.named regs).cnt=x.cnt
 | .mk k num nm l=>by
   have h:=Ex.zBm regs l;simp only [Ex.named,Ex.cnt,h]
theorem Ex.zBm (regs:Int):(l:List Ex) -> Ex.zX (Ex.zS regs l)=Ex.zX l
 | []=>rfl
 | x :: r=>by
   have h1:=Ex.zC5 regs x;have h2:=Ex.zBm regs r;simp only [Ex.zS,Ex.zX,h1,h2]
end
mutual
theorem Ex.zGe (regs:Int):(x:Ex) -> (x.named regs).dep=x.dep
 | .mk k num nm l=>by
   have h:=Ex.zGB regs l;simp only [Ex.named,Ex.dep,h]
theorem Ex.zGB (regs:Int):(l:List Ex) -> Ex.zCd (Ex.zS regs l)=Ex.zCd l
 | []=>rfl
 | x :: r=>by
   have h1:=Ex.zGe regs x;have h2:=Ex.zGB regs r;simp only [Ex.zS,Ex.zCd,h1,h2]
end
theorem Ex.zDf (regs:Int) (x:Ex):(x.named regs).there=x.there:=by
 cases x with
 | mk k num nm l =>
   simp only [Ex.named,Ex.there,Ex.zAo];cases l <;> rfl
theorem Ex.zI2 (regs:Int) (x:Ex):(x.named regs).none=x.none:=by
 cases x with
 | mk k num nm l =>
   simp only [Ex.named,Ex.none,Ex.zAo];by_cases h:k=0
   ·subst h;cases l <;> simp
   ·have:(k==0)=false:=by simpa using h
    simp [this]
theorem Ex.zIz (regs:Int) (x:Ex):(x.named regs).kind=x.kind:=by cases x;rfl
def zCL (k reg obj:Int):Int:=if ((fields k).reg=false /\ reg ≠ 0) \/ ((fields k).name=false /\ obj ≠ 0) then 0 else k
def stName (u:Un) (k obj:Int):ByteArray :=
 if (fields k).name then nameAt (zBR u k) obj else zq
mutual
def Ac.named (u:Un) (regs:Int):Ac -> St
 | .mk k reg obj ex count t e=>.mk (zCL k reg obj) (if (fields k).reg then nameAt regs reg else zq) (stName u k obj) (ex.named regs) count (Ac.zS u regs t) (Ac.zS u regs e)
def Ac.zS (u:Un) (regs:Int):List Ac -> List St
 | []=>[]
 | x :: r=>Ac.named u regs x :: Ac.zS u regs r
end
theorem Ac.zAo (u:Un) (regs:Int) (l:List Ac):Ac.zS u regs l=l.map (Ac.named u regs):=by
 induction l with
 | nil=>rfl
 | cons x r ih=>simp [Ac.zS,ih]
def zCJ (s:ByteArray) (must:Bool):Bool:=must&&zGN s || !must&&zZ s
def zGL (k:Int) (reg name:ByteArray) (ex:Ex) (count:Int) (nt ne:Nat):Bool :=
 decide (1 <= k /\ k <= 11)&&zCJ reg (fields k).reg&&zCJ name (fields k).name&&((fields k).ex&&ex.kind != 0 || !(fields k).ex&&ex.none) &&
 (count==0 || (fields k).count&&decide (0 < count)&&decide (count <= 1000))&&((fields k).thn || nt==0)&&((fields k).els || ne==0)
mutual
def St.form:St -> Bool
 | .mk k reg name ex count t e=>zGL k reg name ex count t.length e.length&&(!ex.there || ex.zC1)&&St.zBP t&&St.zBP e
def St.zBP:List St -> Bool
 | []=>true
 | x :: r=>St.form x&&St.zBP r
end
mutual
def St.cnt:St -> Nat
 | .mk _ _ _ ex _ t e=>1+(if ex.there then ex.cnt else 0)+St.zX t+St.zX e
def St.zX:List St -> Nat
 | []=>0
 | x :: r=>St.cnt x+St.zX r
end
mutual
def St.deep (d:Nat):St -> Nat
 | .mk _ _ _ ex _ t e=>max (max d (if ex.there then ex.dep else 0)) (max (St.zy (d+1) t) (St.zy (d+1) e))
def St.zy (d:Nat):List St -> Nat
 | []=>0
 | x :: r=>max (St.deep d x) (St.zy d r)
end
theorem zEt {regs:Int} {x:Ex} (h:x.may regs=true):x.kind ≠ 0:=by
 cases x with
 | mk k num nm l =>
   intro e
   have e':k=0:=e;subst e';simp [Ex.may,zAK] at h
theorem zD1 {k:Int} (h:¬ (1 <= k /\ k <= 11)):fields k=⟨false,false,false,false,false,false⟩:=by
 unfold fields;repeat' (first | rw [if_neg (by omega)])
theorem zIl (u:Un) (regs k reg obj:Int) (ex:Ex) (count:Int) (nt ne:Nat) :
 (zGL (zCL k reg obj) (if (fields k).reg then nameAt regs reg else zq) (stName u k obj) (ex.named regs) count nt ne&&(!ex.there || ex.may regs))=zBT u regs k reg obj ex count nt ne:=by
 by_cases hk:1 <= k /\ k <= 11
 ·by_cases hz:((fields k).reg=false /\ reg ≠ 0) \/ ((fields k).name=false /\ obj ≠ 0)
  ·have e1:zCL k reg obj=0:=if_pos hz
   have e2:zBT u regs k reg obj ex count nt ne=false:=by
    unfold zBT;rcases hz with ⟨h1,h2⟩ | ⟨h1,h2⟩
    ·have:(reg==0)=false:=by simpa using h2
     simp [h1,this]
    ·have:(obj==0)=false:=by simpa using h2
     simp [h1,this]
   rw [e1,e2];simp [zGL]
  ·have e1:zCL k reg obj=k:=if_neg hz
   rw [e1]
   have hr:zCJ (if (fields k).reg then nameAt regs reg else zq) (fields k).reg=(if (fields k).reg then decide (0 <= reg)&&decide (reg < regs) else reg==0):=by
    cases h:(fields k).reg
    ·have:reg=0:=vH fun e=>hz (.inl ⟨h,e⟩)
     simp [zCJ,zHD,this]
    ·simp [zCJ,zFJ]
   have hn:zCJ (stName u k obj) (fields k).name=(if (fields k).name then decide (0 <= obj)&&decide (obj < zBR u k) else obj==0):=by
    unfold stName;cases h:(fields k).name
    ·have:obj=0:=vH fun e=>hz (.inr ⟨h,e⟩)
     simp [zCJ,zHD,this]
    ·simp [zCJ,zFJ]
   have hc:(count==0 || (fields k).count&&decide (0 < count)&&decide (count <= 1000))=(if (fields k).count then decide (0 <= count)&&decide (count <= 1000) else count==0):=by
    cases (fields k).count
    ·simp
    ·by_cases h0:count=0
     ·subst h0;simp
     ·have h1:(count==0)=false:=by simpa using h0
      have h2:decide (0 < count)=decide (0 <= count):=by rw [decide_eq_decide];omega
      simp [h1,h2]
   have hx:(((fields k).ex&&(ex.named regs).kind != 0 || !(fields k).ex&&(ex.named regs).none)&&(!ex.there || ex.may regs))=(if (fields k).ex then ex.may regs else ex.none):=by
    rw [Ex.zIz,Ex.zI2];cases (fields k).ex
    ·cases hn:ex.none
     ·simp
     ·have:ex.there=false:=by
       cases ex with
       | mk a b c l =>
         simp only [Ex.none,yU,beq_iff_eq,List.isEmpty_iff] at hn;simp [Ex.there,hn.1.1.1,hn.2]
      simp [this]
    ·cases hm:ex.may regs
     ·cases ht:ex.there
      ·have:ex.kind=0:=by
        cases ex with
        | mk a b c l=>simp [Ex.there] at ht;exact ht.1
       simp [this]
      ·simp
     ·have:=zEt hm
      have h1:(ex.kind != 0)=true:=by simpa using this
      simp [h1]
   unfold zGL zBT;rw [hr,hn,hc,<- hx];have hk1:decide (1 <= k /\ k <= 11)=true:=uA hk;simp only [hk1,uA hk.1,uA hk.2,Bool.true_and];generalize (if (fields k).reg then decide (0 <= reg)&&decide (reg < regs) else reg==0)=A;generalize (if (fields k).name then decide (0 <= obj)&&decide (obj < zBR u k) else obj==0)=B;generalize ((fields k).ex&&(ex.named regs).kind != 0 || !(fields k).ex&&(ex.named regs).none)=C;generalize (if (fields k).count then decide (0 <= count)&&decide (count <= 1000) else count==0)=D;generalize ((fields k).thn || nt==0)=E;generalize ((fields k).els || ne==0)=F;generalize (!ex.there || ex.may regs)=G;cases A <;> cases B <;> cases C <;> cases D <;> cases E <;> cases F <;> cases G <;> rfl
 ·have e2:zBT u regs k reg obj ex count nt ne=false:=by
   unfold zBT
   have:(decide (1 <= k)&&decide (k <= 11))=false:=by
    by_cases h1:1 <= k
    ·have:¬ k <= 11:=fun e=>hk ⟨h1,e⟩
     simp [this]
    ·simp [h1]
   rw [this];simp
  have e1:¬ (1 <= zCL k reg obj /\ zCL k reg obj <= 11):=by
   unfold zCL;split
   ·omega
   ·exact hk
  rw [e2];unfold zGL;rw [xL e1];simp
mutual
theorem Ac.zIk (u:Un) (regs:Int):(x:Ac) -> (x.named u regs).form=x.may u regs
 | .mk k reg obj ex count t e=>by
   have h1:=Ac.zCo u regs t;have h2:=Ac.zCo u regs e;have hl1:(Ac.zS u regs t).length=t.length:=by rw [Ac.zAo];simp
   have hl2:(Ac.zS u regs e).length=e.length:=by rw [Ac.zAo];simp
   simp only [Ac.named,St.form,Ac.may,hl1,hl2,h1,h2,Ex.zDf,Ex.zFV,zIl]
theorem Ac.zCo (u:Un) (regs:Int):(l:List Ac) -> St.zBP (Ac.zS u regs l)=Ac.zAM u regs l
 | []=>rfl
 | x :: r=>by
   have h1:=Ac.zIk u regs x;have h2:=Ac.zCo u regs r;simp only [Ac.zS,St.zBP,Ac.zAM,h1,h2]
end
mutual
theorem Ac.zC5 (u:Un) (regs:Int):(x:Ac) -> (x.named u regs).cnt=x.cnt
 | .mk k reg obj ex count t e=>by
   have h1:=Ac.zBm u regs t;have h2:=Ac.zBm u regs e;simp only [Ac.named,St.cnt,Ac.cnt,h1,h2,Ex.zDf,Ex.zC5]
theorem Ac.zBm (u:Un) (regs:Int):(l:List Ac) -> St.zX (Ac.zS u regs l)=Ac.zX l
 | []=>rfl
 | x :: r=>by
   have h1:=Ac.zC5 u regs x;have h2:=Ac.zBm u regs r;simp only [Ac.zS,St.zX,Ac.zX,h1,h2]
end
mutual
theorem Ac.zJI (u:Un) (regs:Int) (d:Nat):(x:Ac) -> (x.named u regs).deep d=x.deep d
 | .mk k reg obj ex count t e=>by
   have h1:=Ac.zCr u regs (d+1) t;have h2:=Ac.zCr u regs (d+1) e;simp only [Ac.named,St.deep,Ac.deep,h1,h2,Ex.zDf,Ex.zGe]
theorem Ac.zCr (u:Un) (regs:Int) (d:Nat):(l:List Ac) -> St.zy d (Ac.zS u regs l)=Ac.zy d l
 | []=>rfl
 | x :: r=>by
   have h1:=Ac.zJI u regs d x;have h2:=Ac.zCr u regs d r;simp only [Ac.zS,St.zy,Ac.zy,h1,h2]
end
end Go.Proofs.YtfokdllgnblamaaGreatDoor
