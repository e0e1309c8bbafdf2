/- Layer D: texts joined. -/
import Derived.Test.YtoapgjjepiopbaaGreatDoorRows
import Derived.WalkSpells
import Derived.WalkLawsBesides
import Derived.Lib.Hide
import Derived.Deep.RegionHeld3
import Derived.Deep.AppendLies
import Derived.Deep.Cut
import Derived.Great.Walk
import Derived.Deep.WholeRow
set_option linter.all false
namespace Go.Proofs.YtoapgjjepiopbaaGreatDoor
instance:CoeTail Int Value:=⟨.int .i64⟩
instance:CoeTail Nat Value:=⟨fun n=>.int .i64 n⟩
instance:CoeTail Bool Value:=⟨.bool⟩
instance:CoeTail ByteArray Value:=⟨.string⟩
abbrev yh:=@true_and
abbrev kN:=@Go.World.cell?_setCell_same
abbrev kG:=@List.getElem?_set_ne
abbrev kF:=@List.replicate_succ'
abbrev vZ:=@Nat.div_add_mod
abbrev vX:=@List.set_append_right
abbrev vR:=@Nat.mul_add
abbrev vP:=@List.take_of_length_le
abbrev vO:=@List.take_succ_cons
abbrev vI:=@List.append_assoc
abbrev uZ:=@Go.World.cell?_setCell_other
abbrev uY:=@Nat.add_mul
abbrev uX:=@Nat.pow_pos
abbrev uT:=@List.flatMap_cons
abbrev uS:=@Nat.div_div_eq_div_mul
abbrev uH:=@Nat.lt_of_not_le
abbrev xY:=@Nat.pow_succ
abbrev xW:=@List.eq_nil_of_length_eq_zero
abbrev xV:=@List.getElem?_set_self
abbrev xR:=@Nat.lt_or_ge
abbrev xQ:=@List.length_set
abbrev xM:=@List.length_cons
abbrev xL:=@List.getElem?_append_left
abbrev xI:=@List.getElem?_append_right
abbrev xH:=@Go.Value.slice.injEq
abbrev xC:=@List.length_append
abbrev xA:=@Nat.zero_add
abbrev yX:=@Nat.le_trans
abbrev yT:=@Nat.le_refl
abbrev yR:=@Go.World.block_lt_of_cell?
abbrev yP:=@List.getElem?_eq_some_iff
abbrev yN:=@Option.some.injEq
abbrev yM:=@List.set_cons_zero
abbrev yL:=@List.getElem?_eq_getElem
abbrev yJ:=@List.set_cons_succ
abbrev yH:=@Nat.lt_of_lt_of_le
abbrev yG:=@Go.heap_alloc_new
abbrev yF:=@Nat.zero_le
abbrev yC:=@List.getElem?_cons_zero
theorem J100(P:Prop) (h:P:=by
 unfold zAs;by_cases h0:r=0
 ·subst h0;rfl
 ·rw[if_neg h0,zBZ (by decide) h0,show r / 10=0 by omega,zAp,show r % 10=r by omega];rfl):P:=h
theorem J103(P:Prop)(h:P:=by rw[this,Nat.add_mul_div_left _ _ hp];omega):P:=h
inductive Ex where
 | mk (kind num:Int) (nm:ByteArray) (args:List Ex)
inductive Ac where
 | mk (kind reg obj:Int) (ex:Ex) (count:Int) (thn els:List Ac)
inductive St where
 | mk (kind:Int) (reg name:ByteArray) (ex:Ex) (count:Int) (thn els:List St)
structure Bd where
 regs:Int
 acts:List Ac
structure Un where
 cells:List Int
 mutexes:Int
 threads:List Bd
namespace Ex
def kind:Ex->Int | .mk k _ _ _=>k
def num:Ex->Int | .mk _ n _ _=>n
def nm:Ex->ByteArray | .mk _ _ s _=>s
def args:Ex->List Ex | .mk _ _ _ l=>l
mutual
def cnt:Ex->Nat
 | .mk _ _ _ l=>1+zT l
def zT:List Ex->Nat
 | []=>0
 | x :: r=>cnt x+zT r
end
mutual
def dep:Ex->Nat
 | .mk _ _ _ l=>zCr l+1
def zCr:List Ex->Nat
 | []=>0
 | x :: r=>max (dep x) (zCr r)
end
end Ex
def ze(s:ByteArray):Bool:=s.size==0
def zAE(k num:Int)(nm:ByteArray)(n:Nat)(regs:Int):Bool:=
 if k=1 then decide (0<=num)&&decide (num<=2147483647)&&ze nm&&n==0
 else if k=2 then decide (0<=num)&&decide (num<regs)&&ze nm&&n==0
 else decide (3<=k)&&decide (k<=17)&&num==0&&ze nm&&n==(if k=3\/k=4 then 1 else 2)
mutual
def Ex.may(regs:Int):Ex->Bool
 | .mk k num nm l=>zAE k num nm l.length regs&&Ex.zAC regs l
def Ex.zAC(regs:Int):List Ex->Bool
 | []=>true
 | x :: r=>Ex.may regs x&&Ex.zAC regs r
end
def Ex.none:Ex->Bool
 | .mk k num nm l=>k==0&&num==0&&ze nm&&l.isEmpty
def Ex.there:Ex->Bool
 | .mk k _ _ l=>k != 0 || !l.isEmpty
structure Fl where
 reg:Bool
 name:Bool
 ex:Bool
 count:Bool
 thn:Bool
 els:Bool
deriving DecidableEq
def fields(k:Int):Fl:=
 if k=1 then ⟨true,false,true,false,false,false⟩
 else if k=2 then ⟨true,true,false,false,false,false⟩
 else if k=3 then ⟨false,true,true,false,false,false⟩
 else if k=4 then ⟨true,true,true,false,false,false⟩
 else if 5<=k/\k<=8 then ⟨false,true,false,false,false,false⟩
 else if k=9 then ⟨false,false,true,false,false,false⟩
 else if k=10 then ⟨false,false,true,false,true,true⟩
 else if k=11 then ⟨false,false,false,true,true,false⟩
 else ⟨false,false,false,false,false,false⟩
def zBJ(u:Un)(k:Int):Int:=if 2<=k/\k<=4 then u.cells.length else if k=5\/k=6 then u.mutexes else u.threads.length
def zBH(u:Un)(regs k reg obj:Int)(ex:Ex)(count:Int)(nt ne:Nat):Bool:=
 decide (1<=k)&&decide (k<=11) &&
 (if (fields k).reg then decide (0<=reg)&&decide (reg<regs) else reg==0) &&
 (if (fields k).name then decide (0<=obj)&&decide (obj<zBJ u k) else obj==0) &&
 (if (fields k).ex then ex.may regs else ex.none) &&
 (if (fields k).count then decide (0<=count)&&decide (count<=1000) else count==0) &&
 ((fields k).thn || nt==0)&&((fields k).els || ne==0)
mutual
def Ac.may(u:Un)(regs:Int):Ac->Bool
 | .mk k reg obj ex count t e=>zBH u regs k reg obj ex count t.length e.length&&Ac.zAC u regs t&&Ac.zAC u regs e
def Ac.zAC(u:Un)(regs:Int):List Ac->Bool
 | []=>true
 | x :: r=>Ac.may u regs x&&Ac.zAC u regs r
end
mutual
def Ac.cnt:Ac->Nat
 | .mk _ _ _ ex _ t e=>1+(if ex.there then ex.cnt else 0)+Ac.zT t+Ac.zT e
def Ac.zT:List Ac->Nat
 | []=>0
 | x :: r=>Ac.cnt x+Ac.zT r
end
mutual
def Ac.deep(d:Nat):Ac->Nat
 | .mk _ _ _ ex _ t e=>max (max d (if ex.there then ex.dep else 0)) (max (Ac.zu (d+1) t) (Ac.zu (d+1) e))
def Ac.zu(d:Nat):List Ac->Nat
 | []=>0
 | x :: r=>max (Ac.deep d x) (Ac.zu d r)
end
def zCb(n:Int):Bool:=decide (-2147483647<=n)&&decide (n<=2147483647)
def zX(u:Un):Bool:=
 decide (1<=u.threads.length)&&decide (u.threads.length<=8)&&decide (u.cells.length<=8)&&decide (0<=u.mutexes)&&decide (u.mutexes<=8)&&u.cells.all zCb &&
 u.threads.all (λb=>decide (0<=b.regs)&&decide (b.regs<=8)&&Ac.zAC u b.regs b.acts) &&
 decide ((u.threads.map λb=>Ac.zu 1 b.acts).foldr max 0<=16)&&decide ((u.threads.map λb=>Ac.zT b.acts).foldr (·+·) 0<=500)
mutual
def Ex.zCX(d:Nat):Ex->Nat
 | .mk _ _ _ l=>max d (Ex.zCf (d+1) l)
def Ex.zCf(d:Nat):List Ex->Nat
 | []=>0
 | x :: r=>max (Ex.zCX d x) (Ex.zCf d r)
end
mutual
theorem Ex.zHT(d:Nat):(x:Ex)->Ex.zCX d x=d+x.dep-1
 | .mk k n s l=>by
   have h:=Ex.zEU (d+1) l;simp only[Ex.zCX,Ex.dep];rw[h];by_cases hl:l=[]
   ·rw[if_pos hl,hl];simp only[Ex.zCr];omega
   ·rw[if_neg hl]
    have h5:1<=Ex.zCr l:=by
     cases l with
     | nil=>exact absurd rfl hl
     | cons y r=>cases y;simp only[Ex.zCr,Ex.dep];omega
    omega
theorem Ex.zEU(d:Nat):(l:List Ex)->Ex.zCf d l=if l=[] then 0 else d+Ex.zCr l-1
 | []=>rfl
 | x :: r=>by
   have h1:=Ex.zHT d x;have h2:=Ex.zEU d r;have h3:1<=x.dep:=by cases x;simp[Ex.dep]
   simp only[Ex.zCf,Ex.zCr,h1,h2];have h4:¬(x :: r=[]):=by simp
   rw[if_neg h4];by_cases hr:r=[]
   ·rw[if_pos hr,hr];simp only[Ex.zCr];omega
   ·rw[if_neg hr]
    have h5:1<=Ex.zCr r:=by
     cases r with
     | nil=>exact absurd rfl hr
     | cons y r=>cases y;simp only[Ex.zCr,Ex.dep];omega
    omega
end
theorem Ex.zEn(x:Ex):Ex.zCX 1 x=x.dep:=by rw[Ex.zHT];omega
def dig(b n:Nat):List Nat:=
 if h:n=0\/b<2 then [] else n % b :: dig b (n / b)
termination_by n
decreasing_by
 have h1:n≠0:=λe=>h (.inl e)
 have h2:¬b<2:=λe=>h (.inr e)
 exact Nat.div_lt_self (by omega) (by omega)
theorem zAp(b:Nat):dig b 0=[]:=by rw[dig];simp
theorem zBZ{b n:Nat}(hb:2<=b)(hn:n≠0):dig b n=n % b :: dig b (n / b):=by
 rw[dig,dif_neg (by omega)]
theorem zi{b:Nat}(hb:2<=b)(i:Nat):∀n,i<(dig b n).length↔b ^ i<=n:=by
 induction i with
 | zero =>
   intro n
   by_cases hn:n=0
   ·subst hn;simp[zAp]
   ·rw[zBZ hb hn];simp;omega
 | succ i ih =>
   intro n
   by_cases hn:n=0
   ·subst hn
    have:0<b ^ (i+1):=uX (by omega)
    simp[zAp];omega
   ·rw[zBZ hb hn]
    simp only[xM,Nat.add_lt_add_iff_right];rw[ih,Nat.le_div_iff_mul_le (by omega),xY]
theorem zHl{b:Nat}(hb:2<=b)(x y i:Nat):
 (x / b ^ i % b+y / b ^ i % b+(x % b ^ i+y % b ^ i) / b ^ i) % b=(x+y) / b ^ i % b ∧
 (x / b ^ i % b+y / b ^ i % b+(x % b ^ i+y % b ^ i) / b ^ i) / b=(x % b ^ (i+1)+y % b ^ (i+1)) / b ^ (i+1):=by
 have hp:0<b ^ i:=uX (by omega)
 have e1:(x+y) / b ^ i=x / b ^ i+y / b ^ i+(x % b ^ i+y % b ^ i) / b ^ i:=by
  have hx:=vZ x (b ^ i);have hy:=vZ y (b ^ i)
  have:x+y=x % b ^ i+y % b ^ i+b ^ i*(x / b ^ i+y / b ^ i):=by
   rw[vR];omega
  exact J103 _
 constructor
 ·rw[e1]
  simp[Nat.add_mod]
 ·have hx:x % b ^ (i+1)=x % b ^ i+b ^ i*(x / b ^ i % b):=Nat.mod_pow_succ
  have hy:y % b ^ (i+1)=y % b ^ i+b ^ i*(y / b ^ i % b):=Nat.mod_pow_succ;rw[hx,hy,xY,<-uS];congr 1
  have:x % b ^ i+b ^ i*(x / b ^ i % b)+(y % b ^ i+b ^ i*(y / b ^ i % b))=x % b ^ i+y % b ^ i+b ^ i*(x / b ^ i % b+y / b ^ i % b):=by rw[vR];omega
  exact J103 _
theorem zHb{b:Nat}(hb:2<=b)(x k i:Nat):
 (x / b ^ i % b*k+x % b ^ i*k / b ^ i) % b=x*k / b ^ i % b/\(x / b ^ i % b*k+x % b ^ i*k / b ^ i) / b=x % b ^ (i+1)*k / b ^ (i+1):=by
 have hp:0<b ^ i:=uX (by omega)
 have e1:x*k / b ^ i=x / b ^ i*k+x % b ^ i*k / b ^ i:=by
  have hx:=vZ x (b ^ i)
  have:x*k=x % b ^ i*k+b ^ i*(x / b ^ i*k):=by
   rw[<-Nat.mul_assoc,<-uY];congr 1;omega
  exact J103 _
 constructor
 ·rw[e1]
  simp[Nat.add_mod,Nat.mul_mod]
 ·have hx:x % b ^ (i+1)=x % b ^ i+b ^ i*(x / b ^ i % b):=Nat.mod_pow_succ
  rw[hx,xY,<-uS];congr 1
  have:(x % b ^ i+b ^ i*(x / b ^ i % b))*k=x % b ^ i*k+b ^ i*(x / b ^ i % b*k):=by rw[uY,Nat.mul_assoc]
  exact J103 _
theorem zDy{b:Nat}(hb:2<=b){x y i:Nat}(h:x / b ^ (i+1)=y / b ^ (i+1)):
 (x / b ^ i % b=y / b ^ i % b->x / b ^ i=y / b ^ i)/\(x / b ^ i % b<y / b ^ i % b->x<y):=by
 have hp:0<b ^ i:=uX (by omega);have ex:=vZ (x / b ^ i) b;have ey:=vZ (y / b ^ i) b;rw[uS,<-xY] at ex ey;rw[h] at ex;refine⟨λe=>by rw[<-ex,<-ey,e],λe=>?_⟩
 have h1:x / b ^ i<y / b ^ i:=by
  generalize b*(y / b ^ (i+1))=z at ex ey;omega
 exact uH λhle=>by
  have:=Nat.div_le_div_right (c:=b ^ i) hle
  omega
def zAs(n:Nat):List UInt8:=if n=0 then [48] else ((dig 10 n).reverse.map λd=>UInt8.ofNat (48+d))
def zJp:Nat->Nat->List UInt8
 | 0,_=>[]
 | k+1,n=>zJp k (n / 10)++[UInt8.ofNat (48+n % 10)]
theorem zFe{n:Nat}(hn:n / 10≠0):zAs n=zAs (n / 10)++[UInt8.ofNat (48+n % 10)]:=by
 have h0:n≠0:=λe=>by subst e;simp at hn
 unfold zAs;rw[if_neg h0,if_neg hn,zBZ (by decide) h0];simp
theorem zMe(k:Nat):∀q r,q≠0->r<10 ^ k->zAs (q*10 ^ k+r)=zAs q++zJp k r:=by
 induction k with
 | zero=>intro q r hq hr;simp at hr;subst hr;simp[zJp]
 | succ k ih =>
   intro q r hq hr
   have e0:q*10 ^ (k+1)=10*(q*10 ^ k):=by rw[xY,<-Nat.mul_assoc,Nat.mul_comm]
   have e1:(q*10 ^ (k+1)+r) / 10=q*10 ^ k+r / 10:=by rw[e0];omega
   have e2:(q*10 ^ (k+1)+r) % 10=r % 10:=by rw[e0];omega
   have hp:0<10 ^ k:=uX (by decide);have hm:1<=q*10 ^ k:=Nat.mul_pos (by omega) hp;rw[zFe (by rw[e1];omega),e1,e2,ih q (r / 10) hq (by rw[xY] at hr;omega),zJp,vI]
theorem zIh(k:Nat):∀r,r<10 ^ k->0<k->zJp k r=List.replicate (k-(zAs r).length) 48++zAs r/\(zAs r).length<=k:=by
 induction k with
 | zero=>intro r _ h;omega
 | succ k ih =>
   intro r hr _
   by_cases hk:k=0
   ·subst hk
    have hr':r<10:=by simpa using hr
    have:zAs r=[UInt8.ofNat (48+r)]:=by
     exact J100 _
    rw[this];simp[zJp,show r % 10=r by omega]
   ·have h1:=ih (r / 10) (by rw[xY] at hr;omega) (by omega)
    by_cases h0:r / 10=0
    ·have hr':r<10:=by omega
     have e1:zAs r=[UInt8.ofNat (48+r)]:=by
      exact J100 _
     have e2:zAs 0=[48]:=rfl;rw[h0,e2] at h1;rw[zJp,h0,h1.1,e1,show r % 10=r by omega];simp only[List.length_singleton];refine⟨?_,by omega⟩
     rw[show k+1-1=(k-1)+1 by omega,kF,vI]
    ·have e1:=zFe h0
     have hl:(zAs r).length=(zAs (r / 10)).length+1:=by rw[e1];simp
     rw[zJp,h1.1,hl];refine⟨?_,by omega⟩
     rw[show k+1-((zAs (r / 10)).length+1)=k-(zAs (r / 10)).length by omega,vI,<-e1]
end Go.Proofs.YtoapgjjepiopbaaGreatDoor
namespace Go.Proofs.YtoapgjjepiopbaaGreatDoor
open Go.RowKit
theorem eX{α:Sort _}(a:α):∃z,z=a:=⟨a,rfl⟩
structure Keeps(S:Nat->Prop)(w w':World):Prop where
 os:w'.os=w.os
 tape:w'.tape=w.tape
 output:w'.output=w.output
 size:w.heap.size<=w'.heap.size
 block:∀k,k<w.heap.size->¬S k->w'.heap[k]?=w.heap[k]?
namespace Keeps
variable {S S':Nat->Prop} {w w' w'':World}
theorem refl(S:Nat->Prop)(w:World):Keeps S w w:=⟨rfl,rfl,rfl,yT _,λ_ _ _=>rfl⟩
theorem trans(h:Keeps S w w')(k:Keeps S' w' w'')(hs:∀k,k<w.heap.size->S' k->S k):Keeps S w w'':=
 ⟨k.os.trans h.os,k.tape.trans h.tape,k.output.trans h.output,yX h.size k.size,
  λi hi hn=>(k.block i (yH hi h.size) (λh'=>hn (hs i hi h'))).trans (h.block i hi hn)⟩
theorem mono(h:Keeps S' w w')(hs:∀k,k<w.heap.size->S' k->S k):Keeps S w w':=
 ⟨h.os,h.tape,h.output,h.size,λi hi hn=>h.block i hi (λh'=>hn (hs i hi h'))⟩
theorem drewN(h:Keeps S w w')(n:Nat):Keeps S w (w'.drewN n):=⟨h.os,h.tape,h.output,h.size,h.block⟩
theorem drew(h:Keeps S w w'):Keeps S w w'.drew:=⟨h.os,h.tape,h.output,h.size,h.block⟩
theorem alloc(h:Keeps S w w')(o:Obj):Keeps S w (w'.alloc o):=
 h.trans (S':=λ_=>False) ⟨rfl,rfl,rfl,by simp,λk hk _=>Below.heap_alloc _ _ _ hk⟩ (λ_ _ h=>h.elim)
theorem setCell(h:Keeps S w w'){p:Addr}(hp:p.block<w.heap.size->S p.block)(u:Value):Keeps S w (w'.setCell p u):=
 h.trans (S':=λk=>k=p.block) ⟨rfl,rfl,rfl,by simp[World.setCell],λk _ hn=>Below.heap_setCell _ _ _ _ hn⟩ (λk hk e=>by subst e;exact hp hk)
theorem grown(h:Keeps S w w'){row:Option Nat}(hg:w'.grownBy w'' row)(hr:∀k,row=some k->k<w.heap.size->S k):Keeps S w w'':=
 h.trans (S':=λk=>row=some k) ⟨hg.os,hg.tape,hg.output,hg.size,λk hk hn=>hg.block k hk (λe=>hn e.symm)⟩ (λk hk e=>hr k e hk)
theorem cell(h:Keeps S w w'){p:Addr}{v:Value}(hp:¬S p.block)(hc:w.cell? p=some v):w'.cell? p=some v:=
 (World.cell?_of_block (h.block p.block (yR w p hc) hp)).trans hc
theorem heap(h:Keeps S w w'){k:Nat}{o:Obj}(hp:¬S k)(hc:w.heap[k]?=some o):w'.heap[k]?=some o:=
 (h.block k (lt_of_block hc) hp).trans hc
theorem below(h:Keeps S w w'){B:Nat}(hs:∀k,k<w.heap.size->S k->B<=k)(hB:B<=w.heap.size):Below B w w':=
 ⟨h.os,h.tape,h.output,h.size,λk hk=>h.block k (by omega) (λh'=>by have:=hs k (by omega) h';omega)⟩
theorem zC2(h:Below w.heap.size w w')(S:Nat->Prop):Keeps S w w':=⟨h.os,h.tape,h.output,h.size,λk hk _=>h.block k hk⟩
end Keeps
theorem zAH(W:World)(o1 o2:Obj):((W.alloc o1).alloc o2).heap[W.heap.size+1]?=some o2:=by
 have h:=yG (W.alloc o1) o2;have e:(W.alloc o1).heap.size=W.heap.size+1:=by simp
 rw[e] at h;exact h
def zA:Nat->Prop:=λ_=>False
theorem zD{S:Nat->Prop}{w w':World}{base e size n:Nat}{v:Value}{xs:List Value}(h:w.ownsRow base e size v n xs)(hk:Keeps S w w')(hn:∀k,v.ownBlock=some k->¬S k):w'.ownsRow base e size v n xs:=by
 obtain⟨h1,h2⟩:=h;refine⟨h1,?_⟩
 rcases h2 with h2|⟨g,cap,cur,hv,hg,hh,r⟩
 ·exact Or.inl h2
 ·exact Or.inr ⟨g,cap,cur,hv,hg,hk.heap (hn g (by rw[hv];rfl)) hh,r⟩
theorem zAI{α:Type}(f:α->List Value)(k:Nat)(hf:∀x,(f x).length=k)(L:List α):(L.flatMap f).length=L.length*k:=by
 induction L with
 | nil=>simp
 | cons x L ih=>simp only[uT,xC,hf,ih,xM];rw[uY];omega
theorem zCh{α:Type}(f:α->List Value)(k:Nat)(hf:∀x,(f x).length=k)(L:List α)(i j:Nat)(hj:j<k):(L.flatMap f)[i*k+j]?=(L[i]?).bind λx=>(f x)[j]?:=by
 induction L generalizing i with
 | nil=>simp
 | cons x L ih =>
   rw[uT];cases i with
   | zero=>rw[Nat.zero_mul,xA,xL (by rw[hf];exact hj)];simp
   | succ i =>
     have e:(i+1)*k+j=(f x).length+(i*k+j):=by rw[hf,uY];omega
     rw[e,xI (by omega),Nat.add_sub_cancel_left,ih];simp
theorem zDB{α:Type}(f:α->List Value)(k:Nat)(hf:∀x,(f x).length=k)(L:List α)(i j:Nat)(hj:j<k)(u:Value)(x y:α)(hx:L[i]?=some x)(hy:f y=(f x).set j u):
 (L.flatMap f).set (i*k+j) u=(L.set i y).flatMap f:=by
 induction L generalizing i with
 | nil=>simp at hx
 | cons z L ih =>
   rw[uT];cases i with
   | zero =>
     simp only[yC,yN] at hx;subst hx;rw[Nat.zero_mul,xA,List.set_append_left _ _ (by rw[hf];exact hj),yM,uT,hy]
   | succ i =>
     have e:(i+1)*k+j=(f z).length+(i*k+j):=by rw[hf,uY];omega
     rw[e,vX _ _ (by omega),Nat.add_sub_cancel_left,yJ,uT,ih i (by simpa using hx)]
def zBm(w:World)(v:Value)(xs:List Int):Prop:=
 ∃ad cap,v=.slice ad xs.length cap/\(ad=none->xs=[])/\∀g o s,ad=some ⟨g,o,s⟩->s=none/\∀i,i<xs.length->w.cell? ⟨g,o+i,none⟩=some (.int .i64 (xs.getD i 0))
theorem zLR(xs:List Int)(i:Nat)(hi:i<xs.length):(xs.map (Value.int .i64))[i]?=some (.int .i64 (xs.getD i 0)):=by
 rw[List.getElem?_map,yL hi];simp[List.getD,hi]
theorem zBm.ofRow{w:World}{e:TypeId}{base:Nat}{v:Value}{xs:List Int}(h:w.ownsRow base e 1 v xs.length (xs.map (Value.int .i64))):zBm w v xs:=by
 rcases h.2 with⟨hv,hn⟩|⟨g,cap,cur,hv,hg,hh,r⟩
 ·exact⟨none,0,by rw[hv,hn],λ_=>xW hn,λg o s e=>by cases e⟩
 ·refine⟨_,cap,hv,λe=>by(cases e),λg' o s e=>?_⟩
  cases e;refine⟨rfl,λi hi=>?_⟩
  rw[xA];subst hv;rw[h.cellAt i (by omega)];exact zLR xs i hi
theorem zKR{α:Type}(f:α->List Value)(k:Nat)(hf:∀x,(f x).length=k)(L:List α)(n:Nat):(L.flatMap f).take (n*k)=(L.take n).flatMap f:=by
 induction L generalizing n with
 | nil=>simp
 | cons z L ih =>
   cases n with
   | zero=>simp
   | succ n =>
     rw[uT,vO,uT,List.take_append,hf,vP (by rw[hf,uY];omega)];congr 1
     rw[show(n+1)*k-k=n*k by rw[uY];omega];exact ih n
def zBa(w:World)(F:Nat->Prop)(sz n:Nat)(ad:Option Addr)(css:Nat->List Value):Prop:=
 ∀i,i<n->∃g o,ad=some ⟨g,o,none⟩/\F g/\(css i).length=sz/\∀j u,(css i)[j]?=some u->w.cell? ⟨g,o+(i*sz+j),none⟩=some u
theorem zBa.keeps{S F:Nat->Prop}{w w':World}{sz n:Nat}{ad:Option Addr}{css:Nat->List Value}(h:zBa w F sz n ad css)(hk:Keeps S w w')(hS:∀k,F k->¬S k):zBa w' F sz n ad css:=λi hi=>by
 obtain⟨g,o,e,hg,hl,hc⟩:=h i hi;exact⟨g,o,e,hg,hl,λj u hj=>hk.cell (p:=⟨g,_,none⟩) (hS g hg) (hc j u hj)⟩
theorem zBa.mono{F F':Nat->Prop}{w:World}{sz n:Nat}{ad:Option Addr}{css:Nat->List Value}(h:zBa w F sz n ad css)(hF:∀k,F k->F' k):zBa w F' sz n ad css:=λi hi=>by
 obtain⟨g,o,e,hg,hl,hc⟩:=h i hi;exact⟨g,o,e,hF g hg,hl,hc⟩
inductive zBL(w:World)(F:Nat->Prop):Ex->List Value->Prop where
 | mk (k num:Int) (nm:ByteArray) (args:List Ex) (ad:Option Addr) (cap:Nat) (css:Nat->List Value) (h0:zBa w F 4 args.length ad css)
    (h1:∀i x,args[i]?=some x->zBL w F x (css i)):zBL w F (.mk k num nm args) [.int .i64 k,.int .i64 num,.string nm,.slice ad args.length cap]
theorem zBL.keeps{S F:Nat->Prop}{w w':World}{x:Ex}{cs:List Value}(h:zBL w F x cs)(hk:Keeps S w w')(hS:∀k,F k->¬S k):zBL w' F x cs:=by
 induction h with
 | mk k num nm args ad cap css h0 _ ih=>exact .mk k num nm args ad cap css (h0.keeps hk hS) ih
theorem zBL.mono{F F':Nat->Prop}{w:World}{x:Ex}{cs:List Value}(h:zBL w F x cs)(hF:∀k,F k->F' k):zBL w F' x cs:=by
 induction h with
 | mk k num nm args ad cap css h0 _ ih=>exact .mk k num nm args ad cap css (h0.mono hF) ih
inductive zEv(w:World)(F:Nat->Prop):Ac->List Value->Prop where
 | mk (k reg obj:Int) (ex:Ex) (count:Int) (t e:List Ac) (xs:List Value) (ta ea:Option Addr) (tc ec:Nat) (tss ess:Nat->List Value) (hx:zBL w F ex xs)
    (t0:zBa w F 10 t.length ta tss) (t1:∀i x,t[i]?=some x->zEv w F x (tss i)) (e0:zBa w F 10 e.length ea ess) (e1:∀i x,e[i]?=some x->zEv w F x (ess i)):
    zEv w F (.mk k reg obj ex count t e) ([.int .i64 k,.int .i64 reg,.int .i64 obj]++xs++[.int .i64 count,.slice ta t.length tc,.slice ea e.length ec])
theorem zEv.keeps{S F:Nat->Prop}{w w':World}{x:Ac}{cs:List Value}(h:zEv w F x cs)(hk:Keeps S w w')(hS:∀k,F k->¬S k):zEv w' F x cs:=by
 induction h with
 | mk k reg obj ex count t e xs ta ea tc ec tss ess hx t0 _ e0 _ ih1 ih2=>exact .mk k reg obj ex count t e xs ta ea tc ec tss ess (hx.keeps hk hS) (t0.keeps hk hS) ih1 (e0.keeps hk hS) ih2
inductive zCA(w:World)(F:Nat->Prop):St->List Value->Prop where
 | mk (k:Int) (reg name:ByteArray) (ex:Ex) (count:Int) (t e:List St) (xs:List Value) (ta ea:Option Addr) (tc ec:Nat) (tss ess:Nat->List Value) (hx:zBL w F ex xs)
    (t0:zBa w F 10 t.length ta tss) (t1:∀i x,t[i]?=some x->zCA w F x (tss i)) (e0:zBa w F 10 e.length ea ess) (e1:∀i x,e[i]?=some x->zCA w F x (ess i)):
    zCA w F (.mk k reg name ex count t e) ([.int .i64 k,.string reg,.string name]++xs++[.int .i64 count,.slice ta t.length tc,.slice ea e.length ec])
theorem zCA.keeps{S F:Nat->Prop}{w w':World}{x:St}{cs:List Value}(h:zCA w F x cs)(hk:Keeps S w w')(hS:∀k,F k->¬S k):zCA w' F x cs:=by
 induction h with
 | mk k reg name ex count t e xs ta ea tc ec tss ess hx t0 _ e0 _ ih1 ih2=>exact .mk k reg name ex count t e xs ta ea tc ec tss ess (hx.keeps hk hS) (t0.keeps hk hS) ih1 (e0.keeps hk hS) ih2
theorem zCA.mono{F F':Nat->Prop}{w:World}{x:St}{cs:List Value}(h:zCA w F x cs)(hF:∀k,F k->F' k):zCA w F' x cs:=by
 induction h with
 | mk k reg name ex count t e xs ta ea tc ec tss ess hx t0 _ e0 _ ih1 ih2=>exact .mk k reg name ex count t e xs ta ea tc ec tss ess (hx.mono hF) (t0.mono hF) ih1 (e0.mono hF) ih2
theorem zBL.len{w:World}{F:Nat->Prop}{x:Ex}{cs:List Value}(h:zBL w F x cs):cs.length=4:=by cases h;rfl
theorem zCA.len{w:World}{F:Nat->Prop}{x:St}{cs:List Value}(h:zCA w F x cs):cs.length=10:=by
 cases h with
 | mk k reg name ex count t e xs ta ea tc ec tss ess hx=>simp[hx.len]
theorem zBL.show{w:World}{F:Nat->Prop}{x:Ex}{cs:List Value}(h:zBL w F x cs):∃ad cap css,cs=[.int .i64 x.kind,.int .i64 x.num,.string x.nm,.slice ad x.args.length cap]/\zBa w F 4 x.args.length ad css/\∀i y,x.args[i]?=some y->zBL w F y (css i):=by
 cases h with
 | mk k num nm args ad cap css h0 h1=>exact⟨ad,cap,css,rfl,h0,h1⟩
theorem zFv{w:World}{b o n:Nat}(ht:w.there b o n)(vs:List Value)(hn:vs.length<=n):(w.setCells b o vs).there b o n:=by
 intro j hj
 refine⟨?_,by rw[World.frozen?_setCells];exact(ht j hj).2⟩
 rcases xR j vs.length with hlt|hge
 ·rw[World.cell?_setCells_in b vs o w (λi hi=>(ht i (by omega)).1) j hlt];rfl
 ·rw[World.cell?_setCells_out b vs o w ⟨b,o+j,none⟩ (λ_ _=>.inr (by show o+vs.length<=o+j;omega))]
  exact(ht j hj).1
theorem zMA{w:World}{b o:Nat}{cs:List Value}(h:w.rangeAt b o cs)(k:Nat)(hk:k<cs.length)(u:Value):(w.setCell ⟨b,o+k,none⟩ u).rangeAt b o (cs.set k u):=by
 intro j v hj
 by_cases e:j=k
 ·subst e
  rw[xV hk] at hj;obtain⟨x,hx⟩:∃x,cs[j]?=some x:=⟨_,yL hk⟩
  cases hj;exact kN _ _ _ (h j x hx)
 ·rw[kG (λe'=>e e'.symm)] at hj
  rw[uZ _ _ _ _ (by simp;try omega)];exact h j v hj
theorem zGd{w:World}{b:Nat}{cs:List Value}{t:TypeId}{fr:Nat × Nat}(h:w.heap[b]?=some (.cells cs.toArray t fr)):w.rangeAt b 0 cs:=λj v hj=>by
 rw[xA,cell_of_row w b j _ t fr h];simpa using hj
theorem zGB{w:World}{b:Nat}{cs:List Value}{t:TypeId}(h:w.heap[b]?=some (.cells cs.toArray t (0,0))):w.there b 0 cs.length:=λj hj=>by
 refine⟨?_,?_⟩
 ·rw[xA,cell_of_row w b j _ t _ h]
  simp[hj]
 ·exact frozen_of_row w b _ _ _ h
theorem zJk{S:Nat->Prop}{w w':World}{b o:Nat}{cs:List Value}(h:w.rangeAt b o cs)(hk:Keeps S w w')(hb:¬S b):w'.rangeAt b o cs:=λj v hj=>hk.cell (p:=⟨b,o+j,none⟩) hb (h j v hj)
theorem zIr{S:Nat->Prop}{w w':World}{b o n:Nat}(h:w.there b o n)(hk:Keeps S w w')(hb:¬S b):w'.there b o n:=λj hj=>by
 obtain⟨h1,h2⟩:=h j hj;obtain⟨v,hv⟩:=Option.isSome_iff_exists.1 h1;have hlt:=yR w _ hv;refine⟨by rw[World.cell?_of_block (hk.block b hlt hb)];exact h1,by rw[World.frozen?_of_block (hk.block b hlt hb)];exact h2⟩
structure zB(w:World)(g:Nat)(cs:List Value):Prop where
 rng:w.rangeAt g 0 cs
 thr:w.there g 0 cs.length
namespace zB
theorem cell{w:World}{g:Nat}{cs:List Value}(h:zB w g cs){k:Nat}{v:Value}(hk:cs[k]?=some v):w.cell? ⟨g,k,none⟩=some v:=by
 have:=h.rng k v hk
 rwa [xA] at this
theorem free{w:World}{g:Nat}{cs:List Value}(h:zB w g cs){k:Nat}(hk:k<cs.length):w.frozen? ⟨g,k,none⟩=false:=by
 have:=(h.thr k hk).2
 rwa [xA] at this
theorem lt{w:World}{g:Nat}{cs:List Value}(h:zB w g cs)(hn:cs ≠ []):g<w.heap.size:=by
 cases cs with
 | nil=>exact absurd rfl hn
 | cons a r=>exact yR w ⟨g,0,none⟩ (h.cell (k:=0) (v:=a) rfl)
theorem keeps{S:Nat->Prop}{w w':World}{g:Nat}{cs:List Value}(h:zB w g cs)(hk:Keeps S w w')(hg:¬S g):zB w' g cs:=
 ⟨zJk h.rng hk hg,zIr h.thr hk hg⟩
theorem set{w:World}{g:Nat}{cs:List Value}(h:zB w g cs)(k:Nat)(hk:k<cs.length)(u:Value):zB (w.setCell ⟨g,k,none⟩ u) g (cs.set k u):=by
 have h1:=zMA h.rng k hk u;have h2:=zFv h.thr [] (yF _);rw[xA] at h1;refine⟨h1,λj hj=>?_⟩
 rw[xQ] at hj;obtain⟨a,b⟩:=h.thr j hj;refine⟨?_,by rw[World.frozen?_setCell];exact b⟩
 by_cases e:0+j=k
 ·obtain⟨v,hv⟩:=Option.isSome_iff_exists.1 a
  rw[<-e,kN _ _ _ hv];rfl
 ·rw[uZ _ _ _ _ (by simp;try omega)]
  exact a
theorem zH{w:World}{g:Nat}{cs:List Value}{t:TypeId}(h:w.heap[g]?=some (.cells cs.toArray t (0,0))):zB w g cs:=⟨zGd h,zGB h⟩
theorem zAb{w:World}{base e size n cap:Nat}{g:Nat}{xs:List Value}(h:w.ownsRow base e size (.slice (some ⟨g,0,none⟩) n cap) n xs):zB w g xs:=by
 refine⟨λj v hj=>?_,λj hj=>⟨?_,?_⟩⟩
 ·rw[xA,World.ownsRow.cellAt h j (by have:=(yP.1 hj).1;rw[h.1] at this;exact this)]
  exact hj
 ·rw[xA,World.ownsRow.cellAt h j (by rw[h.1] at hj;exact hj),yL hj];rfl
 ·rcases h.2 with⟨h',_⟩|⟨g',cap',cur,h',_,hg,_⟩
  ·simp at h'
  ·simp only[xH,yN,Addr.mk.injEq,and_true,yh] at h'
   obtain⟨rfl,_⟩:=h';exact frozen_of_row w g _ cur _ hg
theorem drewN{w:World}{g:Nat}{cs:List Value}(h:zB w g cs)(n:Nat):zB (w.drewN n) g cs:=h.keeps (S:=zA) ((Keeps.refl _ _).drewN n) (λh=>h)
theorem alloc{w:World}{g:Nat}{cs:List Value}(h:zB w g cs)(o:Obj):zB (w.alloc o) g cs:=h.keeps (S:=zA) ((Keeps.refl _ _).alloc o) (λh=>h)
end zB
