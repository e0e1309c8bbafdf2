/- ExploreNew, where what comes in is of bulk at most 1048576: it returns true and each argument reads afterwards as before; tied to the pruned copy of the project. The row lists its condition: the seven tables laid as the text lays them. -/
import Derived.Deep.Strs
import Derived.Lib.ItoaNum
import Derived.Deep.DeepWitnessRowRef
import Derived.Lib.TrailingZeros
import Derived.Test.YtoapgjjepiopbaaGreatDoorN51
import Derived.Test.YtoapgjjepiopbaaGreatDoorCards
import Derived.Test.YtoapgjjepiopbaaGreatDoorTie
set_option linter.all false
set_option maxRecDepth 100000
namespace Go.Proofs.YtoapgjjepiopbaaGreatDoor
open Go.ChangeShapes Go.WideShapes Go.ChangeAt Go.RowKit
theorem J79 (P:Prop) (h:P:=by rw [e];simp only [Rows.uptoBulk,Rows.uptoBulkAll];omega):P:=h
set_option maxRecDepth 100000
theorem zLa:Tryz.prog.cellsOf 3=1:=by kernel_rfl
theorem cStr:Tryz.prog.cellsOf 9=1:=by kernel_rfl
theorem zOl:Tryz.prog.cellsOf 22=1:=by kernel_rfl
theorem cEx:Tryz.prog.cellsOf 144=4:=by kernel_rfl
theorem zPS:Tryz.prog.cellsOf 142=1:=by kernel_rfl
theorem cAc:Tryz.prog.cellsOf 146=10:=by kernel_rfl
theorem zO5:Tryz.prog.cellsOf 46=1:=by kernel_rfl
theorem cBd:Tryz.prog.cellsOf 48=2:=by kernel_rfl
theorem zPo:Tryz.prog.cellsOf 23=1:=by kernel_rfl
theorem cUn:Tryz.prog.cellsOf 25=3:=by kernel_rfl
theorem zJP {w:World} {a:Addr} {v:Value} (h:w.cell? a=some v):a.spot=none:=by
 unfold World.cell? at h;split at h
 ·split at h
  ·cases h
  ·rename_i h2;simpa using h2
 ·cases h
theorem zC7 {a:Addr} (h:a.spot=none) (n:Nat):a.add n=⟨a.block,a.off+n,none⟩:=by
 obtain ⟨b,o,s⟩:=a;simp at h
 subst h;unfold Addr.add;split
 ·simp_all
 ·rfl
theorem zB2 {H:Type} (d:DataW H):1 <= Rows.uptoBulk d:=by
 cases d with
 | lit l=>cases l <;> simp [Rows.uptoBulk]
 | nil=>simp [Rows.uptoBulk]
 | ptr d=>simp [Rows.uptoBulk]
 | slice elems spare=>simp [Rows.uptoBulk]
 | agg parts=>simp [Rows.uptoBulk]
 | iface t d=>simp [Rows.uptoBulk]
 | map entries=>simp [Rows.uptoBulk]
 | held h=>simp [Rows.uptoBulk]
theorem zJL {H:Type} {d:DataW H} {l:List (DataW H)} (h:d ∈ l):Rows.uptoBulk d <= Rows.uptoBulkAll l:=by
 induction l with
 | nil=>cases h
 | cons x r ih =>
   simp only [Rows.uptoBulkAll];cases List.mem_cons.1 h with
   | inl e=>subst e;omega
   | inr e=>have:=ih e;omega
def sumOf {α:Type} (m:α -> Nat):List α -> Nat
 | []=>0
 | x :: r=>m x+sumOf m r
theorem zHC {H α:Type} {m:α -> Nat} {Y:Nat -> α} {D:Nat -> DataW H}:(l:List Nat) -> (∀ i,i ∈ l -> m (Y i) <= Rows.uptoBulk (D i)) -> sumOf m (l.map Y) <= Rows.uptoBulkAll (l.map D)
 | [],_=>Nat.le_refl _
 | i :: r,h=>by
   have h1:=h i List.mem_cons_self;have h2:=zHC r (fun j hj=>h j (List.mem_cons_of_mem _ hj));simp only [List.map_cons,sumOf,Rows.uptoBulkAll];omega
theorem zI1:(l:List Ex) -> sumOf Ex.cnt l=Ex.zM l
 | []=>rfl
 | x :: r=>by simp only [sumOf,Ex.zM,zI1 r]
theorem zIR:(l:List Ac) -> sumOf Ac.sz l=Ac.szL l
 | []=>rfl
 | x :: r=>by simp only [sumOf,Ac.szL,zIR r]
theorem zHm:(l:List Bd) -> sumOf (fun b=>1+Ac.szL b.acts) l=zAb l
 | []=>rfl
 | x :: r=>by simp only [sumOf,zAb,zHm r]
theorem zIe {α:Type}:(l:List α) -> sumOf (fun _=>1) l=l.length
 | []=>rfl
 | x :: r=>by simp only [sumOf,List.length_cons,zIe r];omega
section
variable {H:Type} {enc:TypeId × Value -> H} {W:World}
theorem zBT {α:Type} [Inhabited α] {t e:TypeId} {sz fuel:Nat} {v:Value} {d:DataW H} {ps:List MemPlace} (R:α -> List Value -> Prop) (m:α -> Nat) (ht:Tryz.prog.underlying t=some (.slice e)) (hc:Tryz.prog.cellsOf e=sz) (hpos:0 < sz)
 (h:DataW.trod enc Tryz.prog W 0 (fun _=>true) true fuel t [v]=some (d,ps))
 (hel:∀ fuel cs d' ps',Rows.uptoBulk d' < Rows.uptoBulk d -> DataW.trod enc Tryz.prog W 0 (fun _=>true) true fuel e cs=some (d',ps') -> ∃ y,R y cs /\ m y <= Rows.uptoBulk d') :
 ∃ (l:List α) (ad:Option Addr) (cap:Nat) (css:Nat -> List Value),v=.slice ad l.length cap /\ zAx W (fun k=>k < W.heap.size) sz l.length ad css /\ (∀ i y,l[i]?=some y -> R y (css i)) /\ sumOf m l+1 <= Rows.uptoBulk d /\ l.length <= cap:=by
 rcases Deep.open_slice ht h with ⟨hcs,hx⟩ | ⟨a,len,cap,M,n,D,Pl,hcs,hb,hl,hm,hmm,hx,hE⟩
 ·have hv:v=.slice none 0 0:=by simpa using hcs
  exact ⟨[],none,0,fun _=>[],hv,fun i hi=>absurd hi (Nat.not_lt_zero _),fun i y e=>by simp at e,by simp only [sumOf];exact zB2 d,Nat.le_refl _⟩
 ·have hv:v=.slice (some a) len cap:=by simpa using hcs
  simp only [if_true] at hmm;subst hmm;have hd:=congrArg Prod.fst hx;simp only at hd;have hbD:Rows.uptoBulkAll ((List.range len).map D)+1 <= Rows.uptoBulk d:=by rw [hd];simp only [Rows.uptoBulk];omega
  have key:∀ k,k < len -> ∃ y:α × List Value,a.spot=none /\ a.block < W.heap.size /\ y.2.length=sz /\ (∀ j u,y.2[j]?=some u -> W.cell? ⟨a.block,a.off+(k*sz+j),none⟩=some u) /\ R y.1 y.2 /\ m y.1 <= Rows.uptoBulk (D k):=by
   intro k hk
   have hsp:a.spot=none /\ a.block < W.heap.size:=by
    obtain ⟨cs0,h0,_⟩:=hE 0 (by omega);rw [hc] at h0;obtain ⟨_,hlen,hc0⟩:=World.cells?_some h0;have h1:=hc0 0 hpos;rw [List.getElem?_eq_getElem (by omega)] at h1;have h2:=zJP h1;have h3:=World.block_lt_of_cell? W _ h1;have h4:a.spot=none:=by simpa [Addr.add] using h2
    refine ⟨h4,?_⟩
    rw [Nat.zero_mul,zC7 h4] at h3;rw [zC7 (a:=⟨a.block,a.off+0,none⟩) rfl] at h3;exact h3
   obtain ⟨cs,h1,h2⟩:=hE k (by omega);rw [hc] at h1;obtain ⟨_,hlen,hc1⟩:=World.cells?_some h1
   obtain ⟨y,hy,hym⟩:=hel _ _ _ _ (by
    have:=zJL (d:=D k) (l:=(List.range len).map D) (List.mem_map.2 ⟨k,List.mem_range.2 hk,rfl⟩)
    omega) h2
   refine ⟨(y,cs),hsp.1,hsp.2,hlen,fun j u hj=>?_,hy,hym⟩
   have hjl:j < sz:=by rw [<- hlen];exact (List.getElem?_eq_some_iff.1 hj).1
   have:=hc1 j hjl
   have hsp2:(a.add (k*sz)).spot=none:=by rw [zC7 hsp.1]
   rw [zC7 hsp2,zC7 hsp.1] at this;rw [<- Nat.add_assoc,this,hj]
  obtain ⟨Y,hY⟩:=Deep.choose_lt (α:=α × List Value) key;have hlen:((List.range len).map fun i=>(Y i).1).length=len:=by simp
  refine ⟨(List.range len).map fun i=>(Y i).1,some a,_,fun i=>(Y i).2,by rw [hlen];exact hv,fun i hi=>?_,fun i y e=>?_,?_,by rw [hlen];exact hl⟩
  ·rw [hlen] at hi
   obtain ⟨q1,q2,q3,q4,_,_⟩:=hY i hi;exact ⟨a.block,a.off,by obtain ⟨b,o,s⟩:=a;simp at q1;subst q1;rfl,q2,q3,q4⟩
  ·have hi:i < len:=by have:=(List.getElem?_eq_some_iff.1 e).1;simpa using this
   have e2:(Y i).1=y:=by simpa [hi] using e
   rw [<- e2];exact (hY i hi).2.2.2.2.1
  ·have h1:=zHC (m:=m) (Y:=fun i=>(Y i).1) (D:=D) (List.range len) (fun i hi=>(hY i (List.mem_range.1 hi)).2.2.2.2.2)
   omega
instance:Inhabited Ex:=⟨.mk 0 0 zn []⟩
instance:Inhabited Ac:=⟨.mk 0 0 0 (.mk 0 0 zn []) 0 [] []⟩
instance:Inhabited Bd:=⟨⟨0,[]⟩⟩
theorem zIi {α:Type} {l:List α} (h:l.length=4):∃ a b c d,l=[a,b,c,d]:=by
 match l,h with
 | [a,b,c,d],_=>exact ⟨a,b,c,d,rfl⟩
theorem zNU {α:Type} {l:List α} (h:l.length=10):∃ a b c d e f g i j k,l=[a,b,c,d,e,f,g,i,j,k]:=by
 match l,h with
 | [a,b,c,d,e,f,g,i,j,k],_=>exact ⟨a,b,c,d,e,f,g,i,j,k,rfl⟩
theorem zLZ {α:Type} {l:List α} (h:l.length=7):∃ a b c d e f g,l=[a,b,c,d,e,f,g]:=by
 match l,h with
 | [a,b,c,d,e,f,g],_=>exact ⟨a,b,c,d,e,f,g,rfl⟩
theorem zLQ {α:Type} {l:List α} (h:l.length=2):∃ a b,l=[a,b]:=by
 match l,h with
 | [a,b],_=>exact ⟨a,b,rfl⟩
theorem zG3 {α:Type} {l:List α} (h:l.length=3):∃ a b c,l=[a,b,c]:=by
 match l,h with
 | [a,b,c],_=>exact ⟨a,b,c,rfl⟩
theorem zJM:∀ (N fuel:Nat) (cs:List Value) (d:DataW H) (ps:List MemPlace),Rows.uptoBulk d <= N -> DataW.trod enc Tryz.prog W 0 (fun _=>true) true fuel 144 cs=some (d,ps) →
 ∃ x:Ex,zA5 W (fun k=>k < W.heap.size) x cs /\ x.cnt <= Rows.uptoBulk d:=by
 intro N
 induction N with
 | zero=>intro fuel cs d ps hN h;have:=zB2 d;omega
 | succ N ih =>
   intro fuel cs d ps hN h
   obtain ⟨xs,n,_,hx,hl,hlen,hf⟩:=DataW.trod_struct Tryz.underlying144 h;rw [cEx] at hl;obtain ⟨c0,c1,c2,c3,rfl⟩:=zIi hl;obtain ⟨z0,z1,z2,z3,rfl⟩:=zIi (l:=xs) hlen;have f0:DataW.trod enc Tryz.prog W 0 (fun _=>true) true n 3 (([c0,c1,c2,c3].drop 0).take (Tryz.prog.cellsOf 3))=some z0:=hf 0 _ rfl;have f1:DataW.trod enc Tryz.prog W 0 (fun _=>true) true n 3 (([c0,c1,c2,c3].drop 1).take (Tryz.prog.cellsOf 3))=some z1:=hf 1 _ rfl;have f2:DataW.trod enc Tryz.prog W 0 (fun _=>true) true n 9 (([c0,c1,c2,c3].drop 2).take (Tryz.prog.cellsOf 9))=some z2:=hf 2 _ rfl;have f3:DataW.trod enc Tryz.prog W 0 (fun _=>true) true n 142 (([c0,c1,c2,c3].drop 3).take (Tryz.prog.cellsOf 142))=some z3:=hf 3 _ rfl;rw [zLa] at f0 f1;rw [cStr] at f2;rw [zPS] at f3;have hd:=congrArg Prod.fst hx
   have hbd:Rows.uptoBulk z3.1+1 <= Rows.uptoBulk d:=by
    have e:d=.agg [z0.1,z1.1,z2.1,z3.1]:=hd;exact J79 _
   obtain ⟨n0,g0,_,w0⟩:=DataW.trod_int Tryz.underlying3 f0;obtain ⟨n1,g1,_,w1⟩:=DataW.trod_int Tryz.underlying3 f1;obtain ⟨s2,g2,_,_⟩:=DataW.trod_string Tryz.underlying9 f2;obtain ⟨l,ad,cap,css,hv,hE,hR,hs,_⟩:=zBT (e:=144) (v:=c3) (d:=z3.1) (ps:=z3.2) (fun (y:Ex) cs=>zA5 W (fun k=>k < W.heap.size) y cs) Ex.cnt Tryz.underlying142 cEx (by decide) f3 (fun fuel cs d' ps' hb h'=>ih fuel cs d' ps' (by omega) h');simp at g0 g1 g2
   subst g0 g1 g2 hv;refine ⟨.mk n0 n1 s2 l, .mk n0 n1 s2 l ad cap css hE hR,?_⟩
   rw [zI1] at hs;simp only [Ex.cnt];omega
theorem zN8 {n:Int} (h:(Lit.int .i64 n).wf=true):kOk n:=by
 have:(-9223372036854775808 <= n) /\ (n <= 9223372036854775807):=by simpa [Lit.wf,IntKind.min,IntKind.max,IntKind.signed,IntKind.bits] using h
 exact ⟨this.1,by omega⟩
theorem zDG:(l:List Ac) -> (∀ (i:Nat) (y:Ac),l[i]?=some y -> y.kinds) -> Ac.zBD l
 | [],_=>trivial
 | x :: r,h=>by
   simp only [Ac.zBD];exact ⟨h 0 x rfl,zDG r (fun i y e=>h (i+1) y (by simpa using e))⟩
theorem zJ3:∀ (N fuel:Nat) (cs:List Value) (d:DataW H) (ps:List MemPlace),Rows.uptoBulk d <= N -> DataW.trod enc Tryz.prog W 0 (fun _=>true) true fuel 146 cs=some (d,ps) →
 ∃ x:Ac,(zCM W (fun k=>k < W.heap.size) x cs /\ x.kinds) /\ x.sz <= Rows.uptoBulk d:=by
 intro N
 induction N with
 | zero=>intro fuel cs d ps hN h;have:=zB2 d;omega
 | succ N ih =>
   intro fuel cs d ps hN h
   obtain ⟨xs,n,_,hx,hl,hlen,hf⟩:=DataW.trod_struct Tryz.underlying146 h;rw [cAc] at hl;obtain ⟨c0,c1,c2,c3,c4,c5,c6,c7,c8,c9,rfl⟩:=zNU hl;obtain ⟨z0,z1,z2,z3,z4,z5,z6,rfl⟩:=zLZ (l:=xs) hlen;have f0:DataW.trod enc Tryz.prog W 0 (fun _=>true) true n 3 (([c0,c1,c2,c3,c4,c5,c6,c7,c8,c9].drop 0).take (Tryz.prog.cellsOf 3))=some z0:=hf 0 _ rfl;have f1:DataW.trod enc Tryz.prog W 0 (fun _=>true) true n 3 (([c0,c1,c2,c3,c4,c5,c6,c7,c8,c9].drop 1).take (Tryz.prog.cellsOf 3))=some z1:=hf 1 _ rfl;have f2:DataW.trod enc Tryz.prog W 0 (fun _=>true) true n 3 (([c0,c1,c2,c3,c4,c5,c6,c7,c8,c9].drop 2).take (Tryz.prog.cellsOf 3))=some z2:=hf 2 _ rfl;have f3:DataW.trod enc Tryz.prog W 0 (fun _=>true) true n 144 (([c0,c1,c2,c3,c4,c5,c6,c7,c8,c9].drop 3).take (Tryz.prog.cellsOf 144))=some z3:=hf 3 _ rfl;have f4:DataW.trod enc Tryz.prog W 0 (fun _=>true) true n 3 (([c0,c1,c2,c3,c4,c5,c6,c7,c8,c9].drop 7).take (Tryz.prog.cellsOf 3))=some z4:=hf 4 _ rfl;have f5:DataW.trod enc Tryz.prog W 0 (fun _=>true) true n 46 (([c0,c1,c2,c3,c4,c5,c6,c7,c8,c9].drop 8).take (Tryz.prog.cellsOf 46))=some z5:=hf 5 _ rfl;have f6:DataW.trod enc Tryz.prog W 0 (fun _=>true) true n 46 (([c0,c1,c2,c3,c4,c5,c6,c7,c8,c9].drop 9).take (Tryz.prog.cellsOf 46))=some z6:=hf 6 _ rfl;rw [zLa] at f0 f1 f2 f4;rw [cEx] at f3;rw [zO5] at f5 f6;have hd:=congrArg Prod.fst hx
   have hbd:Rows.uptoBulk z0.1+Rows.uptoBulk z3.1+Rows.uptoBulk z5.1+Rows.uptoBulk z6.1+1 <= Rows.uptoBulk d:=by
    have e:d=.agg [z0.1,z1.1,z2.1,z3.1,z4.1,z5.1,z6.1]:=hd;exact J79 _
   obtain ⟨n0,g0,_,w0⟩:=DataW.trod_int Tryz.underlying3 f0;obtain ⟨n1,g1,_,w1⟩:=DataW.trod_int Tryz.underlying3 f1;obtain ⟨n2,g2,_,w2⟩:=DataW.trod_int Tryz.underlying3 f2;obtain ⟨n4,g4,_,w4⟩:=DataW.trod_int Tryz.underlying3 f4;obtain ⟨x,hxe,hxs⟩:=zJM (Rows.uptoBulk z3.1) _ _ z3.1 z3.2 (Nat.le_refl _) f3;obtain ⟨t,ta,tc,tss,tv,tE,tR,tS,tL⟩:=zBT (e:=146) (v:=c8) (d:=z5.1) (ps:=z5.2) (fun (y:Ac) cs=>zCM W (fun k=>k < W.heap.size) y cs /\ y.kinds) Ac.sz Tryz.underlying46 cAc (by decide) f5 (fun fuel cs d' ps' hb h'=>ih fuel cs d' ps' (by have:=zB2 z0.1;omega) h');obtain ⟨e,ea,ec,ess,ev,eE,eR,eS,_⟩:=zBT (e:=146) (v:=c9) (d:=z6.1) (ps:=z6.2) (fun (y:Ac) cs=>zCM W (fun k=>k < W.heap.size) y cs /\ y.kinds) Ac.sz Tryz.underlying46 cAc (by decide) f6 (fun fuel cs d' ps' hb h'=>ih fuel cs d' ps' (by have:=zB2 z0.1;omega) h');simp at g0 g1 g2 g4
   subst g0 g1 g2 g4 tv ev;refine ⟨.mk n0 n1 n2 x n4 t e,⟨zCM.mk n0 n1 n2 x n4 t e [c3,c4,c5,c6] ta ea tc ec tss ess hxe tE (fun i y hy=>(tR i y hy).1) eE (fun i y hy=>(eR i y hy).1),?_⟩,?_⟩
   ·simp only [Ac.kinds]
    exact ⟨zN8 w0,zDG t (fun i y hy=>(tR i y hy).2),zDG e (fun i y hy=>(eR i y hy).2)⟩
   ·rw [zIR] at tS eS
    have:=zB2 z0.1
    simp only [Ac.sz];omega
def BdC (W:World) (b:Bd) (cs:List Value):Prop:=∃ ad cap,cs=[.int .i64 b.regs, .slice ad b.acts.length cap] /\ zAG W (fun k=>k < W.heap.size) b.acts ad /\ Ac.zBD b.acts /\ b.acts.length <= cap
theorem zJX {fuel:Nat} {cs:List Value} {d:DataW H} {ps:List MemPlace} (h:DataW.trod enc Tryz.prog W 0 (fun _=>true) true fuel 48 cs=some (d,ps)) :
 ∃ b:Bd,BdC W b cs /\ 1+Ac.szL b.acts <= Rows.uptoBulk d:=by
 obtain ⟨xs,n,_,hx,hl,hlen,hf⟩:=DataW.trod_struct Tryz.underlying48 h;rw [cBd] at hl;obtain ⟨c0,c1,rfl⟩:=zLQ hl;obtain ⟨z0,z1,rfl⟩:=zLQ (l:=xs) hlen;have f0:DataW.trod enc Tryz.prog W 0 (fun _=>true) true n 3 (([c0,c1].drop 0).take (Tryz.prog.cellsOf 3))=some z0:=hf 0 _ rfl;have f1:DataW.trod enc Tryz.prog W 0 (fun _=>true) true n 46 (([c0,c1].drop 1).take (Tryz.prog.cellsOf 46))=some z1:=hf 1 _ rfl;rw [zLa] at f0;rw [zO5] at f1;have hd:=congrArg Prod.fst hx
 have hbd:Rows.uptoBulk z0.1+Rows.uptoBulk z1.1+1 <= Rows.uptoBulk d:=by
  have e:d=.agg [z0.1,z1.1]:=hd;exact J79 _
 obtain ⟨n0,g0,_,w0⟩:=DataW.trod_int Tryz.underlying3 f0;obtain ⟨t,ta,tc,tss,tv,tE,tR,tS,tL⟩:=zBT (e:=146) (v:=c1) (d:=z1.1) (ps:=z1.2) (fun (y:Ac) cs=>zCM W (fun k=>k < W.heap.size) y cs /\ y.kinds) Ac.sz Tryz.underlying46 cAc (by decide) f1 (fun fuel cs d' ps' hb h'=>zJ3 _ fuel cs d' ps' (Nat.le_refl _) h');simp at g0
 subst g0 tv;refine ⟨⟨n0,t⟩,⟨ta,tc,rfl,⟨tss,tE,fun i y hy=>(tR i y hy).1⟩,zDG t (fun i y hy=>(tR i y hy).2),tL⟩,?_⟩
 rw [zIR] at tS;show 1+Ac.szL t <= _
 omega
def zGw (w:World) (F:Nat -> Prop) (bs:List Bd) (ad:Option Addr):Prop :=
 ∀ i (hi:i < bs.length),∃ g o ba bc,ad=some ⟨g,o,none⟩ /\ F g /\ w.cell? ⟨g,o+i*2,none⟩=some (.int .i64 bs[i].regs) /\ w.cell? ⟨g,o+i*2+1,none⟩=some (.slice ba bs[i].acts.length bc) /\ zAG w F bs[i].acts ba /\ bs[i].acts.length <= bc
theorem zGw.at {w:World} {F:Nat -> Prop} {bs:List Bd} {ad:Option Addr} (h:zGw w F bs ad):zBa w F bs ad:=fun i hi=>by
 obtain ⟨g,o,ba,bc,a1,a2,a3,a4,a5,_⟩:=h i hi;exact ⟨g,o,ba,bc,a1,a2,a3,a4,a5⟩
theorem zJC {fuel:Nat} {cs:List Value} {d:DataW H} {ps:List MemPlace} (h:DataW.trod enc Tryz.prog W 0 (fun _=>true) true fuel 25 cs=some (d,ps)) :
 ∃ (l:List Int) (mu:Int) (bs:List Bd) (uca uta:Option Addr) (ucc utc:Nat),cs=[.slice uca l.length ucc, .int .i64 mu, .slice uta bs.length utc] /\ zAn W (fun k=>k < W.heap.size) l uca /\ zGw W (fun k=>k < W.heap.size) bs uta ∧
   (∀ b,b ∈ bs -> Ac.zBD b.acts) /\ zAb bs+l.length+bs.length <= 2*Rows.uptoBulk d:=by
 obtain ⟨xs,n,_,hx,hl,hlen,hf⟩:=DataW.trod_struct Tryz.underlying25 h;rw [cUn] at hl;obtain ⟨c0,c1,c2,rfl⟩:=zG3 hl;obtain ⟨z0,z1,z2,rfl⟩:=zG3 (l:=xs) hlen;have f0:DataW.trod enc Tryz.prog W 0 (fun _=>true) true n 22 (([c0,c1,c2].drop 0).take (Tryz.prog.cellsOf 22))=some z0:=hf 0 _ rfl;have f1:DataW.trod enc Tryz.prog W 0 (fun _=>true) true n 3 (([c0,c1,c2].drop 1).take (Tryz.prog.cellsOf 3))=some z1:=hf 1 _ rfl;have f2:DataW.trod enc Tryz.prog W 0 (fun _=>true) true n 23 (([c0,c1,c2].drop 2).take (Tryz.prog.cellsOf 23))=some z2:=hf 2 _ rfl;rw [zOl] at f0;rw [zLa] at f1;rw [zPo] at f2;have hd:=congrArg Prod.fst hx
 have hbd:Rows.uptoBulk z0.1+Rows.uptoBulk z2.1+1 <= Rows.uptoBulk d:=by
  have e:d=.agg [z0.1,z1.1,z2.1]:=hd;exact J79 _
 obtain ⟨n1,g1,_,w1⟩:=DataW.trod_int Tryz.underlying3 f1
 obtain ⟨l,la,lc,lss,lv,lE,lR,lS,_⟩:=zBT (e:=3) (v:=c0) (d:=z0.1) (ps:=z0.2) (fun (y:Int) cs=>cs=[.int .i64 y]) (fun _=>1) Tryz.underlying22 zLa (by decide) f0 (fun fuel cs d' ps' hb h'=>by
  obtain ⟨m,gm,_,_⟩:=DataW.trod_int Tryz.underlying3 h';exact ⟨m,gm,zB2 d'⟩)
 obtain ⟨t,ta,tc,tss,tv,tE,tR,tS,tL⟩:=zBT (e:=48) (v:=c2) (d:=z2.1) (ps:=z2.2) (fun (y:Bd) cs=>BdC W y cs) (fun b=>1+Ac.szL b.acts) Tryz.underlying23 cBd (by decide) f2 (fun fuel cs d' ps' hb h'=>zJX h');simp at g1
 subst g1 lv tv;rw [zIe] at lS;rw [zHm] at tS
 have hlb:∀ r:List Bd,r.length <= zAb r:=fun r=>by
  induction r with
  | nil=>exact Nat.le_refl _
  | cons x r ih=>simp only [List.length_cons,zAb];omega
 have hlt:=hlb t;refine ⟨l,n1,t,la,ta,lc,tc,rfl,?_,?_,?_,by omega⟩
 ·intro i hi
  obtain ⟨g,o,e,hg,_,hc⟩:=lE i hi;have hR:=lR i l[i] (List.getElem?_eq_getElem hi);refine ⟨g,o,e,hg,?_⟩
  have:=hc 0 (.int .i64 l[i]) (by rw [hR];rfl)
  simpa using this
 ·intro i hi
  obtain ⟨g,o,e,hg,_,hc⟩:=tE i hi;obtain ⟨ba,bc,hR,hA,_,hL⟩:=tR i t[i] (List.getElem?_eq_getElem hi);have c0:=hc 0 (.int .i64 t[i].regs) (by rw [hR];rfl);have c1:=hc 1 (.slice ba t[i].acts.length bc) (by rw [hR];rfl);refine ⟨g,o,ba,bc,e,hg,?_,?_,hA,hL⟩
  ·simpa using c0
  ·rw [Nat.add_assoc];exact c1
 ·intro b hb
  obtain ⟨i,hi⟩:=List.getElem?_of_mem hb;obtain ⟨ba,bc,_,_,hk,_⟩:=tR i b hi;exact hk
end
end Go.Proofs.YtoapgjjepiopbaaGreatDoor
namespace Go.Proofs.YtoapgjjepiopbaaGreatDoor
open Go.ChangeShapes Go.WideShapes Go.ChangeAt Go.RowKit
theorem own:ownKnob Tryz.prog.godebug=none:=by kernel_rfl
theorem laidOut:laidOutB Tryz.prog=true:=by kernel_rfl
theorem zGY {w w':World} (h:Keeps zA w w'):Below w.heap.size w w':=h.below (fun k _ hk=>hk.elim) (Nat.le_refl _)
def putCells (h:Array Obj) (g:Nat) (cs:Array Value):Array Obj:=h.modify g fun
 | .cells _ t frozen=>.cells cs t frozen
 | o=>o
noncomputable def zES (os:Os):World :=
 let N:=(World.settled Tryz.prog os).heap.size
 let w0:=World.holding Tryz.prog os ⟨#[.cells #[.string ⟨#[118,97,108,117,101,32,111,117,116,32,111,102,32,114,97,110,103,101]⟩] 474, .cells #[.string ⟨#[105,110,118,97,108,105,100,32,115,121,110,116,97,120]⟩] 474],#[],[]⟩
 let h1:=putCells w0.heap 2 (Lib.deBruijn32tab.map fun (z:Nat)=>Value.int .u8 (z:Int)).toArray
 let h2:=putCells h1 3 (Lib.deBruijn64tab.map fun (z:Nat)=>Value.int .u8 (z:Int)).toArray
 let h3:=putCells h2 0 (Lib.pow10Tab.map fun z=>Value.int .u64 z).toArray
 let h4:=putCells h3 5 ((List.range 16).flatMap fun i=>[Value.int .u8 (Lib.accLo i),Value.int .u8 (Lib.accHi i)]).toArray
 let h5:=putCells h4 7 #[.iface 472 (.pointer (some ⟨N,0,none⟩))]
 let h6:=putCells h5 6 #[.iface 472 (.pointer (some ⟨N+1,0,none⟩))]
 let h7:=putCells h6 4 (Lib.firstTab.map fun z=>Value.int .u8 z).toArray
 { w0 with heap:=h7 }
theorem zMy {H:Type} {W:World} {cs:List Int} {bs:List Bd} {uca uta:Option Addr} {d:DataW H} (hN:zAn W (fun k=>k < W.heap.size) cs uca) (hC:zGw W (fun k=>k < W.heap.size) bs uta) (hk:∀ b,b ∈ bs -> Ac.zBD b.acts) (hs:zAb bs+cs.length+bs.length <= 2*Rows.uptoBulk d) (hb:Rows.uptoBulk d <= 1048576):zCN W (fun k=>k < W.heap.size) cs bs uca uta :=
 ⟨hN,hC.at,fun _ h=>h,hk,by omega,by omega,by omega⟩
theorem zMp {H:Type} {d:DataW H} {l:List (DataW H)} (hk:Rows.uptoSmall H (d :: l)=true):Rows.uptoBulk d <= 1048576:=by
 have h:Rows.uptoBulkAll (d :: l) <= 1048576:=of_decide_eq_true hk;simp only [Rows.uptoBulkAll] at h;omega
end Go.Proofs.YtoapgjjepiopbaaGreatDoor
namespace Go.Proofs.YtoapgjjepiopbaaGreatDoor.lawExploreNew
open Go.ChangeShapes Go.WideShapes Go.ChangeAt Go.RowKit
theorem zJ7 (os:Os):laidMet Tryz.prog Rows.exploreNewUptoRow.laid ((zES os).forCall (fun _ _=>0) ⟨#[],#[.agg #[.slice none 0 0, .int .i64 0, .slice none 0 0]],[]⟩).memory :=
 laidMet_of_run3 8 (by kernel_rfl) (by kernel_rfl) (by kernel_rfl)
theorem reads (os:Os) {H:Type} (enc:TypeId × Value -> H):∃ places,DataW.whole enc Tryz.prog ((zES os).forCall (fun _ _=>0) ⟨#[],#[.agg #[.slice none 0 0, .int .i64 0, .slice none 0 0]],[]⟩).memory Tryz.f4.params.toList Rows.exploreNewSpec.vars false #[Value.agg #[.slice none 0 0, .int .i64 0, .slice none 0 0]].toList 8=some ([.agg [.nil, .lit (.int .i64 0), .nil]],[],places) :=
 ⟨[],by kernel_rfl⟩
theorem zOv:Tryz.prog.globalNamed "math/bits.deBruijn64tab"=some 3:=by kernel_rfl
theorem zLH:(Tryz.prog.globals[3]?).map (·.type)=some 400:=by kernel_rfl
theorem zKq:Tryz.prog.cellsOf 400=64:=by kernel_rfl
theorem zM4:Tryz.prog.cellsOf 5=1:=by kernel_rfl
theorem zGX {P:Program} {W:World} {x:String × DataW Unit} {rest:List (String × DataW Unit)} (h:laidMet P (x :: rest) W):laidMet P rest W:=by
 obtain ⟨ps,⟨g',t',cs,fuel,p,q,_,_,_,_,hq,hps⟩,hnd,hz⟩:=h;subst hps;exact ⟨q,hq,(List.nodup_append.1 hnd).2.1,fun b off hb=>hz b off (List.mem_append_right _ hb)⟩
theorem zOg {W:World} (h:laidMet Tryz.prog Rows.exploreNewUptoRow.laid W):zAV W:=by
 have h1:Lib.TabIs Tryz.prog W "math/bits.deBruijn64tab" .u8 zLn :=
  Lib.tabIs_of_head zOv zLH Tryz.underlying400 Tryz.underlying5 zM4 zKq (zGX h)
 exact fun j hj=>h1.cell zOv j (by exact hj)
theorem contract (H:Type) (enc:TypeId × Value -> H) (W:World) (base:Nat) (args:Array Value) (ds gs:List (DataW H)) (before:List MemPlace)
 (hval0:∀ (j:Nat) t v,Tryz.f4.params[j]?=some t -> args[j]?=some v -> Value.okWide Tryz.prog W .any base t v)
 (hW:DataW.Whole enc Tryz.prog Tryz.f4.params.toList Rows.exploreNewSpec.vars false W args.toList ds gs before) (hk:Rows.uptoSmall H (ds++gs)=true) (hL:laidMetH Tryz.prog Rows.exploreNewUptoRow.laid W) :
 Calls Tryz.prog 4 args W fun e W'=>∃ v,e=.returned v /\ Rows.exploreNewSpec.post enc Tryz.prog Tryz.f4 false true false false W args v W':=by
 have hval:∀ (j:Nat) t v,Tryz.f4.params[j]?=some t -> args[j]?=some v -> Value.okWide Tryz.prog W .any base t v:=hval0
 have hW':=hW;have hltW:=hW.lt;obtain ⟨p,q,hA0,hV,rfl,hfz,hnd⟩:=hW;have hA:DataW.TrodAll enc Tryz.prog W 0 (fun _=>true) true Tryz.f4.params.toList args.toList ds p:=hA0;rw [Tryz.params4] at hA hval;obtain ⟨v0,vs0,d0,ds0,p0,q0,hargs,rfl,rfl,h0,r0⟩:=trodAll_cons hA;obtain ⟨rfl,rfl,rfl⟩:=trodAll_nil r0;obtain rfl:args=#[v0]:=by cases args;simp_all
 obtain ⟨rfl,rfl⟩:=trodVars_none hV;have h0k:=h0;have hlt0:∀ x ∈ p0,x.block < W.heap.size:=fun x hx=>hltW x (by simp [hx])
 obtain ⟨c0,rfl,_⟩:=okWide_struct Tryz.underlying25 (hval 0 25 v0 rfl rfl);have hB:=zMp hk;obtain ⟨f0,hf0⟩:=h0;obtain ⟨l,mu,bs,uca,uta,ucc,utc,hcs,hN,hC,hkd,hsz⟩:=zJC (d:=d0) (ps:=p0) hf0
 have hc0:c0=#[.slice uca l.length ucc, .int .i64 mu, .slice uta bs.length utc]:=by
  have h:c0.toList=[.slice uca l.length ucc, .int .i64 mu, .slice uta bs.length utc]:=hcs;cases c0;simpa using h
 subst hc0;clear hA0 hval0;simp only [List.append_nil] at hW';have hU:=zMy hN hC hkd hsz hB;refine (zJB (ucc:=ucc) (utc:=utc) (mu:=mu) hU (zOg hL)).mono fun e W' ⟨he,hk⟩=>?_
 subst he;have hb:=zGY hk;refine ⟨_,rfl,_,_,_,[],p0,[],hW',trodAll_cons_mk (shut_bool Tryz.underlying4 _) trodAll_mk0,?_,rfl,hb.frame _,fun h=>by cases h⟩
 have:=trodAll_cons_mk (Below.trod laidOut (by kernel_rfl) (of_decide_eq_true (by kernel_rfl)) h0k hb hlt0) trodAll_mk0
 rw [List.append_nil] at this;rw [Tryz.params4];exact this
theorem lifted (os:Os) (started:os.Started) (H:Type) (enc:TypeId × Value -> H) (F:Stop.Interp) :
 ReturnsInHanded {} Tryz.checked os 4 .any ((Rows.OpenSpec.upto Rows.exploreNewSpec).preRow enc Tryz.prog Tryz.f4 Rows.exploreNewUptoRow.domain false Rows.exploreNewUptoRow.laid) (((Rows.OpenSpec.upto Rows.exploreNewSpec).at F).post enc Tryz.prog Tryz.f4 false true false false):=by
 obtain ⟨places,hx⟩:=reads os enc
 refine returnsInHanded_of_row (C:=Tryz.checked) (s:=Rows.OpenSpec.upto Rows.exploreNewSpec) own started (by kernel_rfl) Tryz.func4
  (witness_row_atRef (enc:=enc) (C:=Tryz.checked) false (zES os) #[.agg #[.slice none 0 0, .int .i64 0, .slice none 0 0]] rfl (by kernel_rfl) (by kernel_rfl) (by kernel_rfl)
    (OpenSpec.preRow_of_cond 8 hx (by kernel_rfl) (fun k hk=>by cases hk;kernel_rfl) (by kernel_rfl) (zJ7 os))) ?_
 intro W base args ds gs before hval hW _ hcond _ hL _ _
 exact contract H enc W base args ds gs before hval hW (hcond _ rfl) hL
theorem zB8 {x y:Bool} (h:x=true) (k:y=true):(x&&y)=true:=by rw [h,k];rfl
theorem jf0:(Rows.exploreNewUptoRow.wf (OpenSpec.ofChange (Rows.OpenSpec.upto Rows.exploreNewSpec).bare)&&laidOutB Tryz.pinned.checked.prog&&mapsRowed Tryz.pinned.checked.prog&&Tryz.f4.params.all (Tryz.pinned.checked.prog.readableRec ·)&&namedTie Tryz.pinned.checked.prog Rows.exploreNewUptoRow.named (Rows.OpenSpec.upto Rows.exploreNewSpec).bare.vars&&(Rows.exploreNewUptoRow.stops==[])&&(Tryz.pinned.checked.prog.stops==[])&&(Rows.exploreNewUptoRow.knobs==[])&&(Tryz.pinned.checked.prog.stopKnobs==[]))=true:=by kernel_rfl
theorem jf1:(Rows.exploreNewUptoRow.inPlace==Tryz.pinned.checked.prog.inPlace 4)=true:=by kernel_rfl
theorem jf2:(Rows.exploreNewUptoRow.unfollowed==Tryz.pinned.checked.prog.unfollowed 4)=true:=by kernel_rfl
theorem jf3:(Rows.exploreNewUptoRow.recurses==Tryz.pinned.checked.prog.recurses 4)=true:=by kernel_rfl
theorem jf4:(Rows.exploreNewUptoRow.named==Tryz.pinned.checked.prog.varsNamed 4)=true:=by kernel_rfl
theorem jf5:joinedFacts Tryz.pinned.checked.prog 4 Tryz.f4 (Rows.OpenSpec.upto Rows.exploreNewSpec).bare Rows.exploreNewUptoRow=true:=zB8 (zB8 (zB8 (zB8 (zB8 (zB8 (zB8 (zB8 (zB8 (zB8 (zB8 (zB8 (zB8 (zB8 (zB8 (zB8 (zB8 (zB8 (zB8 (zB8 (zB8 (zB8 (zB8 jf0 jf1) jf2) jf3) jf4) (by kernel_rfl)) (by kernel_rfl)) (by kernel_rfl)) (by kernel_rfl)) (by kernel_rfl)) (by kernel_rfl)) (by kernel_rfl)) (by kernel_rfl)) (by kernel_rfl)) (by kernel_rfl)) (by kernel_rfl)) (by kernel_rfl)) (by kernel_rfl)) (by kernel_rfl)) (by kernel_rfl)) (by kernel_rfl)) (by kernel_rfl)) (by kernel_rfl)) (by kernel_rfl)
theorem zK8:Rows.ExploreNewUptoSaid :=
 OpenClaim.holds_of_cond 4 Tryz.f4 rfl rfl rfl rfl rfl rfl rfl ⟨rfl,rfl,rfl,rfl,rfl⟩ rfl rfl rfl rfl rfl (by kernel_rfl) Tryz.func4 jf5
  (of_decide_eq_true (by kernel_rfl)) (by unfold Func.isWrapper;first | (rw [if_pos (by decide +kernel)];kernel_rfl) | (rw [if_neg (by decide +kernel)];exact ⟨rfl,rfl⟩))
  (fun os started H enc _ F=>by rw [OpenClaim.pre_eq_preRow];exact lifted os started H enc F)
theorem plain (f:FuncId) (fn:Func) (hf:Tryz.pinned.checked.prog.funcNamed "racetree/racetreelaw24.ExploreNew"=some f) (hfn:Tryz.pinned.checked.prog.funcs[f]?=some fn) :
 true=Tryz.pinned.checked.prog.looks [] /\ ∀ (j:Nat) t,fn.params[j]?=some t -> Tryz.pinned.checked.prog.wantsStandIn t=false:=by
 obtain rfl:f=4:=Option.some.inj ((show Tryz.prog.funcNamed "racetree/racetreelaw24.ExploreNew"=some 4 by kernel_rfl).symm.trans hf) |>.symm;obtain rfl:fn=Tryz.f4:=(Option.some.inj (Tryz.func4.symm.trans hfn)).symm;refine ⟨by kernel_rfl,fun j t ht=>?_⟩
 rw [Tryz.params4] at ht
 have hm:t=25:=by
  have:=Array.mem_of_getElem? ht
  simp at this
  omega
 rcases hm with rfl
 ·exact (show Tryz.prog.wantsStandIn 25=false by kernel_rfl)
theorem cardUpto:Rows.ExploreNewUptoCardSaid :=
 Claim7.holds_tied_plain_at .later [] _ _ _ _ zK8 (fun _ h=>by cases h) (by kernel_rfl) (fun _ h=>by cases h) exploreNewUpto_row_tie rfl ⟨rfl,rfl⟩ (by kernel_rfl) rfl plain (by kernel_rfl)
end Go.Proofs.YtoapgjjepiopbaaGreatDoor.lawExploreNew
