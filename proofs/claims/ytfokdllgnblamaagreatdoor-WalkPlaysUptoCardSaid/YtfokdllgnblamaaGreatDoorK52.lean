/- WalkPlays, where what comes in is of bulk at most 1048576: it returns true and each argument reads afterwards as before; tied to the pruned copy of the project. Condition: the row is the given one (the seven tables laid as the text lays them). -/
import Derived.Deep.Strs
import Derived.Lib.ItoaNum
import Derived.Deep.DeepWitnessRowRef
import Derived.Lib.TrailingZeros
import Derived.Test.YtfokdllgnblamaaGreatDoorK51
import Derived.Test.YtfokdllgnblamaaGreatDoorCards
import Derived.Test.YtfokdllgnblamaaGreatDoorTie
set_option linter.all false
set_option maxRecDepth 100000
namespace Go.Proofs.YtfokdllgnblamaaGreatDoor
open Go.ChangeShapes Go.WideShapes Go.ChangeAt Go.RowKit
abbrev vI:=@Go.DataW.trod_int
theorem J92 (P:Prop) (h:P:=by
 obtain ⟨g,o,e,hg,_,hc⟩:=lE i hi;have hR:=lR i l[i] (yQ hi);refine ⟨g,o,e,hg,?_⟩
 have:=hc 0 (.int .i64 l[i]) (by rw [hR];rfl)
 simpa using this):P:=h
theorem J93 (P:Prop) (h:P:=by rw [e];simp only [Rows.uptoBulk,Rows.uptoBulkAll];omega):P:=h
set_option maxRecDepth 100000
theorem zJ4:Tryz.prog.cellsOf 3=1:=by kernel_rfl
theorem cStr:Tryz.prog.cellsOf 9=1:=by kernel_rfl
theorem zO0:Tryz.prog.cellsOf 22=1:=by kernel_rfl
theorem cEx:Tryz.prog.cellsOf 65=4:=by kernel_rfl
theorem zPO:Tryz.prog.cellsOf 63=1:=by kernel_rfl
theorem cAc:Tryz.prog.cellsOf 68=10:=by kernel_rfl
theorem zOx:Tryz.prog.cellsOf 66=1:=by kernel_rfl
theorem cBd:Tryz.prog.cellsOf 70=2:=by kernel_rfl
theorem zPR:Tryz.prog.cellsOf 23=1:=by kernel_rfl
theorem cUn:Tryz.prog.cellsOf 25=3:=by kernel_rfl
theorem zKh {w:World} {a:Addr} {v:Value} (h:w.cell? a=some v):a.spot=none:=by
 unfold World.cell? at h;split at h
 ·split at h
  ·cases h
  ·rename_i h2;simpa using h2
 ·cases h
theorem zDs {a:Addr} (h:a.spot=none) (n:Nat):a.add n=⟨a.block,a.off+n,none⟩:=by
 obtain ⟨b,o,s⟩:=a;simp at h
 subst h;unfold Addr.add;split
 ·simp_all
 ·rfl
theorem zCD {H:Type} (d:DataW H):1 <= Rows.uptoBulk d:=by
 cases d with
 | lit l=>cases l <;> simp [Rows.uptoBulk]
 | nil=>simp [Rows.uptoBulk]
 | ptr d=>simp [Rows.uptoBulk]
 | slice elems spare=>simp [Rows.uptoBulk]
 | agg parts=>simp [Rows.uptoBulk]
 | iface t d=>simp [Rows.uptoBulk]
 | map entries=>simp [Rows.uptoBulk]
 | held h=>simp [Rows.uptoBulk]
theorem zKn {H:Type} {d:DataW H} {l:List (DataW H)} (h:d ∈ l):Rows.uptoBulk d <= Rows.uptoBulkAll l:=by
 induction l with
 | nil=>cases h
 | cons x r ih =>
   simp only [Rows.uptoBulkAll];cases xX.1 h with
   | inl e=>subst e;omega
   | inr e=>have:=ih e;omega
def sumOf {α:Type} (m:α -> Nat):List α -> Nat
 | []=>0
 | x :: r=>m x+sumOf m r
theorem zH4 {H α:Type} {m:α -> Nat} {Y:Nat -> α} {D:Nat -> DataW H}:(l:List Nat) -> (∀ i,i ∈ l -> m (Y i) <= Rows.uptoBulk (D i)) -> sumOf m (l.map Y) <= Rows.uptoBulkAll (l.map D)
 | [],_=>yV _
 | i :: r,h=>by
   have h1:=h i uR;have h2:=zH4 r (fun j hj=>h j (uS _ hj));simp only [uZ,sumOf,Rows.uptoBulkAll];omega
theorem zJV:(l:List Ex) -> sumOf Ex.cnt l=Ex.zW l
 | []=>rfl
 | x :: r=>by simp only [sumOf,Ex.zW,zJV r]
theorem zJC:(l:List Ac) -> sumOf Ac.sz l=Ac.szL l
 | []=>rfl
 | x :: r=>by simp only [sumOf,Ac.szL,zJC r]
theorem zIY:(l:List Bd) -> sumOf (fun b=>1+Ac.szL b.acts) l=zAy l
 | []=>rfl
 | x :: r=>by simp only [sumOf,zAy,zIY r]
theorem zHA {α:Type}:(l:List α) -> sumOf (fun _=>1) l=l.length
 | []=>rfl
 | x :: r=>by simp only [sumOf,xZ,zHA r];omega
section
variable {H:Type} {enc:TypeId × Value -> H} {W:World}
theorem zBo {α:Type} [Inhabited α] {t e:TypeId} {sz fuel:Nat} {v:Value} {d:DataW H} {ps:List MemPlace} (R:α -> List Value -> Prop) (m:α -> Nat) (ht:Tryz.prog.underlying t=some (.slice e)) (hc:Tryz.prog.cellsOf e=sz) (hpos:0 < sz)
 (h:DataW.trod enc Tryz.prog W 0 (fun _=>true) true fuel t [v]=some (d,ps))
 (hel:∀ fuel cs d' ps',Rows.uptoBulk d' < Rows.uptoBulk d -> DataW.trod enc Tryz.prog W 0 (fun _=>true) true fuel e cs=some (d',ps') -> ∃ y,R y cs /\ m y <= Rows.uptoBulk d') :
 ∃ (l:List α) (ad:Option Addr) (cap:Nat) (css:Nat -> List Value),v=.slice ad l.length cap /\ zBN W (fun k=>k < W.heap.size) sz l.length ad css /\ (∀ i y,l[i]?=some y -> R y (css i)) /\ sumOf m l+1 <= Rows.uptoBulk d /\ l.length <= cap:=by
 rcases Deep.open_slice ht h with ⟨hcs,hx⟩ | ⟨a,len,cap,M,n,D,Pl,hcs,hb,hl,hm,hmm,hx,hE⟩
 ·have hv:v=.slice none 0 0:=by simpa using hcs
  exact ⟨[],none,0,fun _=>[],hv,fun i hi=>absurd hi (kQ _),fun i y e=>by simp at e,by simp only [sumOf];exact zCD d,yV _⟩
 ·have hv:v=.slice (some a) len cap:=by simpa using hcs
  simp only [if_true] at hmm;subst hmm;have hd:=kJ Prod.fst hx;simp only at hd;have hbD:Rows.uptoBulkAll ((List.range len).map D)+1 <= Rows.uptoBulk d:=by rw [hd];simp only [Rows.uptoBulk];omega
  have key:∀ k,k < len -> ∃ y:α × List Value,a.spot=none /\ a.block < W.heap.size /\ y.2.length=sz /\ (∀ j u,y.2[j]?=some u -> W.cell? ⟨a.block,a.off+(k*sz+j),none⟩=some u) /\ R y.1 y.2 /\ m y.1 <= Rows.uptoBulk (D k):=by
   intro k hk
   have hsp:a.spot=none /\ a.block < W.heap.size:=by
    obtain ⟨cs0,h0,_⟩:=hE 0 (by omega);rw [hc] at h0;obtain ⟨_,hlen,hc0⟩:=World.cells?_some h0;have h1:=hc0 0 hpos;rw [yQ (by omega)] at h1;have h2:=zKh h1;have h3:=xP W _ h1;have h4:a.spot=none:=by simpa [Addr.add] using h2
    refine ⟨h4,?_⟩
    rw [Nat.zero_mul,zDs h4] at h3;rw [zDs (a:=⟨a.block,a.off+0,none⟩) rfl] at h3;exact h3
   obtain ⟨cs,h1,h2⟩:=hE k (by omega);rw [hc] at h1;obtain ⟨_,hlen,hc1⟩:=World.cells?_some h1
   obtain ⟨y,hy,hym⟩:=hel _ _ _ _ (by
    have:=zKn (d:=D k) (l:=(List.range len).map D) (List.mem_map.2 ⟨k,xW.2 hk,rfl⟩)
    omega) h2
   refine ⟨(y,cs),hsp.1,hsp.2,hlen,fun j u hj=>?_,hy,hym⟩
   have hjl:j < sz:=by rw [<- hlen];exact (yP.1 hj).1
   have:=hc1 j hjl
   have hsp2:(a.add (k*sz)).spot=none:=by rw [zDs hsp.1]
   rw [zDs hsp2,zDs hsp.1] at this;rw [<- uK,this,hj]
  obtain ⟨Y,hY⟩:=Deep.choose_lt (α:=α × List Value) key;have hlen:((List.range len).map fun i=>(Y i).1).length=len:=by simp
  refine ⟨(List.range len).map fun i=>(Y i).1,some a,_,fun i=>(Y i).2,by rw [hlen];exact hv,fun i hi=>?_,fun i y e=>?_,?_,by rw [hlen];exact hl⟩
  ·rw [hlen] at hi
   obtain ⟨q1,q2,q3,q4,_,_⟩:=hY i hi;exact ⟨a.block,a.off,by obtain ⟨b,o,s⟩:=a;simp at q1;subst q1;rfl,q2,q3,q4⟩
  ·have hi:i < len:=by have:=(yP.1 e).1;simpa using this
   have e2:(Y i).1=y:=by simpa [hi] using e
   rw [<- e2];exact (hY i hi).2.2.2.2.1
  ·have h1:=zH4 (m:=m) (Y:=fun i=>(Y i).1) (D:=D) (List.range len) (fun i hi=>(hY i (xW.1 hi)).2.2.2.2.2)
   omega
instance:Inhabited Ex:=⟨.mk 0 0 zq []⟩
instance:Inhabited Ac:=⟨.mk 0 0 0 (.mk 0 0 zq []) 0 [] []⟩
instance:Inhabited Bd:=⟨⟨0,[]⟩⟩
theorem zJe {α:Type} {l:List α} (h:l.length=4):∃ a b c d,l=[a,b,c,d]:=by
 match l,h with
 | [a,b,c,d],_=>exact ⟨a,b,c,d,rfl⟩
theorem zOi {α:Type} {l:List α} (h:l.length=10):∃ a b c d e f g i j k,l=[a,b,c,d,e,f,g,i,j,k]:=by
 match l,h with
 | [a,b,c,d,e,f,g,i,j,k],_=>exact ⟨a,b,c,d,e,f,g,i,j,k,rfl⟩
theorem zMc {α:Type} {l:List α} (h:l.length=7):∃ a b c d e f g,l=[a,b,c,d,e,f,g]:=by
 match l,h with
 | [a,b,c,d,e,f,g],_=>exact ⟨a,b,c,d,e,f,g,rfl⟩
theorem zLt {α:Type} {l:List α} (h:l.length=2):∃ a b,l=[a,b]:=by
 match l,h with
 | [a,b],_=>exact ⟨a,b,rfl⟩
theorem zII {α:Type} {l:List α} (h:l.length=3):∃ a b c,l=[a,b,c]:=by
 match l,h with
 | [a,b,c],_=>exact ⟨a,b,c,rfl⟩
theorem zKL:∀ (N fuel:Nat) (cs:List Value) (d:DataW H) (ps:List MemPlace),Rows.uptoBulk d <= N -> DataW.trod enc Tryz.prog W 0 (fun _=>true) true fuel 65 cs=some (d,ps) →
 ∃ x:Ex,zA9 W (fun k=>k < W.heap.size) x cs /\ x.cnt <= Rows.uptoBulk d:=by
 intro N
 induction N with
 | zero=>intro fuel cs d ps hN h;have:=zCD d;omega
 | succ N ih =>
   intro fuel cs d ps hN h
   obtain ⟨xs,n,_,hx,hl,hlen,hf⟩:=DataW.trod_struct Tryz.underlying65 h;rw [cEx] at hl;obtain ⟨c0,c1,c2,c3,rfl⟩:=zJe hl;obtain ⟨z0,z1,z2,z3,rfl⟩:=zJe (l:=xs) hlen;have f0:DataW.trod enc Tryz.prog W 0 (fun _=>true) true n 3 (([c0,c1,c2,c3].drop 0).take (Tryz.prog.cellsOf 3))=some z0:=hf 0 _ rfl;have f1:DataW.trod enc Tryz.prog W 0 (fun _=>true) true n 3 (([c0,c1,c2,c3].drop 1).take (Tryz.prog.cellsOf 3))=some z1:=hf 1 _ rfl;have f2:DataW.trod enc Tryz.prog W 0 (fun _=>true) true n 9 (([c0,c1,c2,c3].drop 2).take (Tryz.prog.cellsOf 9))=some z2:=hf 2 _ rfl;have f3:DataW.trod enc Tryz.prog W 0 (fun _=>true) true n 63 (([c0,c1,c2,c3].drop 3).take (Tryz.prog.cellsOf 63))=some z3:=hf 3 _ rfl;rw [zJ4] at f0 f1;rw [cStr] at f2;rw [zPO] at f3;have hd:=kJ Prod.fst hx
   have hbd:Rows.uptoBulk z3.1+1 <= Rows.uptoBulk d:=by
    have e:d=.agg [z0.1,z1.1,z2.1,z3.1]:=hd;exact J93 _
   obtain ⟨n0,g0,_,w0⟩:=vI xM f0;obtain ⟨n1,g1,_,w1⟩:=vI xM f1;obtain ⟨s2,g2,_,_⟩:=DataW.trod_string Tryz.underlying9 f2;obtain ⟨l,ad,cap,css,hv,hE,hR,hs,_⟩:=zBo (e:=65) (v:=c3) (d:=z3.1) (ps:=z3.2) (fun (y:Ex) cs=>zA9 W (fun k=>k < W.heap.size) y cs) Ex.cnt Tryz.underlying63 cEx (by decide) f3 (fun fuel cs d' ps' hb h'=>ih fuel cs d' ps' (by omega) h');simp at g0 g1 g2
   subst g0 g1 g2 hv;refine ⟨.mk n0 n1 s2 l, .mk n0 n1 s2 l ad cap css hE hR,?_⟩
   rw [zJV] at hs;simp only [Ex.cnt];omega
theorem zN6 {n:Int} (h:(Lit.int .i64 n).wf=true):kOk n:=by
 have:(-9223372036854775808 <= n) /\ (n <= 9223372036854775807):=by simpa [Lit.wf,IntKind.min,IntKind.max,IntKind.signed,IntKind.bits] using h
 exact ⟨this.1,by omega⟩
theorem zD0:(l:List Ac) -> (∀ (i:Nat) (y:Ac),l[i]?=some y -> y.kinds) -> Ac.zBl l
 | [],_=>trivial
 | x :: r,h=>by
   simp only [Ac.zBl];exact ⟨h 0 x rfl,zD0 r (fun i y e=>h (i+1) y (by simpa using e))⟩
theorem zLN:∀ (N fuel:Nat) (cs:List Value) (d:DataW H) (ps:List MemPlace),Rows.uptoBulk d <= N -> DataW.trod enc Tryz.prog W 0 (fun _=>true) true fuel 68 cs=some (d,ps) →
 ∃ x:Ac,(zB6 W (fun k=>k < W.heap.size) x cs /\ x.kinds) /\ x.sz <= Rows.uptoBulk d:=by
 intro N
 induction N with
 | zero=>intro fuel cs d ps hN h;have:=zCD d;omega
 | succ N ih =>
   intro fuel cs d ps hN h
   obtain ⟨xs,n,_,hx,hl,hlen,hf⟩:=DataW.trod_struct Tryz.underlying68 h;rw [cAc] at hl;obtain ⟨c0,c1,c2,c3,c4,c5,c6,c7,c8,c9,rfl⟩:=zOi hl;obtain ⟨z0,z1,z2,z3,z4,z5,z6,rfl⟩:=zMc (l:=xs) hlen;have f0:DataW.trod enc Tryz.prog W 0 (fun _=>true) true n 3 (([c0,c1,c2,c3,c4,c5,c6,c7,c8,c9].drop 0).take (Tryz.prog.cellsOf 3))=some z0:=hf 0 _ rfl;have f1:DataW.trod enc Tryz.prog W 0 (fun _=>true) true n 3 (([c0,c1,c2,c3,c4,c5,c6,c7,c8,c9].drop 1).take (Tryz.prog.cellsOf 3))=some z1:=hf 1 _ rfl;have f2:DataW.trod enc Tryz.prog W 0 (fun _=>true) true n 3 (([c0,c1,c2,c3,c4,c5,c6,c7,c8,c9].drop 2).take (Tryz.prog.cellsOf 3))=some z2:=hf 2 _ rfl;have f3:DataW.trod enc Tryz.prog W 0 (fun _=>true) true n 65 (([c0,c1,c2,c3,c4,c5,c6,c7,c8,c9].drop 3).take (Tryz.prog.cellsOf 65))=some z3:=hf 3 _ rfl;have f4:DataW.trod enc Tryz.prog W 0 (fun _=>true) true n 3 (([c0,c1,c2,c3,c4,c5,c6,c7,c8,c9].drop 7).take (Tryz.prog.cellsOf 3))=some z4:=hf 4 _ rfl;have f5:DataW.trod enc Tryz.prog W 0 (fun _=>true) true n 66 (([c0,c1,c2,c3,c4,c5,c6,c7,c8,c9].drop 8).take (Tryz.prog.cellsOf 66))=some z5:=hf 5 _ rfl;have f6:DataW.trod enc Tryz.prog W 0 (fun _=>true) true n 66 (([c0,c1,c2,c3,c4,c5,c6,c7,c8,c9].drop 9).take (Tryz.prog.cellsOf 66))=some z6:=hf 6 _ rfl;rw [zJ4] at f0 f1 f2 f4;rw [cEx] at f3;rw [zOx] at f5 f6;have hd:=kJ Prod.fst hx
   have hbd:Rows.uptoBulk z0.1+Rows.uptoBulk z3.1+Rows.uptoBulk z5.1+Rows.uptoBulk z6.1+1 <= Rows.uptoBulk d:=by
    have e:d=.agg [z0.1,z1.1,z2.1,z3.1,z4.1,z5.1,z6.1]:=hd;exact J93 _
   obtain ⟨n0,g0,_,w0⟩:=vI xM f0;obtain ⟨n1,g1,_,w1⟩:=vI xM f1;obtain ⟨n2,g2,_,w2⟩:=vI xM f2;obtain ⟨n4,g4,_,w4⟩:=vI xM f4;obtain ⟨x,hxe,hxs⟩:=zKL (Rows.uptoBulk z3.1) _ _ z3.1 z3.2 (yV _) f3;obtain ⟨t,ta,tc,tss,tv,tE,tR,tS,tL⟩:=zBo (e:=68) (v:=c8) (d:=z5.1) (ps:=z5.2) (fun (y:Ac) cs=>zB6 W (fun k=>k < W.heap.size) y cs /\ y.kinds) Ac.sz vT cAc (by decide) f5 (fun fuel cs d' ps' hb h'=>ih fuel cs d' ps' (by have:=zCD z0.1;omega) h');obtain ⟨e,ea,ec,ess,ev,eE,eR,eS,_⟩:=zBo (e:=68) (v:=c9) (d:=z6.1) (ps:=z6.2) (fun (y:Ac) cs=>zB6 W (fun k=>k < W.heap.size) y cs /\ y.kinds) Ac.sz vT cAc (by decide) f6 (fun fuel cs d' ps' hb h'=>ih fuel cs d' ps' (by have:=zCD z0.1;omega) h');simp at g0 g1 g2 g4
   subst g0 g1 g2 g4 tv ev;refine ⟨.mk n0 n1 n2 x n4 t e,⟨zB6.mk n0 n1 n2 x n4 t e [c3,c4,c5,c6] ta ea tc ec tss ess hxe tE (fun i y hy=>(tR i y hy).1) eE (fun i y hy=>(eR i y hy).1),?_⟩,?_⟩
   ·simp only [Ac.kinds]
    exact ⟨zN6 w0,zD0 t (fun i y hy=>(tR i y hy).2),zD0 e (fun i y hy=>(eR i y hy).2)⟩
   ·rw [zJC] at tS eS
    have:=zCD z0.1
    simp only [Ac.sz];omega
def BdC (W:World) (b:Bd) (cs:List Value):Prop:=∃ ad cap,cs=[.int .i64 b.regs, .slice ad b.acts.length cap] /\ zAQ W (fun k=>k < W.heap.size) b.acts ad /\ Ac.zBl b.acts /\ b.acts.length <= cap
theorem zKv {fuel:Nat} {cs:List Value} {d:DataW H} {ps:List MemPlace} (h:DataW.trod enc Tryz.prog W 0 (fun _=>true) true fuel 70 cs=some (d,ps)) :
 ∃ b:Bd,BdC W b cs /\ 1+Ac.szL b.acts <= Rows.uptoBulk d:=by
 obtain ⟨xs,n,_,hx,hl,hlen,hf⟩:=DataW.trod_struct Tryz.underlying70 h;rw [cBd] at hl;obtain ⟨c0,c1,rfl⟩:=zLt hl;obtain ⟨z0,z1,rfl⟩:=zLt (l:=xs) hlen;have f0:DataW.trod enc Tryz.prog W 0 (fun _=>true) true n 3 (([c0,c1].drop 0).take (Tryz.prog.cellsOf 3))=some z0:=hf 0 _ rfl;have f1:DataW.trod enc Tryz.prog W 0 (fun _=>true) true n 66 (([c0,c1].drop 1).take (Tryz.prog.cellsOf 66))=some z1:=hf 1 _ rfl;rw [zJ4] at f0;rw [zOx] at f1;have hd:=kJ Prod.fst hx
 have hbd:Rows.uptoBulk z0.1+Rows.uptoBulk z1.1+1 <= Rows.uptoBulk d:=by
  have e:d=.agg [z0.1,z1.1]:=hd;exact J93 _
 obtain ⟨n0,g0,_,w0⟩:=vI xM f0;obtain ⟨t,ta,tc,tss,tv,tE,tR,tS,tL⟩:=zBo (e:=68) (v:=c1) (d:=z1.1) (ps:=z1.2) (fun (y:Ac) cs=>zB6 W (fun k=>k < W.heap.size) y cs /\ y.kinds) Ac.sz vT cAc (by decide) f1 (fun fuel cs d' ps' hb h'=>zLN _ fuel cs d' ps' (yV _) h');simp at g0
 subst g0 tv;refine ⟨⟨n0,t⟩,⟨ta,tc,rfl,⟨tss,tE,fun i y hy=>(tR i y hy).1⟩,zD0 t (fun i y hy=>(tR i y hy).2),tL⟩,?_⟩
 rw [zJC] at tS;show 1+Ac.szL t <= _
 omega
def zHR (w:World) (F:Nat -> Prop) (bs:List Bd) (ad:Option Addr):Prop :=
 ∀ i (hi:i < bs.length),∃ g o ba bc,ad=some ⟨g,o,none⟩ /\ F g /\ w.cell? ⟨g,o+i*2,none⟩=some (.int .i64 bs[i].regs) /\ w.cell? ⟨g,o+i*2+1,none⟩=some (.slice ba bs[i].acts.length bc) /\ zAQ w F bs[i].acts ba /\ bs[i].acts.length <= bc
theorem zHR.at {w:World} {F:Nat -> Prop} {bs:List Bd} {ad:Option Addr} (h:zHR w F bs ad):zAk w F bs ad:=fun i hi=>by
 obtain ⟨g,o,ba,bc,a1,a2,a3,a4,a5,_⟩:=h i hi;exact ⟨g,o,ba,bc,a1,a2,a3,a4,a5⟩
theorem zJz {fuel:Nat} {cs:List Value} {d:DataW H} {ps:List MemPlace} (h:DataW.trod enc Tryz.prog W 0 (fun _=>true) true fuel 25 cs=some (d,ps)) :
 ∃ (l:List Int) (mu:Int) (bs:List Bd) (uca uta:Option Addr) (ucc utc:Nat),cs=[.slice uca l.length ucc, .int .i64 mu, .slice uta bs.length utc] /\ zAf W (fun k=>k < W.heap.size) l uca /\ zHR W (fun k=>k < W.heap.size) bs uta ∧
   (∀ b,b ∈ bs -> Ac.zBl b.acts) /\ zAy bs+l.length+bs.length <= 2*Rows.uptoBulk d:=by
 obtain ⟨xs,n,_,hx,hl,hlen,hf⟩:=DataW.trod_struct Tryz.underlying25 h;rw [cUn] at hl;obtain ⟨c0,c1,c2,rfl⟩:=zII hl;obtain ⟨z0,z1,z2,rfl⟩:=zII (l:=xs) hlen;have f0:DataW.trod enc Tryz.prog W 0 (fun _=>true) true n 22 (([c0,c1,c2].drop 0).take (Tryz.prog.cellsOf 22))=some z0:=hf 0 _ rfl;have f1:DataW.trod enc Tryz.prog W 0 (fun _=>true) true n 3 (([c0,c1,c2].drop 1).take (Tryz.prog.cellsOf 3))=some z1:=hf 1 _ rfl;have f2:DataW.trod enc Tryz.prog W 0 (fun _=>true) true n 23 (([c0,c1,c2].drop 2).take (Tryz.prog.cellsOf 23))=some z2:=hf 2 _ rfl;rw [zO0] at f0;rw [zJ4] at f1;rw [zPR] at f2;have hd:=kJ Prod.fst hx
 have hbd:Rows.uptoBulk z0.1+Rows.uptoBulk z2.1+1 <= Rows.uptoBulk d:=by
  have e:d=.agg [z0.1,z1.1,z2.1]:=hd;exact J93 _
 obtain ⟨n1,g1,_,w1⟩:=vI xM f1
 obtain ⟨l,la,lc,lss,lv,lE,lR,lS,_⟩:=zBo (e:=3) (v:=c0) (d:=z0.1) (ps:=z0.2) (fun (y:Int) cs=>cs=[.int .i64 y]) (fun _=>1) xG zJ4 (by decide) f0 (fun fuel cs d' ps' hb h'=>by
  obtain ⟨m,gm,_,_⟩:=vI xM h';exact ⟨m,gm,zCD d'⟩)
 obtain ⟨t,ta,tc,tss,tv,tE,tR,tS,tL⟩:=zBo (e:=70) (v:=c2) (d:=z2.1) (ps:=z2.2) (fun (y:Bd) cs=>BdC W y cs) (fun b=>1+Ac.szL b.acts) Tryz.underlying23 cBd (by decide) f2 (fun fuel cs d' ps' hb h'=>zKv h');simp at g1
 subst g1 lv tv;rw [zHA] at lS;rw [zIY] at tS
 have hlb:∀ r:List Bd,r.length <= zAy r:=fun r=>by
  induction r with
  | nil=>exact yV _
  | cons x r ih=>simp only [xZ,zAy];omega
 have hlt:=hlb t;refine ⟨l,n1,t,la,ta,lc,tc,rfl,?_,?_,?_,by omega⟩
 ·intro i hi
  exact J92 _
 ·intro i hi
  obtain ⟨g,o,e,hg,_,hc⟩:=tE i hi;obtain ⟨ba,bc,hR,hA,_,hL⟩:=tR i t[i] (yQ hi);have c0:=hc 0 (.int .i64 t[i].regs) (by rw [hR];rfl);have c1:=hc 1 (.slice ba t[i].acts.length bc) (by rw [hR];rfl);refine ⟨g,o,ba,bc,e,hg,?_,?_,hA,hL⟩
  ·simpa using c0
  ·rw [uK];exact c1
 ·intro b hb
  obtain ⟨i,hi⟩:=List.getElem?_of_mem hb;obtain ⟨ba,bc,_,_,hk,_⟩:=tR i b hi;exact hk
end
end Go.Proofs.YtfokdllgnblamaaGreatDoor
namespace Go.Proofs.YtfokdllgnblamaaGreatDoor
open Go.ChangeShapes Go.WideShapes Go.ChangeAt Go.RowKit
theorem own:ownKnob Tryz.prog.godebug=none:=by kernel_rfl
theorem laidOut:laidOutB Tryz.prog=true:=by kernel_rfl
theorem zHM {w w':World} (h:Keeps zA w w'):Below w.heap.size w w':=h.below (fun k _ hk=>hk.elim) (yV _)
def putCells (h:Array Obj) (g:Nat) (cs:Array Value):Array Obj:=h.modify g fun
 | .cells _ t frozen=>.cells cs t frozen
 | o=>o
noncomputable def zE4 (os:Os):World :=
 let N:=(World.settled Tryz.prog os).heap.size
 let w0:=World.holding Tryz.prog os ⟨#[.cells #[.string ⟨#[118,97,108,117,101,32,111,117,116,32,111,102,32,114,97,110,103,101]⟩] 297, .cells #[.string ⟨#[105,110,118,97,108,105,100,32,115,121,110,116,97,120]⟩] 297],#[],[]⟩
 let h1:=putCells w0.heap 6 (Lib.deBruijn32tab.map fun (z:Nat)=>Value.int .u8 (z:Int)).toArray
 let h2:=putCells h1 7 (Lib.deBruijn64tab.map fun (z:Nat)=>Value.int .u8 (z:Int)).toArray
 let h3:=putCells h2 5 (Lib.pow10Tab.map fun z=>Value.int .u64 z).toArray
 let h4:=putCells h3 1 ((List.range 16).flatMap fun i=>[Value.int .u8 (Lib.accLo i),Value.int .u8 (Lib.accHi i)]).toArray
 let h5:=putCells h4 4 #[.iface 295 (.pointer (some ⟨N,0,none⟩))]
 let h6:=putCells h5 3 #[.iface 295 (.pointer (some ⟨N+1,0,none⟩))]
 let h7:=putCells h6 0 (Lib.firstTab.map fun z=>Value.int .u8 z).toArray
 { w0 with heap:=h7 }
theorem zNW {H:Type} {W:World} {cs:List Int} {bs:List Bd} {uca uta:Option Addr} {d:DataW H} (hN:zAf W (fun k=>k < W.heap.size) cs uca) (hC:zHR W (fun k=>k < W.heap.size) bs uta) (hk:∀ b,b ∈ bs -> Ac.zBl b.acts) (hs:zAy bs+cs.length+bs.length <= 2*Rows.uptoBulk d) (hb:Rows.uptoBulk d <= 1048576):zBp W (fun k=>k < W.heap.size) cs bs uca uta :=
 ⟨hN,hC.at,fun _ h=>h,hk,by omega,by omega,by omega⟩
theorem zM2 {H:Type} {d:DataW H} {l:List (DataW H)} (hk:Rows.uptoSmall H (d :: l)=true):Rows.uptoBulk d <= 1048576:=by
 have h:Rows.uptoBulkAll (d :: l) <= 1048576:=of_decide_eq_true hk;simp only [Rows.uptoBulkAll] at h;omega
theorem open_row {H:Type} {enc:TypeId × Value -> H} {W:World} {v:Value} {fuel:Nat} {d:DataW H} {ps:List MemPlace} (h:DataW.trod enc Tryz.prog W 0 (fun _=>true) true fuel 22 [v]=some (d,ps)) :
 ∃ (l:List Int) (ad:Option Addr) (cap:Nat),v=.slice ad l.length cap /\ zAD W (.slice ad l.length cap) l.length (ints l) /\ l.length+1 <= Rows.uptoBulk d /\ l.length <= cap:=by
 obtain ⟨l,la,lc,lss,lv,lE,lR,lS,lL⟩:=zBo (e:=3) (v:=v) (d:=d) (ps:=ps) (fun (y:Int) cs=>cs=[.int .i64 y]) (fun _=>1) xG zJ4 (by decide) h (fun fuel cs d' ps' hb h'=>by
  obtain ⟨m,gm,_,_⟩:=vI xM h';exact ⟨m,gm,zCD d'⟩)
 rw [zHA] at lS
 have hN:zAf W (fun k=>k < W.heap.size) l la:=fun i hi=>by
  exact J92 _
 exact ⟨l,la,lc,lv,hN.src,lS,lL⟩
end Go.Proofs.YtfokdllgnblamaaGreatDoor
namespace Go.Proofs.YtfokdllgnblamaaGreatDoor.lawWalkPlays
open Go.ChangeShapes Go.WideShapes Go.ChangeAt Go.RowKit
theorem zMI (os:Os):laidMet Tryz.prog Rows.walkPlaysUptoRow.laid ((zE4 os).forCall (fun _ _=>0) ⟨#[],#[.agg #[.slice none 0 0, .int .i64 0, .slice none 0 0], .slice none 0 0],[]⟩).memory :=
 laidMet_of_run3 8 (by kernel_rfl) (by kernel_rfl) (by kernel_rfl)
theorem reads (os:Os) {H:Type} (enc:TypeId × Value -> H):∃ places,DataW.whole enc Tryz.prog ((zE4 os).forCall (fun _ _=>0) ⟨#[],#[.agg #[.slice none 0 0, .int .i64 0, .slice none 0 0], .slice none 0 0],[]⟩).memory Tryz.f3.params.toList Rows.walkPlaysSpec.vars false #[Value.agg #[.slice none 0 0, .int .i64 0, .slice none 0 0], .slice none 0 0].toList 8=some ([.agg [.nil, .lit (.int .i64 0), .nil], .nil],[],places) :=
 ⟨[],by kernel_rfl⟩
theorem contract (H:Type) (enc:TypeId × Value -> H) (W:World) (base:Nat) (args:Array Value) (ds gs:List (DataW H)) (before:List MemPlace)
 (hval0:∀ (j:Nat) t v,Tryz.f3.params[j]?=some t -> args[j]?=some v -> Value.okWide Tryz.prog W .any base t v)
 (hW:DataW.Whole enc Tryz.prog Tryz.f3.params.toList Rows.walkPlaysSpec.vars false W args.toList ds gs before) (hk:Rows.uptoSmall H (ds++gs)=true) (hL:laidMetH Tryz.prog Rows.walkPlaysUptoRow.laid W) :
 Calls Tryz.prog 3 args W fun e W'=>∃ v,e=.returned v /\ Rows.walkPlaysSpec.post enc Tryz.prog Tryz.f3 false true false false W args v W':=by
 have hval:∀ (j:Nat) t v,Tryz.f3.params[j]?=some t -> args[j]?=some v -> Value.okWide Tryz.prog W .any base t v:=hval0
 have hW':=hW;have hltW:=hW.lt;obtain ⟨p,q,hA0,hV,rfl,hfz,hnd⟩:=hW;have hA:DataW.TrodAll enc Tryz.prog W 0 (fun _=>true) true Tryz.f3.params.toList args.toList ds p:=hA0;rw [Tryz.params3] at hA hval;obtain ⟨v0,vs0,d0,ds0,p0,q0,hargs,rfl,rfl,h0,r0⟩:=trodAll_cons hA;obtain ⟨v1,vs1,d1,ds1,p1,q1,rfl,rfl,rfl,h1,r1⟩:=trodAll_cons r0;obtain ⟨rfl,rfl,rfl⟩:=trodAll_nil r1;obtain rfl:args=#[v0,v1]:=by cases args;simp_all
 obtain ⟨rfl,rfl⟩:=trodVars_none hV;have h0k:=h0;have h1k:=h1;have hlt0:∀ x ∈ p0,x.block < W.heap.size:=fun x hx=>hltW x (by simp [hx])
 have hlt1:∀ x ∈ p1,x.block < W.heap.size:=fun x hx=>hltW x (by simp [hx])
 obtain ⟨ad1,len1,cap1,rfl⟩:=okWide_slice xG (hval 1 22 v1 rfl rfl);obtain ⟨c0,rfl,_⟩:=okWide_struct Tryz.underlying25 (hval 0 25 v0 rfl rfl);have hB:=zM2 hk;obtain ⟨f0,hf0⟩:=h0;obtain ⟨l,mu,bs,uca,uta,ucc,utc,hcs,hN,hC,hkd,hsz⟩:=zJz (d:=d0) (ps:=p0) hf0
 have hc0:c0=#[.slice uca l.length ucc, .int .i64 mu, .slice uta bs.length utc]:=by
  have h:c0.toList=[.slice uca l.length ucc, .int .i64 mu, .slice uta bs.length utc]:=hcs;cases c0;simpa using h
 subst hc0;clear hA0 hval0;simp only [List.append_nil] at hW';obtain ⟨f1,hf1⟩:=h1;obtain ⟨xs1,ra1,rc1,hrv1,hrx1,hrl1,_⟩:=open_row (d:=d1) (ps:=p1) hf1;rw [hrv1];rw [hrv1] at hW' h1k;have hU:=zNW hN hC hkd hsz hB;refine (zHF (ucc:=ucc) (utc:=utc) (mu:=mu) hU ra1 rc1 xs1 hrx1).mono fun e W' ⟨he,hk⟩=>?_
 subst he;have hb:=zHM hk;refine ⟨_,rfl,_,_,_,[],p0++p1,[],hW',trodAll_cons_mk (shut_bool Tryz.underlying4 _) trodAll_mk0,?_,rfl,hb.frame _,fun h=>by cases h⟩
 have:=trodAll_cons_mk (Below.trod laidOut (by kernel_rfl) (of_decide_eq_true (by kernel_rfl)) h0k hb hlt0) (trodAll_cons_mk (Below.trod laidOut (by kernel_rfl) (of_decide_eq_true (by kernel_rfl)) h1k hb hlt1) trodAll_mk0)
 rw [List.append_nil] at this;rw [Tryz.params3];exact this
theorem lifted (os:Os) (started:os.Started) (H:Type) (enc:TypeId × Value -> H) (F:Stop.Interp) :
 ReturnsInHanded {} Tryz.checked os 3 .any ((Rows.OpenSpec.upto Rows.walkPlaysSpec).preRow enc Tryz.prog Tryz.f3 Rows.walkPlaysUptoRow.domain false Rows.walkPlaysUptoRow.laid) (((Rows.OpenSpec.upto Rows.walkPlaysSpec).at F).post enc Tryz.prog Tryz.f3 false true false false):=by
 obtain ⟨places,hx⟩:=reads os enc
 refine returnsInHanded_of_row (C:=Tryz.checked) (s:=Rows.OpenSpec.upto Rows.walkPlaysSpec) own started (by kernel_rfl) Tryz.func3
  (witness_row_atRef (enc:=enc) (C:=Tryz.checked) false (zE4 os) #[.agg #[.slice none 0 0, .int .i64 0, .slice none 0 0], .slice none 0 0] rfl (by kernel_rfl) (by kernel_rfl) (by kernel_rfl)
    (OpenSpec.preRow_of_cond 8 hx (by kernel_rfl) (fun k hk=>by cases hk;kernel_rfl) (by kernel_rfl) (zMI os))) ?_
 intro W base args ds gs before hval hW _ hcond _ hL _ _
 exact contract H enc W base args ds gs before hval hW (hcond _ rfl) hL
theorem zLS:Rows.WalkPlaysUptoSaid :=
 OpenClaim.holds_of_cond 3 Tryz.f3 rfl rfl rfl rfl rfl rfl rfl ⟨rfl,rfl,rfl,rfl,rfl⟩ rfl rfl rfl rfl rfl (by kernel_rfl) Tryz.func3 (by kernel_rfl)
  (of_decide_eq_true (by kernel_rfl)) (by unfold Func.isWrapper;first | (rw [if_pos (by decide +kernel)];kernel_rfl) | (rw [if_neg (by decide +kernel)];exact ⟨rfl,rfl⟩))
  (fun os started H enc _ F=>by rw [OpenClaim.pre_eq_preRow];exact lifted os started H enc F)
theorem plain (f:FuncId) (fn:Func) (hf:Tryz.pinned.checked.prog.funcNamed "racetree/racetreelaw08.WalkPlays"=some f) (hfn:Tryz.pinned.checked.prog.funcs[f]?=some fn) :
 true=Tryz.pinned.checked.prog.looks [] /\ ∀ (j:Nat) t,fn.params[j]?=some t -> Tryz.pinned.checked.prog.wantsStandIn t=false:=by
 obtain rfl:f=3:=yq ((show Tryz.prog.funcNamed "racetree/racetreelaw08.WalkPlays"=some 3 by kernel_rfl).symm.trans hf) |>.symm;obtain rfl:fn=Tryz.f3:=(yq (Tryz.func3.symm.trans hfn)).symm;refine ⟨by kernel_rfl,fun j t ht=>?_⟩
 rw [Tryz.params3] at ht
 have hm:t=25 \/ t=22:=by
  have:=Array.mem_of_getElem? ht
  simp at this
  omega
 rcases hm with rfl | rfl
 ·exact (show Tryz.prog.wantsStandIn 25=false by kernel_rfl)
 ·exact (show Tryz.prog.wantsStandIn 22=false by kernel_rfl)
theorem cardUpto:Rows.WalkPlaysUptoCardSaid :=
 Claim7.holds_tied_plain_at .later [] _ _ _ _ zLS (fun _ h=>by cases h) (by kernel_rfl) (fun _ h=>by cases h) walkPlaysUpto_row_tie rfl ⟨rfl,rfl⟩ (by kernel_rfl) rfl plain (by kernel_rfl)
end Go.Proofs.YtfokdllgnblamaaGreatDoor.lawWalkPlays
