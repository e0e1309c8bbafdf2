/- TopBound, where what comes in is of bulk at most 1048576: it returns true and each argument reads afterwards as before; tied to the pruned copy of the project. The row lists its condition: the seven tables laid as the text lays them. -/
import Derived.Deep.Strs
import Derived.Deep.DeepWitnessRowRef
import Derived.Lib.TrailingZeros
import Derived.Test.YtoapgjjepiopbaaGreatDoorD51
import Derived.Test.YtoapgjjepiopbaaGreatDoorCards
import Derived.Test.YtoapgjjepiopbaaGreatDoorTie
set_option linter.all false
set_option maxRecDepth 100000
namespace Go.Proofs.YtoapgjjepiopbaaGreatDoor
open Go.ChangeShapes Go.WideShapes Go.ChangeAt Go.RowKit
abbrev uV:=@Go.DataW.trod_int
theorem J85(P:Prop) (h:P:=by
 obtain⟨g,o,e,hg,_,hc⟩:=lE i hi;have hR:=lR i l[i] (yL hi);refine⟨g,o,e,hg,?_⟩
 have:=hc 0 (.int .i64 l[i]) (by rw[hR];rfl)
 simpa using this):P:=h
theorem J86(P:Prop)(h:P:=by rw[e];simp only[Rows.uptoBulk,Rows.uptoBulkAll];omega):P:=h
set_option maxRecDepth 100000
theorem zMQ:Tryz.prog.cellsOf 3=1:=by kernel_rfl
theorem cStr:Tryz.prog.cellsOf 9=1:=by kernel_rfl
theorem zRz:Tryz.prog.cellsOf 22=1:=by kernel_rfl
theorem cEx:Tryz.prog.cellsOf 144=4:=by kernel_rfl
theorem zSO:Tryz.prog.cellsOf 142=1:=by kernel_rfl
theorem cAc:Tryz.prog.cellsOf 146=10:=by kernel_rfl
theorem zRD:Tryz.prog.cellsOf 46=1:=by kernel_rfl
theorem cBd:Tryz.prog.cellsOf 48=2:=by kernel_rfl
theorem zSG:Tryz.prog.cellsOf 23=1:=by kernel_rfl
theorem cUn:Tryz.prog.cellsOf 25=3:=by kernel_rfl
theorem zLV{w:World}{a:Addr}{v:Value}(h:w.cell? a=some v):a.spot=none:=by
 unfold World.cell? at h;split at h
 ·split at h
  ·cases h
  ·rename_i h2;simpa using h2
 ·cases h
theorem zDm{a:Addr}(h:a.spot=none)(n:Nat):a.add n=⟨a.block,a.off+n,none⟩:=by
 obtain⟨b,o,s⟩:=a;simp at h
 subst h;unfold Addr.add;split
 ·simp_all
 ·rfl
theorem zCS{H:Type}(d:DataW H):1<=Rows.uptoBulk d:=by
 cases d with
 | lit l=>cases l <;> simp[Rows.uptoBulk]
 | nil=>simp[Rows.uptoBulk]
 | ptr d=>simp[Rows.uptoBulk]
 | slice elems spare=>simp[Rows.uptoBulk]
 | agg parts=>simp[Rows.uptoBulk]
 | iface t d=>simp[Rows.uptoBulk]
 | map entries=>simp[Rows.uptoBulk]
 | held h=>simp[Rows.uptoBulk]
theorem zL9{H:Type}{d:DataW H}{l:List (DataW H)}(h:d∈l):Rows.uptoBulk d<=Rows.uptoBulkAll l:=by
 induction l with
 | nil=>cases h
 | cons x r ih =>
   simp only[Rows.uptoBulkAll];cases xU.1 h with
   | inl e=>subst e;omega
   | inr e=>have:=ih e;omega
def sumOf{α:Type}(m:α->Nat):List α->Nat
 | []=>0
 | x :: r=>m x+sumOf m r
theorem zI6{H α:Type}{m:α->Nat}{Y:Nat->α}{D:Nat->DataW H}:(l:List Nat)->(∀i,i∈l->m (Y i)<=Rows.uptoBulk (D i))->sumOf m (l.map Y)<=Rows.uptoBulkAll (l.map D)
 | [],_=>yT _
 | i :: r,h=>by
   have h1:=h i vW;have h2:=zI6 r (λj hj=>h j (vG _ hj));simp only[uO,sumOf,Rows.uptoBulkAll];omega
theorem zLC:(l:List Ex)->sumOf Ex.cnt l=Ex.zT l
 | []=>rfl
 | x :: r=>by simp only[sumOf,Ex.zT,zLC r]
theorem zKb:(l:List Ac)->sumOf Ac.sz l=Ac.szL l
 | []=>rfl
 | x :: r=>by simp only[sumOf,Ac.szL,zKb r]
theorem zI5:(l:List Bd)->sumOf (λb=>1+Ac.szL b.acts) l=zAj l
 | []=>rfl
 | x :: r=>by simp only[sumOf,zAj,zI5 r]
theorem zHu{α:Type}:(l:List α)->sumOf (λ_=>1) l=l.length
 | []=>rfl
 | x :: r=>by simp only[sumOf,xM,zHu r];omega
section
variable {H:Type} {enc:TypeId × Value->H} {W:World}
theorem zBu{α:Type} [Inhabited α] {t e:TypeId} {sz fuel:Nat} {v:Value} {d:DataW H} {ps:List MemPlace} (R:α->List Value->Prop) (m:α->Nat) (ht:Tryz.prog.underlying t=some (.slice e)) (hc:Tryz.prog.cellsOf e=sz) (hpos:0<sz)
 (h:DataW.trod enc Tryz.prog W 0 (λ_=>true) true fuel t [v]=some (d,ps))
 (hel:∀fuel cs d' ps',Rows.uptoBulk d'<Rows.uptoBulk d->DataW.trod enc Tryz.prog W 0 (λ_=>true) true fuel e cs=some (d',ps')->∃y,R y cs/\m y<=Rows.uptoBulk d'):
 ∃(l:List α)(ad:Option Addr)(cap:Nat)(css:Nat->List Value),v=.slice ad l.length cap/\zBa W (λk=>k<W.heap.size) sz l.length ad css/\(∀i y,l[i]?=some y->R y (css i))/\sumOf m l+1<=Rows.uptoBulk d/\l.length<=cap:=by
 rcases Deep.open_slice ht h with⟨hcs,hx⟩|⟨a,len,cap,M,n,D,Pl,hcs,hb,hl,hm,hmm,hx,hE⟩
 ·have hv:v=.slice none 0 0:=by simpa using hcs
  exact⟨[],none,0,λ_=>[],hv,λi hi=>absurd hi (Nat.not_lt_zero _),λi y e=>by simp at e,by simp only[sumOf];exact zCS d,yT _⟩
 ·have hv:v=.slice (some a) len cap:=by simpa using hcs
  simp only[if_true] at hmm;subst hmm;have hd:=congrArg Prod.fst hx;simp only at hd;have hbD:Rows.uptoBulkAll ((List.range len).map D)+1<=Rows.uptoBulk d:=by rw[hd];simp only[Rows.uptoBulk];omega
  have key:∀k,k<len->∃y:α × List Value,a.spot=none/\a.block<W.heap.size/\y.2.length=sz/\(∀j u,y.2[j]?=some u->W.cell? ⟨a.block,a.off+(k*sz+j),none⟩=some u)/\R y.1 y.2/\m y.1<=Rows.uptoBulk (D k):=by
   intro k hk
   have hsp:a.spot=none/\a.block<W.heap.size:=by
    obtain⟨cs0,h0,_⟩:=hE 0 (by omega);rw[hc] at h0;obtain⟨_,hlen,hc0⟩:=World.cells?_some h0;have h1:=hc0 0 hpos;rw[yL (by omega)] at h1;have h2:=zLV h1;have h3:=yR W _ h1;have h4:a.spot=none:=by simpa [Addr.add] using h2
    refine⟨h4,?_⟩
    rw[Nat.zero_mul,zDm h4] at h3;rw[zDm (a:=⟨a.block,a.off+0,none⟩) rfl] at h3;exact h3
   obtain⟨cs,h1,h2⟩:=hE k (by omega);rw[hc] at h1;obtain⟨_,hlen,hc1⟩:=World.cells?_some h1
   obtain⟨y,hy,hym⟩:=hel _ _ _ _ (by
    have:=zL9 (d:=D k) (l:=(List.range len).map D) (List.mem_map.2 ⟨k,xT.2 hk,rfl⟩)
    omega) h2
   refine⟨(y,cs),hsp.1,hsp.2,hlen,λj u hj=>?_,hy,hym⟩
   have hjl:j<sz:=by rw[<-hlen];exact(yP.1 hj).1
   have:=hc1 j hjl
   have hsp2:(a.add (k*sz)).spot=none:=by rw[zDm hsp.1]
   rw[zDm hsp2,zDm hsp.1] at this;rw[<-uI,this,hj]
  obtain⟨Y,hY⟩:=Deep.choose_lt (α:=α × List Value) key;have hlen:((List.range len).map λi=>(Y i).1).length=len:=by simp
  refine⟨(List.range len).map λi=>(Y i).1,some a,_,λi=>(Y i).2,by rw[hlen];exact hv,λi hi=>?_,λi y e=>?_,?_,by rw[hlen];exact hl⟩
  ·rw[hlen] at hi
   obtain⟨q1,q2,q3,q4,_,_⟩:=hY i hi;exact⟨a.block,a.off,by obtain⟨b,o,s⟩:=a;simp at q1;subst q1;rfl,q2,q3,q4⟩
  ·have hi:i<len:=by have:=(yP.1 e).1;simpa using this
   have e2:(Y i).1=y:=by simpa [hi] using e
   rw[<-e2];exact(hY i hi).2.2.2.2.1
  ·have h1:=zI6 (m:=m) (Y:=λi=>(Y i).1) (D:=D) (List.range len) (λi hi=>(hY i (xT.1 hi)).2.2.2.2.2)
   omega
instance:Inhabited Ex:=⟨.mk 0 0 zw []⟩
instance:Inhabited Ac:=⟨.mk 0 0 0 (.mk 0 0 zw []) 0 [] []⟩
instance:Inhabited Bd:=⟨⟨0,[]⟩⟩
theorem zLN{α:Type}{l:List α}(h:l.length=4):∃a b c d,l=[a,b,c,d]:=by
 match l,h with
 | [a,b,c,d],_=>exact⟨a,b,c,d,rfl⟩
theorem zPw{α:Type}{l:List α}(h:l.length=10):∃a b c d e f g i j k,l=[a,b,c,d,e,f,g,i,j,k]:=by
 match l,h with
 | [a,b,c,d,e,f,g,i,j,k],_=>exact⟨a,b,c,d,e,f,g,i,j,k,rfl⟩
theorem zMg{α:Type}{l:List α}(h:l.length=7):∃a b c d e f g,l=[a,b,c,d,e,f,g]:=by
 match l,h with
 | [a,b,c,d,e,f,g],_=>exact⟨a,b,c,d,e,f,g,rfl⟩
theorem zNO{α:Type}{l:List α}(h:l.length=2):∃a b,l=[a,b]:=by
 match l,h with
 | [a,b],_=>exact⟨a,b,rfl⟩
theorem zJC{α:Type}{l:List α}(h:l.length=3):∃a b c,l=[a,b,c]:=by
 match l,h with
 | [a,b,c],_=>exact⟨a,b,c,rfl⟩
theorem zLq:∀(N fuel:Nat)(cs:List Value)(d:DataW H)(ps:List MemPlace),Rows.uptoBulk d<=N->DataW.trod enc Tryz.prog W 0 (λ_=>true) true fuel 144 cs=some (d,ps) →
 ∃x:Ex,zBL W (λk=>k<W.heap.size) x cs/\x.cnt<=Rows.uptoBulk d:=by
 intro N
 induction N with
 | zero=>intro fuel cs d ps hN h;have:=zCS d;omega
 | succ N ih =>
   intro fuel cs d ps hN h
   obtain⟨xs,n,_,hx,hl,hlen,hf⟩:=DataW.trod_struct Tryz.underlying144 h;rw[cEx] at hl;obtain⟨c0,c1,c2,c3,rfl⟩:=zLN hl;obtain⟨z0,z1,z2,z3,rfl⟩:=zLN (l:=xs) hlen;have f0:DataW.trod enc Tryz.prog W 0 (λ_=>true) true n 3 (([c0,c1,c2,c3].drop 0).take (Tryz.prog.cellsOf 3))=some z0:=hf 0 _ rfl;have f1:DataW.trod enc Tryz.prog W 0 (λ_=>true) true n 3 (([c0,c1,c2,c3].drop 1).take (Tryz.prog.cellsOf 3))=some z1:=hf 1 _ rfl;have f2:DataW.trod enc Tryz.prog W 0 (λ_=>true) true n 9 (([c0,c1,c2,c3].drop 2).take (Tryz.prog.cellsOf 9))=some z2:=hf 2 _ rfl;have f3:DataW.trod enc Tryz.prog W 0 (λ_=>true) true n 142 (([c0,c1,c2,c3].drop 3).take (Tryz.prog.cellsOf 142))=some z3:=hf 3 _ rfl;rw[zMQ] at f0 f1;rw[cStr] at f2;rw[zSO] at f3;have hd:=congrArg Prod.fst hx
   have hbd:Rows.uptoBulk z3.1+1<=Rows.uptoBulk d:=by
    have e:d=.agg [z0.1,z1.1,z2.1,z3.1]:=hd;exact J86 _
   obtain⟨n0,g0,_,w0⟩:=uV xG f0;obtain⟨n1,g1,_,w1⟩:=uV xG f1;obtain⟨s2,g2,_,_⟩:=DataW.trod_string Tryz.underlying9 f2;obtain⟨l,ad,cap,css,hv,hE,hR,hs,_⟩:=zBu (e:=144) (v:=c3) (d:=z3.1) (ps:=z3.2) (λ(y:Ex) cs=>zBL W (λk=>k<W.heap.size) y cs) Ex.cnt Tryz.underlying142 cEx (by decide) f3 (λfuel cs d' ps' hb h'=>ih fuel cs d' ps' (by omega) h');simp at g0 g1 g2
   subst g0 g1 g2 hv;refine⟨.mk n0 n1 s2 l,.mk n0 n1 s2 l ad cap css hE hR,?_⟩
   rw[zLC] at hs;simp only[Ex.cnt];omega
theorem zP1{n:Int}(h:(Lit.int .i64 n).wf=true):kOk n:=by
 have:(-9223372036854775808<=n)/\(n<=9223372036854775807):=by simpa [Lit.wf,IntKind.min,IntKind.max,IntKind.signed,IntKind.bits] using h
 exact⟨this.1,by omega⟩
theorem zDw:(l:List Ac)->(∀(i:Nat)(y:Ac),l[i]?=some y->y.kinds)->Ac.zBe l
 | [],_=>trivial
 | x :: r,h=>by
   simp only[Ac.zBe];exact⟨h 0 x rfl,zDw r (λi y e=>h (i+1) y (by simpa using e))⟩
theorem zMn:∀(N fuel:Nat)(cs:List Value)(d:DataW H)(ps:List MemPlace),Rows.uptoBulk d<=N->DataW.trod enc Tryz.prog W 0 (λ_=>true) true fuel 146 cs=some (d,ps) →
 ∃x:Ac,(zEv W (λk=>k<W.heap.size) x cs/\x.kinds)/\x.sz<=Rows.uptoBulk d:=by
 intro N
 induction N with
 | zero=>intro fuel cs d ps hN h;have:=zCS d;omega
 | succ N ih =>
   intro fuel cs d ps hN h
   obtain⟨xs,n,_,hx,hl,hlen,hf⟩:=DataW.trod_struct Tryz.underlying146 h;rw[cAc] at hl;obtain⟨c0,c1,c2,c3,c4,c5,c6,c7,c8,c9,rfl⟩:=zPw hl;obtain⟨z0,z1,z2,z3,z4,z5,z6,rfl⟩:=zMg (l:=xs) hlen;have f0:DataW.trod enc Tryz.prog W 0 (λ_=>true) true n 3 (([c0,c1,c2,c3,c4,c5,c6,c7,c8,c9].drop 0).take (Tryz.prog.cellsOf 3))=some z0:=hf 0 _ rfl;have f1:DataW.trod enc Tryz.prog W 0 (λ_=>true) true n 3 (([c0,c1,c2,c3,c4,c5,c6,c7,c8,c9].drop 1).take (Tryz.prog.cellsOf 3))=some z1:=hf 1 _ rfl;have f2:DataW.trod enc Tryz.prog W 0 (λ_=>true) true n 3 (([c0,c1,c2,c3,c4,c5,c6,c7,c8,c9].drop 2).take (Tryz.prog.cellsOf 3))=some z2:=hf 2 _ rfl;have f3:DataW.trod enc Tryz.prog W 0 (λ_=>true) true n 144 (([c0,c1,c2,c3,c4,c5,c6,c7,c8,c9].drop 3).take (Tryz.prog.cellsOf 144))=some z3:=hf 3 _ rfl;have f4:DataW.trod enc Tryz.prog W 0 (λ_=>true) true n 3 (([c0,c1,c2,c3,c4,c5,c6,c7,c8,c9].drop 7).take (Tryz.prog.cellsOf 3))=some z4:=hf 4 _ rfl;have f5:DataW.trod enc Tryz.prog W 0 (λ_=>true) true n 46 (([c0,c1,c2,c3,c4,c5,c6,c7,c8,c9].drop 8).take (Tryz.prog.cellsOf 46))=some z5:=hf 5 _ rfl;have f6:DataW.trod enc Tryz.prog W 0 (λ_=>true) true n 46 (([c0,c1,c2,c3,c4,c5,c6,c7,c8,c9].drop 9).take (Tryz.prog.cellsOf 46))=some z6:=hf 6 _ rfl;rw[zMQ] at f0 f1 f2 f4;rw[cEx] at f3;rw[zRD] at f5 f6;have hd:=congrArg Prod.fst hx
   have hbd:Rows.uptoBulk z0.1+Rows.uptoBulk z3.1+Rows.uptoBulk z5.1+Rows.uptoBulk z6.1+1<=Rows.uptoBulk d:=by
    have e:d=.agg [z0.1,z1.1,z2.1,z3.1,z4.1,z5.1,z6.1]:=hd;exact J86 _
   obtain⟨n0,g0,_,w0⟩:=uV xG f0;obtain⟨n1,g1,_,w1⟩:=uV xG f1;obtain⟨n2,g2,_,w2⟩:=uV xG f2;obtain⟨n4,g4,_,w4⟩:=uV xG f4;obtain⟨x,hxe,hxs⟩:=zLq (Rows.uptoBulk z3.1) _ _ z3.1 z3.2 (yT _) f3;obtain⟨t,ta,tc,tss,tv,tE,tR,tS,tL⟩:=zBu (e:=146) (v:=c8) (d:=z5.1) (ps:=z5.2) (λ(y:Ac) cs=>zEv W (λk=>k<W.heap.size) y cs/\y.kinds) Ac.sz kK cAc (by decide) f5 (λfuel cs d' ps' hb h'=>ih fuel cs d' ps' (by have:=zCS z0.1;omega) h');obtain⟨e,ea,ec,ess,ev,eE,eR,eS,_⟩:=zBu (e:=146) (v:=c9) (d:=z6.1) (ps:=z6.2) (λ(y:Ac) cs=>zEv W (λk=>k<W.heap.size) y cs/\y.kinds) Ac.sz kK cAc (by decide) f6 (λfuel cs d' ps' hb h'=>ih fuel cs d' ps' (by have:=zCS z0.1;omega) h');simp at g0 g1 g2 g4
   subst g0 g1 g2 g4 tv ev;refine⟨.mk n0 n1 n2 x n4 t e,⟨zEv.mk n0 n1 n2 x n4 t e [c3,c4,c5,c6] ta ea tc ec tss ess hxe tE (λi y hy=>(tR i y hy).1) eE (λi y hy=>(eR i y hy).1),?_⟩,?_⟩
   ·simp only[Ac.kinds]
    exact⟨zP1 w0,zDw t (λi y hy=>(tR i y hy).2),zDw e (λi y hy=>(eR i y hy).2)⟩
   ·rw[zKb] at tS eS
    have:=zCS z0.1
    simp only[Ac.sz];omega
def BdC(W:World)(b:Bd)(cs:List Value):Prop:=∃ad cap,cs=[.int .i64 b.regs,.slice ad b.acts.length cap]/\zAl W (λk=>k<W.heap.size) b.acts ad/\Ac.zBe b.acts/\b.acts.length<=cap
theorem zMN{fuel:Nat}{cs:List Value}{d:DataW H}{ps:List MemPlace}(h:DataW.trod enc Tryz.prog W 0 (λ_=>true) true fuel 48 cs=some (d,ps)):
 ∃b:Bd,BdC W b cs/\1+Ac.szL b.acts<=Rows.uptoBulk d:=by
 obtain⟨xs,n,_,hx,hl,hlen,hf⟩:=DataW.trod_struct Tryz.underlying48 h;rw[cBd] at hl;obtain⟨c0,c1,rfl⟩:=zNO hl;obtain⟨z0,z1,rfl⟩:=zNO (l:=xs) hlen;have f0:DataW.trod enc Tryz.prog W 0 (λ_=>true) true n 3 (([c0,c1].drop 0).take (Tryz.prog.cellsOf 3))=some z0:=hf 0 _ rfl;have f1:DataW.trod enc Tryz.prog W 0 (λ_=>true) true n 46 (([c0,c1].drop 1).take (Tryz.prog.cellsOf 46))=some z1:=hf 1 _ rfl;rw[zMQ] at f0;rw[zRD] at f1;have hd:=congrArg Prod.fst hx
 have hbd:Rows.uptoBulk z0.1+Rows.uptoBulk z1.1+1<=Rows.uptoBulk d:=by
  have e:d=.agg [z0.1,z1.1]:=hd;exact J86 _
 obtain⟨n0,g0,_,w0⟩:=uV xG f0;obtain⟨t,ta,tc,tss,tv,tE,tR,tS,tL⟩:=zBu (e:=146) (v:=c1) (d:=z1.1) (ps:=z1.2) (λ(y:Ac) cs=>zEv W (λk=>k<W.heap.size) y cs/\y.kinds) Ac.sz kK cAc (by decide) f1 (λfuel cs d' ps' hb h'=>zMn _ fuel cs d' ps' (yT _) h');simp at g0
 subst g0 tv;refine⟨⟨n0,t⟩,⟨ta,tc,rfl,⟨tss,tE,λi y hy=>(tR i y hy).1⟩,zDw t (λi y hy=>(tR i y hy).2),tL⟩,?_⟩
 rw[zKb] at tS;show 1+Ac.szL t<=_
 omega
def zHw(w:World)(F:Nat->Prop)(bs:List Bd)(ad:Option Addr):Prop:=
 ∀i (hi:i<bs.length),∃g o ba bc,ad=some ⟨g,o,none⟩/\F g/\w.cell? ⟨g,o+i*2,none⟩=some (.int .i64 bs[i].regs)/\w.cell? ⟨g,o+i*2+1,none⟩=some (.slice ba bs[i].acts.length bc)/\zAl w F bs[i].acts ba/\bs[i].acts.length<=bc
theorem zHw.at{w:World}{F:Nat->Prop}{bs:List Bd}{ad:Option Addr}(h:zHw w F bs ad):zBy w F bs ad:=λi hi=>by
 obtain⟨g,o,ba,bc,a1,a2,a3,a4,a5,_⟩:=h i hi;exact⟨g,o,ba,bc,a1,a2,a3,a4,a5⟩
theorem zLr{fuel:Nat}{cs:List Value}{d:DataW H}{ps:List MemPlace}(h:DataW.trod enc Tryz.prog W 0 (λ_=>true) true fuel 25 cs=some (d,ps)):
 ∃ (l:List Int) (mu:Int) (bs:List Bd) (uca uta:Option Addr) (ucc utc:Nat),cs=[.slice uca l.length ucc,.int .i64 mu,.slice uta bs.length utc]/\zAw W (λk=>k<W.heap.size) l uca/\zHw W (λk=>k<W.heap.size) bs uta ∧
   (∀b,b∈bs->Ac.zBe b.acts)/\zAj bs+l.length+bs.length<=2*Rows.uptoBulk d:=by
 obtain⟨xs,n,_,hx,hl,hlen,hf⟩:=DataW.trod_struct Tryz.underlying25 h;rw[cUn] at hl;obtain⟨c0,c1,c2,rfl⟩:=zJC hl;obtain⟨z0,z1,z2,rfl⟩:=zJC (l:=xs) hlen;have f0:DataW.trod enc Tryz.prog W 0 (λ_=>true) true n 22 (([c0,c1,c2].drop 0).take (Tryz.prog.cellsOf 22))=some z0:=hf 0 _ rfl;have f1:DataW.trod enc Tryz.prog W 0 (λ_=>true) true n 3 (([c0,c1,c2].drop 1).take (Tryz.prog.cellsOf 3))=some z1:=hf 1 _ rfl;have f2:DataW.trod enc Tryz.prog W 0 (λ_=>true) true n 23 (([c0,c1,c2].drop 2).take (Tryz.prog.cellsOf 23))=some z2:=hf 2 _ rfl;rw[zRz] at f0;rw[zMQ] at f1;rw[zSG] at f2;have hd:=congrArg Prod.fst hx
 have hbd:Rows.uptoBulk z0.1+Rows.uptoBulk z2.1+1<=Rows.uptoBulk d:=by
  have e:d=.agg [z0.1,z1.1,z2.1]:=hd;exact J86 _
 obtain⟨n1,g1,_,w1⟩:=uV xG f1
 obtain⟨l,la,lc,lss,lv,lE,lR,lS,_⟩:=zBu (e:=3) (v:=c0) (d:=z0.1) (ps:=z0.2) (λ(y:Int) cs=>cs=[.int .i64 y]) (λ_=>1) Tryz.underlying22 zMQ (by decide) f0 (λfuel cs d' ps' hb h'=>by
  obtain⟨m,gm,_,_⟩:=uV xG h';exact⟨m,gm,zCS d'⟩)
 obtain⟨t,ta,tc,tss,tv,tE,tR,tS,tL⟩:=zBu (e:=48) (v:=c2) (d:=z2.1) (ps:=z2.2) (λ(y:Bd) cs=>BdC W y cs) (λb=>1+Ac.szL b.acts) Tryz.underlying23 cBd (by decide) f2 (λfuel cs d' ps' hb h'=>zMN h');simp at g1
 subst g1 lv tv;rw[zHu] at lS;rw[zI5] at tS
 have hlb:∀r:List Bd,r.length<=zAj r:=λr=>by
  induction r with
  | nil=>exact yT _
  | cons x r ih=>simp only[xM,zAj];omega
 have hlt:=hlb t;refine⟨l,n1,t,la,ta,lc,tc,rfl,?_,?_,?_,by omega⟩
 ·intro i hi
  exact J85 _
 ·intro i hi
  obtain⟨g,o,e,hg,_,hc⟩:=tE i hi;obtain⟨ba,bc,hR,hA,_,hL⟩:=tR i t[i] (yL hi);have c0:=hc 0 (.int .i64 t[i].regs) (by rw[hR];rfl);have c1:=hc 1 (.slice ba t[i].acts.length bc) (by rw[hR];rfl);refine⟨g,o,ba,bc,e,hg,?_,?_,hA,hL⟩
  ·simpa using c0
  ·rw[uI];exact c1
 ·intro b hb
  obtain⟨i,hi⟩:=List.getElem?_of_mem hb;obtain⟨ba,bc,_,_,hk,_⟩:=tR i b hi;exact hk
end
end Go.Proofs.YtoapgjjepiopbaaGreatDoor
namespace Go.Proofs.YtoapgjjepiopbaaGreatDoor
open Go.ChangeShapes Go.WideShapes Go.ChangeAt Go.RowKit
theorem own:ownKnob Tryz.prog.godebug=none:=by kernel_rfl
theorem laidOut:laidOutB Tryz.prog=true:=by kernel_rfl
theorem zIK{w w':World}(h:Keeps zA w w'):Below w.heap.size w w':=h.below (λk _ hk=>hk.elim) (yT _)
def putCells(h:Array Obj)(g:Nat)(cs:Array Value):Array Obj:=h.modify g fun
 | .cells _ t frozen=>.cells cs t frozen
 | o=>o
noncomputable def zFF (os:Os):World:=
 let N:=(World.settled Tryz.prog os).heap.size
 let w0:=World.holding Tryz.prog os ⟨#[.cells #[.string ⟨#[118,97,108,117,101,32,111,117,116,32,111,102,32,114,97,110,103,101]⟩] 474,.cells #[.string ⟨#[105,110,118,97,108,105,100,32,115,121,110,116,97,120]⟩] 474],#[],[]⟩
 let h1:=putCells w0.heap 2 (Lib.deBruijn32tab.map λ(z:Nat)=>Value.int .u8 (z:Int)).toArray
 let h2:=putCells h1 3 (Lib.deBruijn64tab.map λ(z:Nat)=>Value.int .u8 (z:Int)).toArray
 let h3:=putCells h2 0 (Lib.pow10Tab.map λz=>Value.int .u64 z).toArray
 let h4:=putCells h3 5 ((List.range 16).flatMap λi=>[Value.int .u8 (Lib.accLo i),Value.int .u8 (Lib.accHi i)]).toArray
 let h5:=putCells h4 7 #[.iface 472 (.pointer (some ⟨N,0,none⟩))]
 let h6:=putCells h5 6 #[.iface 472 (.pointer (some ⟨N+1,0,none⟩))]
 let h7:=putCells h6 4 (Lib.firstTab.map λz=>Value.int .u8 z).toArray
 { w0 with heap:=h7 }
theorem zOd{H:Type}{W:World}{cs:List Int}{bs:List Bd}{uca uta:Option Addr}{d:DataW H}(hN:zAw W (λk=>k<W.heap.size) cs uca)(hC:zHw W (λk=>k<W.heap.size) bs uta)(hk:∀b,b∈bs->Ac.zBe b.acts)(hs:zAj bs+cs.length+bs.length<=2*Rows.uptoBulk d)(hb:Rows.uptoBulk d<=1048576):zC8 W (λk=>k<W.heap.size) cs bs uca uta:=
 ⟨hN,hC.at,λ_ h=>h,hk,by omega,by omega,by omega⟩
theorem zOn{H:Type}{d:DataW H}{l:List (DataW H)}(hk:Rows.uptoSmall H (d :: l)=true):Rows.uptoBulk d<=1048576:=by
 have h:Rows.uptoBulkAll (d :: l)<=1048576:=of_decide_eq_true hk;simp only[Rows.uptoBulkAll] at h;omega
theorem open_row{H:Type}{enc:TypeId × Value->H}{W:World}{v:Value}{fuel:Nat}{d:DataW H}{ps:List MemPlace}(h:DataW.trod enc Tryz.prog W 0 (λ_=>true) true fuel 22 [v]=some (d,ps)):
 ∃(l:List Int)(ad:Option Addr)(cap:Nat),v=.slice ad l.length cap/\zl W (.slice ad l.length cap) l.length (ints l)/\l.length+1<=Rows.uptoBulk d/\l.length<=cap:=by
 obtain⟨l,la,lc,lss,lv,lE,lR,lS,lL⟩:=zBu (e:=3) (v:=v) (d:=d) (ps:=ps) (λ(y:Int) cs=>cs=[.int .i64 y]) (λ_=>1) Tryz.underlying22 zMQ (by decide) h (λfuel cs d' ps' hb h'=>by
  obtain⟨m,gm,_,_⟩:=uV xG h';exact⟨m,gm,zCS d'⟩)
 rw[zHu] at lS
 have hN:zAw W (λk=>k<W.heap.size) l la:=λi hi=>by
  exact J85 _
 exact⟨l,la,lc,lv,hN.src,lS,lL⟩
end Go.Proofs.YtoapgjjepiopbaaGreatDoor
namespace Go.Proofs.YtoapgjjepiopbaaGreatDoor.lawTopBound
open Go.ChangeShapes Go.WideShapes Go.ChangeAt Go.RowKit
theorem zNr(os:Os):laidMet Tryz.prog Rows.topBoundUptoRow.laid ((zFF os).forCall (λ_ _=>0) ⟨#[],#[.agg #[.slice none 0 0,(0:Int),.slice none 0 0],.slice none 0 0],[]⟩).memory:=
 laidMet_of_run3 8 (by kernel_rfl) (by kernel_rfl) (by kernel_rfl)
theorem reads(os:Os){H:Type}(enc:TypeId × Value->H):∃places,DataW.whole enc Tryz.prog ((zFF os).forCall (λ_ _=>0) ⟨#[],#[.agg #[.slice none 0 0,(0:Int),.slice none 0 0],.slice none 0 0],[]⟩).memory Tryz.f3.params.toList Rows.topBoundSpec.vars false #[Value.agg #[.slice none 0 0,(0:Int),.slice none 0 0],.slice none 0 0].toList 8=some ([.agg [.nil,.lit (.int .i64 0),.nil],.nil],[],places):=
 ⟨[],by kernel_rfl⟩
theorem zRe:Tryz.prog.globalNamed "math/bits.deBruijn64tab"=some 3:=by kernel_rfl
theorem zN1:(Tryz.prog.globals[3]?).map (·.type)=some 400:=by kernel_rfl
theorem zNX:Tryz.prog.cellsOf 400=64:=by kernel_rfl
theorem zO3:Tryz.prog.cellsOf 5=1:=by kernel_rfl
theorem zHy{P:Program}{W:World}{x:String × DataW Unit}{rest:List (String × DataW Unit)}(h:laidMet P (x :: rest) W):laidMet P rest W:=by
 obtain⟨ps,⟨g',t',cs,fuel,p,q,_,_,_,_,hq,hps⟩,hnd,hz⟩:=h;subst hps;exact⟨q,hq,(List.nodup_append.1 hnd).2.1,λb off hb=>hz b off (List.mem_append_right _ hb)⟩
theorem zRc{W:World}(h:laidMet Tryz.prog Rows.topBoundUptoRow.laid W):zAq W:=by
 have h1:Lib.TabIs Tryz.prog W "math/bits.deBruijn64tab" .u8 zNe :=
  Lib.tabIs_of_head zRe zN1 Tryz.underlying400 kU zO3 zNX (zHy h)
 exact λj hj=>h1.cell zRe j (by exact hj)
theorem zQh{W:World}(h:laidMetH Tryz.prog Rows.topBoundUptoRow.laid W):zFy W:=by
 have h1:=laidMetH.filter (fun x=>x.1=="internal/strconv.uint64pow10") h;have e:Rows.topBoundUptoRow.laid.filter (fun x=>x.1=="internal/strconv.uint64pow10")=[("internal/strconv.uint64pow10",Lib.tabData .u64 Lib.pow10Tab)]:=by kernel_rfl
 rw[e] at h1;exact Lib.tabIs_of_head (rest:=[]) (g:=0) (by kernel_rfl) (t:=353) (by kernel_rfl) Tryz.underlying353 Tryz.underlying245 (by kernel_rfl) (by kernel_rfl) h1
theorem contract(H:Type)(enc:TypeId × Value->H)(W:World)(base:Nat)(args:Array Value)(ds gs:List (DataW H))(before:List MemPlace)
 (hval0:∀(j:Nat) t v,Tryz.f3.params[j]?=some t->args[j]?=some v->Value.okWide Tryz.prog W .any base t v)
 (hW:DataW.Whole enc Tryz.prog Tryz.f3.params.toList Rows.topBoundSpec.vars false W args.toList ds gs before) (hk:Rows.uptoSmall H (ds++gs)=true) (hL:laidMetH Tryz.prog Rows.topBoundUptoRow.laid W):
 Calls Tryz.prog 3 args W λe W'=>∃v,e=.returned v/\Rows.topBoundSpec.post enc Tryz.prog Tryz.f3 false true false false W args v W':=by
 have hval:∀(j:Nat) t v,Tryz.f3.params[j]?=some t->args[j]?=some v->Value.okWide Tryz.prog W .any base t v:=hval0
 have hW':=hW;have hltW:=hW.lt;obtain⟨p,q,hA0,hV,rfl,hfz,hnd⟩:=hW;have hA:DataW.TrodAll enc Tryz.prog W 0 (λ_=>true) true Tryz.f3.params.toList args.toList ds p:=hA0;rw[Tryz.params3] at hA hval;obtain⟨v0,vs0,d0,ds0,p0,q0,hargs,rfl,rfl,h0,r0⟩:=trodAll_cons hA;obtain⟨v1,vs1,d1,ds1,p1,q1,rfl,rfl,rfl,h1,r1⟩:=trodAll_cons r0;obtain⟨rfl,rfl,rfl⟩:=trodAll_nil r1;obtain rfl:args=#[v0,v1]:=by cases args;simp_all
 obtain⟨rfl,rfl⟩:=trodVars_none hV;have h0k:=h0;have h1k:=h1;have hlt0:∀x∈p0,x.block<W.heap.size:=λx hx=>hltW x (by simp[hx])
 have hlt1:∀x∈p1,x.block<W.heap.size:=λx hx=>hltW x (by simp[hx])
 obtain⟨ad1,len1,cap1,rfl⟩:=okWide_slice Tryz.underlying22 (hval 1 22 v1 rfl rfl);obtain⟨c0,rfl,_⟩:=okWide_struct Tryz.underlying25 (hval 0 25 v0 rfl rfl);have hB:=zOn hk;obtain⟨f0,hf0⟩:=h0;obtain⟨l,mu,bs,uca,uta,ucc,utc,hcs,hN,hC,hkd,hsz⟩:=zLr (d:=d0) (ps:=p0) hf0
 have hc0:c0=#[.slice uca l.length ucc,.int .i64 mu,.slice uta bs.length utc]:=by
  have h:c0.toList=[.slice uca l.length ucc,.int .i64 mu,.slice uta bs.length utc]:=hcs;cases c0;simpa using h
 subst hc0;clear hA0 hval0;simp only[List.append_nil] at hW';obtain⟨f1,hf1⟩:=h1;obtain⟨xs1,ra1,rc1,hrv1,hrx1,hrl1,_⟩:=open_row (d:=d1) (ps:=p1) hf1;rw[hrv1];rw[hrv1] at hW' h1k;have hU:=zOd hN hC hkd hsz hB;refine(zFz (ucc:=ucc) (utc:=utc) (mu:=mu) hU ra1 rc1 xs1 hrx1 (zRc hL) (zQh hL)).mono λe W' ⟨he,hk⟩=>?_
 subst he;have hb:=zIK hk;refine⟨_,rfl,_,_,_,[],p0++p1,[],hW',trodAll_cons_mk (shut_bool Tryz.underlying4 _) trodAll_mk0,?_,rfl,hb.frame _,λh=>by cases h⟩
 have:=trodAll_cons_mk (Below.trod laidOut (by kernel_rfl) (of_decide_eq_true (by kernel_rfl)) h0k hb hlt0) (trodAll_cons_mk (Below.trod laidOut (by kernel_rfl) (of_decide_eq_true (by kernel_rfl)) h1k hb hlt1) trodAll_mk0)
 rw[List.append_nil] at this;rw[Tryz.params3];exact this
theorem lifted(os:Os)(started:os.Started)(H:Type)(enc:TypeId × Value->H)(F:Stop.Interp):
 ReturnsInHanded {} Tryz.checked os 3 .any ((Rows.OpenSpec.upto Rows.topBoundSpec).preRow enc Tryz.prog Tryz.f3 Rows.topBoundUptoRow.domain false Rows.topBoundUptoRow.laid) (((Rows.OpenSpec.upto Rows.topBoundSpec).at F).post enc Tryz.prog Tryz.f3 false true false false):=by
 obtain⟨places,hx⟩:=reads os enc
 refine returnsInHanded_of_row (C:=Tryz.checked) (s:=Rows.OpenSpec.upto Rows.topBoundSpec) own started (by kernel_rfl) Tryz.func3
  (witness_row_atRef (enc:=enc) (C:=Tryz.checked) false (zFF os) #[.agg #[.slice none 0 0,(0:Int),.slice none 0 0],.slice none 0 0] rfl (by kernel_rfl) (by kernel_rfl) (by kernel_rfl)
    (OpenSpec.preRow_of_cond 8 hx (by kernel_rfl) (λk hk=>by cases hk;kernel_rfl) (by kernel_rfl) (zNr os))) ?_
 intro W base args ds gs before hval hW _ hcond _ hL _ _
 exact contract H enc W base args ds gs before hval hW (hcond _ rfl) hL
theorem zCt{x y:Bool}(h:x=true)(k:y=true):(x&&y)=true:=by rw[h,k];rfl
theorem jf0:(Rows.topBoundUptoRow.wf (OpenSpec.ofChange (Rows.OpenSpec.upto Rows.topBoundSpec).bare)&&laidOutB Tryz.pinned.checked.prog&&mapsRowed Tryz.pinned.checked.prog&&Tryz.f3.params.all (Tryz.pinned.checked.prog.readableRec ·)&&namedTie Tryz.pinned.checked.prog Rows.topBoundUptoRow.named (Rows.OpenSpec.upto Rows.topBoundSpec).bare.vars&&(Rows.topBoundUptoRow.stops==[])&&(Tryz.pinned.checked.prog.stops==[])&&(Rows.topBoundUptoRow.knobs==[])&&(Tryz.pinned.checked.prog.stopKnobs==[]))=true:=by kernel_rfl
theorem jf1:(Rows.topBoundUptoRow.inPlace==Tryz.pinned.checked.prog.inPlace 3)=true:=by kernel_rfl
theorem jf2:(Rows.topBoundUptoRow.unfollowed==Tryz.pinned.checked.prog.unfollowed 3)=true:=by kernel_rfl
theorem jf3:(Rows.topBoundUptoRow.recurses==Tryz.pinned.checked.prog.recurses 3)=true:=by kernel_rfl
theorem jf4:(Rows.topBoundUptoRow.named==Tryz.pinned.checked.prog.varsNamed 3)=true:=by kernel_rfl
theorem jf5:joinedFacts Tryz.pinned.checked.prog 3 Tryz.f3 (Rows.OpenSpec.upto Rows.topBoundSpec).bare Rows.topBoundUptoRow=true:=zCt (zCt (zCt (zCt (zCt (zCt (zCt (zCt (zCt (zCt (zCt (zCt (zCt (zCt (zCt (zCt (zCt (zCt (zCt (zCt (zCt (zCt (zCt jf0 jf1) jf2) jf3) jf4) (by kernel_rfl)) (by kernel_rfl)) (by kernel_rfl)) (by kernel_rfl)) (by kernel_rfl)) (by kernel_rfl)) (by kernel_rfl)) (by kernel_rfl)) (by kernel_rfl)) (by kernel_rfl)) (by kernel_rfl)) (by kernel_rfl)) (by kernel_rfl)) (by kernel_rfl)) (by kernel_rfl)) (by kernel_rfl)) (by kernel_rfl)) (by kernel_rfl)) (by kernel_rfl)
theorem zM3:Rows.TopBoundUptoSaid:=
 OpenClaim.holds_of_cond 3 Tryz.f3 rfl rfl rfl rfl rfl rfl rfl ⟨rfl,rfl,rfl,rfl,rfl⟩ rfl rfl rfl rfl rfl (by kernel_rfl) Tryz.func3 jf5
  (of_decide_eq_true (by kernel_rfl)) (by unfold Func.isWrapper;first|(rw[if_pos (by decide +kernel)];kernel_rfl)|(rw[if_neg (by decide +kernel)];exact⟨rfl,rfl⟩))
  (λos started H enc _ F=>by rw[OpenClaim.pre_eq_preRow];exact lifted os started H enc F)
theorem plain (f:FuncId) (fn:Func) (hf:Tryz.pinned.checked.prog.funcNamed "racetree/racetreetop.TopBound"=some f) (hfn:Tryz.pinned.checked.prog.funcs[f]?=some fn) :
 true=Tryz.pinned.checked.prog.looks []/\∀(j:Nat) t,fn.params[j]?=some t->Tryz.pinned.checked.prog.wantsStandIn t=false:=by
 obtain rfl:f=3:=yi ((show Tryz.prog.funcNamed "racetree/racetreetop.TopBound"=some 3 by kernel_rfl).symm.trans hf) |>.symm;obtain rfl:fn=Tryz.f3:=(yi (Tryz.func3.symm.trans hfn)).symm;refine ⟨by kernel_rfl,fun j t ht=>?_⟩
 rw[Tryz.params3] at ht
 have hm:t=25\/t=22:=by
  have:=Array.mem_of_getElem? ht
  simp at this
  omega
 rcases hm with rfl|rfl
 ·exact(show Tryz.prog.wantsStandIn 25=false by kernel_rfl)
 ·exact(show Tryz.prog.wantsStandIn 22=false by kernel_rfl)
theorem cardUpto:Rows.TopBoundUptoCardSaid:=
 Claim7.holds_tied_plain_at .later [] _ _ _ _ zM3 (λ_ h=>by cases h) (by kernel_rfl) (λ_ h=>by cases h) topBoundUpto_row_tie rfl ⟨rfl,rfl⟩ (by kernel_rfl) rfl plain (by kernel_rfl)
end Go.Proofs.YtoapgjjepiopbaaGreatDoor.lawTopBound
