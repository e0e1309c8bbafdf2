/- Layer D: texts joined. -/
import Derived.Test.YtoapgjjepiopbaaGreatDoorD03
import Derived.StillTailTactics
set_option linter.all false
namespace Go.Proofs.YtoapgjjepiopbaaGreatDoor
open Go.RowKit
abbrev yi:=@Option.some.inj
abbrev kV:=@List.getElem?_drop
abbrev kQ:=@Option.getD_some
abbrev kD:=@Bool.or_eq_true
abbrev vM:=@Option.map_some
abbrev vH:=@Go.getD_replicate_false
abbrev uW:=@Go.mem_ready
abbrev uU:=@Array.all_eq_true_iff_forall_mem
abbrev uJ:=@Go.getD_set_ne
abbrev xT:=@List.mem_range
abbrev xD:=@zn.keeps
abbrev xB:=@List.all_eq_true
theorem J10(P:Prop) (h:P:=by
 apply Array.ext
 ·rw[inv.size];simp[zo];omega
 ·intro k h1 h2
  by_cases hk:k<n
  ·have:=hall k hk
   simp only[Array.getD,h1,dif_pos] at this;rw[show listed[k]=true from this];simp[zo,hk,List.getElem_append]
  ·have hk2:k<l.toArray.size:=by rw[<-inv.size];exact h1
   have:=inv.tail k (by omega) hk2
   simp only[Array.getD,h1,dif_pos] at this;rw[show listed[k]=false from this];simp[zo,hk,List.getElem_append]):P:=h
theorem J11(P:Prop) (h:P:=by
 simp only[Array.any_eq_true',yS,yV] at hj;obtain⟨e,he,hb,rfl⟩:=hj;have h1:=hafter e he hb
 have hle:e.on<i:=by
  have h1:=xB.1 hback i (xT.2 hin);simp only[ho',vM,kQ,uU] at h1;have h2:=h1 e he;simpa only[hb,Bool.not_true,Bool.false_or,yV] using h2
 have h4:e.on<listed.size:=by rw[inv.size];simp;omega
 exact hF e.on (by omega) (by simpa [h4] using h1)):P:=h
theorem J13(P:Prop) (h:P:=by
 have hil:i0<l.length:=by omega
 rw[uW];refine⟨hu0,l[i0],by simp[hil],λe he hb=>?_⟩
 have h1:=xB.1 hback i0 (xT.2 hi0);simp only[yL hil,vM,kQ,uU] at h1;have h2:=h1 e he;simp only[hb,Bool.not_true,Bool.false_or,yV] at h2;have h3:=hb0 e.on h2;have h4:e.on<listed.size:=by rw[inv.size];simp;omega
 simpa [h4] using h3):P:=h
theorem J24(P:Prop) (h:P:=by
 have h1:=xB.1 hc t (xT.2 htlt);simp only[kD,yV] at h1;rcases h1 with h1|h1
 ·omega
 ·obtain⟨o',ho',e,he,hb,hon⟩:=Region.waitsFor_spec h1
  have:o'=ot:=yi (ho'.symm.trans hot)
  subst this;have h2:=hall e he hb;rw[hon,getD_both (inv.tail (t-1) (by omega) (by omega))] at h2;cases h2):P:=h
theorem J26(P:Prop) (h:P:=by
 intro m
 induction m with
 | zero=>intro _;rfl
 | succ m ih =>
   intro hm
   unfold zBp;rw[ih (by omega)]
   have:(Array.replicate l.toArray.size false).getD m true=false:=by
    have:m<l.length:=by omega
    simp[this]
   rw[this];simp):P:=h
theorem J33(P:Prop) (h:P:=by
 have hd:o.dst=(l[i]?).bind (·.dst):=by rw[ho'];rfl
 show wpAny P .any l.toArray Q (f+(l.length-n)) (listed.setIfInBounds i true) ((zJ l vs a n).put o.dst v) W'
 rw[hd,zBO v n vs hin (hdis n (by omega)) (λm hm=>hdis m (by omega))];refine ih _ _ _ (inv.set hi hin) ?_ (htrans _ _ _ hR hR') (λj hj hl=>?_)
 ·have:=zCT hun n
  rw[if_pos hin] at this;omega
 ·by_cases e:j=i
  ·subst e;rw[if_pos rfl];exact hF'
  ·rw[if_neg e]
   rw[uJ true (λh=>e h.symm)] at hl;exact hst j _ _ _ (hF j hj hl) hR'):P:=h
theorem J74(P:Prop) (h:P:=by
 have:=zCT hun n
 rw[if_pos hin] at this;omega):P:=h
theorem J104(P:Prop) (h:P:=by
 rcases xR i n with h|h
 ·exact h
 ·exact absurd hi (tail_waits hs hc (by simpa using hn) inv _ i0 rfl hi0 hu0 i h)):P:=h
theorem J115(P:Prop) (h:P:=by
 rcases hf with hf|⟨hf,h6,h7⟩
 ·exact .inl hf
 ·exact .inr ⟨hf,yH h6 hk.size,h7⟩):P:=h
theorem J198(P:Prop)(h:P:=by rw[h0] at hr0;exact absurd hr0 (by simp)):P:=h
theorem J200(P:Prop)(h:P:=by rw[vH] at hl;cases hl):P:=h
namespace Ac
def kind:Ac->Int | .mk k _ _ _ _ _ _=>k
def reg:Ac->Int | .mk _ r _ _ _ _ _=>r
def obj:Ac->Int | .mk _ _ o _ _ _ _=>o
def ex:Ac->Ex | .mk _ _ _ x _ _ _=>x
def count:Ac->Int | .mk _ _ _ _ c _ _=>c
def thn:Ac->List Ac | .mk _ _ _ _ _ t _=>t
def els:Ac->List Ac | .mk _ _ _ _ _ _ e=>e
end Ac
namespace St
def kind:St->Int | .mk k _ _ _ _ _ _=>k
def reg:St->ByteArray | .mk _ r _ _ _ _ _=>r
def name:St->ByteArray | .mk _ _ o _ _ _ _=>o
def ex:St->Ex | .mk _ _ _ x _ _ _=>x
def count:St->Int | .mk _ _ _ _ c _ _=>c
def thn:St->List St | .mk _ _ _ _ _ t _=>t
def els:St->List St | .mk _ _ _ _ _ _ e=>e
end St
theorem Ac.ind{P:Ac->Prop}(h:∀k r o x c t e,(∀y,y∈t->P y)->(∀y,y∈e->P y)->P (.mk k r o x c t e)):(x:Ac)->P x
 | .mk k r o x c t e=>h k r o x c t e (λy hy=>Ac.ind h y) (λy hy=>Ac.ind h y)
termination_by x=>SizeOf.sizeOf x
decreasing_by
 all_goals (
  have:=List.sizeOf_lt_of_mem hy
  simp only[Ac.mk.sizeOf_spec];omega)
mutual
def Ac.sz:Ac->Nat
 | .mk _ _ _ x _ t e=>1+x.cnt+Ac.szL t+Ac.szL e
def Ac.szL:List Ac->Nat
 | []=>0
 | x :: r=>Ac.sz x+Ac.szL r
end
theorem Ac.zCZ(x:Ac):x.sz=1+x.ex.cnt+Ac.szL x.thn+Ac.szL x.els:=by cases x;simp only[Ac.sz,Ac.ex,Ac.thn,Ac.els]
theorem Ac.zAe(l:List Ac):l.length<=Ac.szL l:=by
 induction l with
 | nil=>simp
 | cons x r ih=>have:=Ac.zCZ x;simp only[xM,Ac.szL];omega
theorem Ac.zCI{l:List Ac}{y:Ac}(h:y∈l):y.sz<=Ac.szL l:=by
 induction l with
 | nil=>cases h
 | cons x r ih =>
   simp only[Ac.szL];rcases xU.1 h with e|e
   ·subst e;omega
   ·have:=ih e;omega
def zAl(w:World)(F:Nat->Prop)(l:List Ac)(ad:Option Addr):Prop:=∃css,zBa w F 10 l.length ad css/\∀i y,l[i]?=some y->zEv w F y (css i)
theorem zAl.keeps{S F:Nat->Prop}{w w':World}{l:List Ac}{ad:Option Addr}(h:zAl w F l ad)(hk:Keeps S w w')(hS:∀k,F k->¬S k):zAl w' F l ad:=by
 exact J80 _
theorem zEv.cells{w:World}{F:Nat->Prop}{x:Ac}{cs:List Value}(h:zEv w F x cs):∃xa xc ta tc ea ec,cs=[.int .i64 x.kind,.int .i64 x.reg,.int .i64 x.obj,.int .i64 x.ex.kind,.int .i64 x.ex.num,.string x.ex.nm,.slice xa x.ex.args.length xc,.int .i64 x.count,.slice ta x.thn.length tc,.slice ea x.els.length ec] ∧
 zR w F x.ex.args xa/\zAl w F x.thn ta/\zAl w F x.els ea:=by
 cases h with
 | mk k r o ex c t e xs ta ea tc ec tss ess hx t0 t1 e0 e1 =>
   obtain⟨xa,xc,rfl,hxs⟩:=hx.exs;exact⟨xa,xc,ta,tc,ea,ec,rfl,hxs,⟨tss,t0,t1⟩,ess,e0,e1⟩
theorem zAl.at{w:World}{F:Nat->Prop}{l:List Ac}{ad:Option Addr}(h:zAl w F l ad){i:Nat}(hi:i<l.length):
 ∃ g o xa xc ta tc ea ec,ad=some ⟨g,o,none⟩/\F g/\w.cell? ⟨g,o+i*10,none⟩=some (.int .i64 l[i].kind)/\w.cell? ⟨g,o+i*10+1,none⟩=some (.int .i64 l[i].reg)/\w.cell? ⟨g,o+i*10+2,none⟩=some (.int .i64 l[i].obj) ∧
   w.cell? ⟨g,o+i*10+3,none⟩=some (.int .i64 l[i].ex.kind)/\w.cell? ⟨g,o+i*10+4,none⟩=some (.int .i64 l[i].ex.num)/\w.cell? ⟨g,o+i*10+5,none⟩=some (.string l[i].ex.nm) ∧
   w.cell? ⟨g,o+i*10+6,none⟩=some (.slice xa l[i].ex.args.length xc)/\w.cell? ⟨g,o+i*10+7,none⟩=some (.int .i64 l[i].count)/\w.cell? ⟨g,o+i*10+8,none⟩=some (.slice ta l[i].thn.length tc) ∧
   w.cell? ⟨g,o+i*10+9,none⟩=some (.slice ea l[i].els.length ec)/\zR w F l[i].ex.args xa/\zAl w F l[i].thn ta/\zAl w F l[i].els ea:=by
 obtain⟨css,h0,h1⟩:=h;obtain⟨xa,xc,ta,tc,ea,ec,e,h2,h3,h4⟩:=(h1 i l[i] (yL hi)).cells;obtain⟨g,o,e1,hg,hl,hs⟩:=h0 i hi;rw[e] at hs;exact⟨g,o,xa,xc,ta,tc,ea,ec,e1,hg,hs 0 _ rfl,hs 1 _ rfl,hs 2 _ rfl,hs 3 _ rfl,hs 4 _ rfl,hs 5 _ rfl,hs 6 _ rfl,hs 7 _ rfl,hs 8 _ rfl,hs 9 _ rfl,h2,h3,h4⟩
def acV(x:Ac)(xa:Option Addr)(xc:Nat)(ta:Option Addr)(tc:Nat)(ea:Option Addr)(ec:Nat):Value:=
 .agg #[x.kind,x.reg,x.obj,x.ex.kind,x.ex.num,x.ex.nm,.slice xa x.ex.args.length xc,x.count,.slice ta x.thn.length tc,.slice ea x.els.length ec]
theorem St.ind{P:St->Prop}(h:∀k r o x c t e,(∀y,y∈t->P y)->(∀y,y∈e->P y)->P (.mk k r o x c t e)):(x:St)->P x
 | .mk k r o x c t e=>h k r o x c t e (λy hy=>St.ind h y) (λy hy=>St.ind h y)
termination_by x=>SizeOf.sizeOf x
decreasing_by
 all_goals (
  have:=List.sizeOf_lt_of_mem hy
  simp only[St.mk.sizeOf_spec];omega)
mutual
def St.sz:St->Nat
 | .mk _ _ _ x _ t e=>1+x.cnt+St.szL t+St.szL e
def St.szL:List St->Nat
 | []=>0
 | x :: r=>St.sz x+St.szL r
end
theorem St.zCZ(x:St):x.sz=1+x.ex.cnt+St.szL x.thn+St.szL x.els:=by cases x;simp only[St.sz,St.ex,St.thn,St.els]
theorem St.zAe(l:List St):l.length<=St.szL l:=by
 induction l with
 | nil=>simp
 | cons x r ih=>have:=St.zCZ x;simp only[xM,St.szL];omega
theorem St.zCI{l:List St}{y:St}(h:y∈l):y.sz<=St.szL l:=by
 induction l with
 | nil=>cases h
 | cons x r ih =>
   simp only[St.szL];rcases xU.1 h with e|e
   ·subst e;omega
   ·have:=ih e;omega
def zx(w:World)(F:Nat->Prop)(l:List St)(ad:Option Addr):Prop:=∃css,zBa w F 10 l.length ad css/\∀i y,l[i]?=some y->zCA w F y (css i)
theorem zx.keeps{S F:Nat->Prop}{w w':World}{l:List St}{ad:Option Addr}(h:zx w F l ad)(hk:Keeps S w w')(hS:∀k,F k->¬S k):zx w' F l ad:=by
 exact J80 _
theorem zCA.cells{w:World}{F:Nat->Prop}{x:St}{cs:List Value}(h:zCA w F x cs):∃xa xc ta tc ea ec,cs=[.int .i64 x.kind,.string x.reg,.string x.name,.int .i64 x.ex.kind,.int .i64 x.ex.num,.string x.ex.nm,.slice xa x.ex.args.length xc,.int .i64 x.count,.slice ta x.thn.length tc,.slice ea x.els.length ec] ∧
 zR w F x.ex.args xa/\zx w F x.thn ta/\zx w F x.els ea:=by
 cases h with
 | mk k r o ex c t e xs ta ea tc ec tss ess hx t0 t1 e0 e1 =>
   obtain⟨xa,xc,rfl,hxs⟩:=hx.exs;exact⟨xa,xc,ta,tc,ea,ec,rfl,hxs,⟨tss,t0,t1⟩,ess,e0,e1⟩
theorem zCA.zF1{w:World}{F:Nat->Prop}(x:St){xa ta ea:Option Addr}{xc tc ec:Nat}(hx:zR w F x.ex.args xa)(ht:zx w F x.thn ta)(he:zx w F x.els ea):
 zCA w F x [.int .i64 x.kind,.string x.reg,.string x.name,.int .i64 x.ex.kind,.int .i64 x.ex.num,.string x.ex.nm,.slice xa x.ex.args.length xc,.int .i64 x.count,.slice ta x.thn.length tc,.slice ea x.els.length ec]:=by
 obtain⟨tss,t0,t1⟩:=ht;obtain⟨ess,e0,e1⟩:=he;cases x with
 | mk k r o ex c t e=>exact .mk k r o ex c t e _ ta ea tc ec tss ess (zBL.zKm hx) t0 t1 e0 e1
theorem zx.at{w:World}{F:Nat->Prop}{l:List St}{ad:Option Addr}(h:zx w F l ad){i:Nat}(hi:i<l.length):
 ∃ g o xa xc ta tc ea ec,ad=some ⟨g,o,none⟩/\F g/\w.cell? ⟨g,o+i*10,none⟩=some (.int .i64 l[i].kind)/\w.cell? ⟨g,o+i*10+1,none⟩=some (.string l[i].reg)/\w.cell? ⟨g,o+i*10+2,none⟩=some (.string l[i].name) ∧
   w.cell? ⟨g,o+i*10+3,none⟩=some (.int .i64 l[i].ex.kind)/\w.cell? ⟨g,o+i*10+4,none⟩=some (.int .i64 l[i].ex.num)/\w.cell? ⟨g,o+i*10+5,none⟩=some (.string l[i].ex.nm) ∧
   w.cell? ⟨g,o+i*10+6,none⟩=some (.slice xa l[i].ex.args.length xc)/\w.cell? ⟨g,o+i*10+7,none⟩=some (.int .i64 l[i].count)/\w.cell? ⟨g,o+i*10+8,none⟩=some (.slice ta l[i].thn.length tc) ∧
   w.cell? ⟨g,o+i*10+9,none⟩=some (.slice ea l[i].els.length ec)/\zR w F l[i].ex.args xa/\zx w F l[i].thn ta/\zx w F l[i].els ea:=by
 obtain⟨css,h0,h1⟩:=h;obtain⟨xa,xc,ta,tc,ea,ec,e,h2,h3,h4⟩:=(h1 i l[i] (yL hi)).cells;obtain⟨g,o,e1,hg,hl,hs⟩:=h0 i hi;rw[e] at hs;exact⟨g,o,xa,xc,ta,tc,ea,ec,e1,hg,hs 0 _ rfl,hs 1 _ rfl,hs 2 _ rfl,hs 3 _ rfl,hs 4 _ rfl,hs 5 _ rfl,hs 6 _ rfl,hs 7 _ rfl,hs 8 _ rfl,hs 9 _ rfl,h2,h3,h4⟩
def stV(x:St)(xa:Option Addr)(xc:Nat)(ta:Option Addr)(tc:Nat)(ea:Option Addr)(ec:Nat):Value:=
 .agg #[x.kind,x.reg,x.name,x.ex.kind,x.ex.num,x.ex.nm,.slice xa x.ex.args.length xc,x.count,.slice ta x.thn.length tc,.slice ea x.els.length ec]
theorem zM{w:World}{base e size n:Nat}{v:Value}{xs:List Value}(h:w.ownsRow base e size v n xs){kb:Nat}(hv:v.ownBlock=some kb):kb<w.heap.size:=by
 rcases h.2 with⟨rfl,_⟩|⟨g,cap,cur,rfl,_,hg,_⟩
 ·simp[Value.ownBlock] at hv
 ·simp[Value.ownBlock] at hv
  subst hv;exact lt_of_block hg
abbrev zA5(α:Type):=World->(Nat->Prop)->α->List Value->Prop
structure zAU{α:Type}(R:zA5 α)(sz:Nat):Prop where
 keeps:∀{S F:Nat->Prop}{w w':World}{x:α}{cs:List Value},R w F x cs->Keeps S w w'->(∀k,F k->¬S k)->R w' F x cs
 mono:∀{F F':Nat->Prop}{w:World}{x:α}{cs:List Value},R w F x cs->(∀k,F k->F' k)->R w F' x cs
 len:∀{F:Nat->Prop}{w:World}{x:α}{cs:List Value},R w F x cs->cs.length=sz
def zB1(G:Nat->Prop)(B:Nat)(w:World)(v:Value)(k:Nat):Prop:=G k\/(B<=k/\k<w.heap.size/\v.ownBlock≠some k)
def Acc{α:Type}(R:zA5 α)(G:Nat->Prop)(B sz:Nat)(ty:TypeId)(w:World)(v:Value)(xs:List α)(css:List (List Value)):Prop:=
 css.length=xs.length/\w.ownsRow 0 ty sz v xs.length css.flatten/\(∀kb,v.ownBlock=some kb->B<=kb)/\(∃ad cap,v=.slice ad xs.length cap)/\∀(i:Nat)(x:α)(cs:List Value),xs[i]?=some x->css[i]?=some cs->R w (zB1 G B w v) x cs
section
variable {α:Type} {R:zA5 α} {G:Nat->Prop} {B sz:Nat} {ty:TypeId} {w w':World} {v:Value} {xs:List α} {css:List (List Value)}
theorem Acc.nil(w:World):Acc R G B sz ty w (.slice none 0 0) [] []:=
 ⟨rfl,World.ownsRow_nil _ _ _ _,λkb e=>by exact J170 _,⟨none,0,rfl⟩,λi x cs e=>by simp at e⟩
theorem Acc.keeps(L:zAU R sz)(h:Acc R G B sz ty w v xs css){S:Nat->Prop}(hk:Keeps S w w')(hS:∀k,S k->k<B/\¬G k):Acc R G B sz ty w' v xs css:=by
 obtain⟨h1,h2,h3,h4,h5⟩:=h;refine⟨h1,zD h2 hk (λk e hs=>?_),h3,h4,λi x cs e1 e2=>?_⟩
 ·have:=h3 k e;have:=(hS k hs).1;omega
 ·refine L.mono (L.keeps (h5 i x cs e1 e2) hk (λk hf hs=>?_)) (λk hf=>?_)
  ·rcases hf with hf|⟨hf,_,_⟩
   ·exact(hS k hs).2 hf
   ·have:=(hS k hs).1;omega
  ·exact J115 _
theorem Acc.zG(L:zAU R sz)(h:Acc R G B sz ty w v xs css)(hk:Keeps zA w w'):Acc R G B sz ty w' v xs css:=h.keeps L hk (λk h=>h.elim)
theorem Acc.push(L:zAU R sz)(h:Acc R G B sz ty w v xs css)(hG:∀k,G k->k<B)(hB:B<=w.heap.size){x:α}{cs:List Value}{ad:Option Addr}{cap:Nat}(hx:R w (zB1 G B w v) x cs)(hsz:0<sz)
 (ha:zn w 0 ty sz v (xs.length+1) (css.flatten++cs) ad cap w'):Acc R G B sz ty w' (.slice ad (xs.length+1) cap) (xs++[x]) (css++[cs]):=by
 obtain⟨h1,h2,h3,h4,h5⟩:=h;obtain⟨a1,a2,a3⟩:=ha;have hk:Keeps (λq=>v.ownBlock=some q) w w':=xD ⟨a1,a2,a3⟩ (yB _ _) (λq e _=>e);have hnew:∀kb,(Value.slice ad (xs.length+1) cap).ownBlock=some kb->v.ownBlock=some kb\/kb=w.heap.size:=a3
 have key:∀y ds,R w (zB1 G B w v) y ds->R w' (zB1 G B w' (.slice ad (xs.length+1) cap)) y ds:=λy ds hy=>by
  refine L.mono (L.keeps hy hk (λk hf hs=>?_)) (λk hf=>?_)
  ·rcases hf with hf|⟨_,_,h7⟩
   ·have:=h3 k hs;have:=hG k hf;omega
   ·exact h7 hs
  ·rcases hf with hf|⟨hf,h6,h7⟩
   ·exact .inl hf
   ·refine .inr ⟨hf,yH h6 hk.size,λe=>?_⟩
    rcases hnew k e with h8|h8
    ·exact h7 h8
    ·omega
 refine⟨by simp[h1],?_,λkb e=>?_,⟨ad,cap,by simp⟩,λi y ds e1 e2=>?_⟩
 ·have e:(css++[cs]).flatten=css.flatten++cs:=by simp
  rw[e,xC,List.length_singleton];exact a1
 ·rcases hnew kb e with h8|h8
  ·exact h3 kb h8
  ·omega
 ·rcases xR i xs.length with hi|hi
  ·rw[xL hi] at e1
   rw[xL (by omega)] at e2;exact key y ds (h5 i y ds e1 e2)
  ·have hi2:i=xs.length:=by
    have:=(yP.1 e1).1
    simp at this
    omega
   subst hi2;have e1':x=y:=by rw[xI (yT _),Nat.sub_self] at e1;simpa using e1
   have e2':cs=ds:=by rw[xI (by omega)] at e2;simpa [h1] using e2
   subst e1' e2';exact key x cs hx
theorem Acc.elems(L:zAU R sz)(h:Acc R G B sz ty w v xs css){ad:Option Addr}{n cap:Nat}(hv:v=.slice ad n cap):
 zBa w (λk=>G k\/(B<=k/\k<w.heap.size)) sz xs.length ad (λi=>css.getD i [])/\∀(i:Nat)(x:α),xs[i]?=some x->R w (λk=>G k\/(B<=k/\k<w.heap.size)) x (css.getD i []):=by
 obtain⟨h1,h2,h3,h4,h5⟩:=h
 have hc:∀i,i<xs.length->css[i]?=some (css.getD i []):=λi hi=>by
  rw[yL (by omega)];simp[List.getD,show i<css.length by omega]
 have hR:∀(i:Nat)(x:α),xs[i]?=some x->R w (zB1 G B w v) x (css.getD i []):=λi x e=>h5 i x _ e (hc i (yP.1 e).1)
 refine⟨λi hi=>?_,λi x e=>L.mono (hR i x e) (λk hf=>?_)⟩
 ·rcases h2.2 with⟨_,hn⟩|⟨g,cap',cur,hv',hr⟩
  ·omega
  ·have hv2:v=.slice (some ⟨g,0,none⟩) xs.length cap':=hv'
   rw[hv] at hv2;obtain⟨rfl,_,_⟩:ad=some ⟨g,0,none⟩/\n=xs.length/\cap=cap':=by simpa using hv2
   have hlen:(css.getD i []).length=sz:=L.len (hR i xs[i] (yL hi))
   have hall:∀ds,ds∈css->ds.length=sz:=λds hds=>by
    obtain⟨j,hj,e⟩:=List.mem_iff_getElem.1 hds;have hj2:j<xs.length:=by omega
    have:=L.len (h5 j xs[j] ds (yL hj2) (by rw[yL hj,e]))
    exact this
   have hg:g<w.heap.size:=zM h2 (by rw[hv'];rfl);refine⟨g,0,rfl,.inr ⟨h3 g (by rw[hv'];rfl),hg⟩,hlen,λj u hj=>?_⟩
   rw[hv'] at h2;have hr:=uB h2;have hj2:j<sz:=by rw[<-hlen];exact(yP.1 hj).1
   rw[xA];refine hr.cell ?_
   have hfm:css.flatten=css.flatMap id:=by simp[List.flatMap_id]
   have key:∀(l:List (List Value))(i j:Nat),(∀ds,ds∈l->ds.length=sz)->j<sz->l.flatten[i*sz+j]?=(l[i]?).bind λds=>ds[j]?:=by
    intro l
    induction l with
    | nil=>intro i j _ _;simp
    | cons x r ih =>
      intro i j hl hj
      rw[List.flatten_cons];have hx:=hl x (vW ..);cases i with
      | zero=>rw[Nat.zero_mul,xA,xL (by omega)];simp
      | succ i =>
        have e:(i+1)*sz+j=x.length+(i*sz+j):=by rw[hx,uY];omega
        rw[e,xI (by omega),Nat.add_sub_cancel_left,ih i j (λds h=>hl ds (vG _ h)) hj];simp
   rw[key css i j hall hj2,hc i hi];exact hj
 ·rcases hf with hf|⟨hf,h6,_⟩
  ·exact .inl hf
  ·exact .inr ⟨hf,h6⟩
end
theorem zIy:zAU zBL 4:=⟨λh=>h.keeps,λh=>h.mono,λh=>h.len⟩
theorem zJo:zAU zCA 10:=⟨λh=>h.keeps,λh=>h.mono,λh=>h.len⟩
def zAz(L:List (Option Value))(Sp:Nat->Value->World->Prop)(j:Nat)(v:Value)(W:World):Prop:=
 match L[j]? with
 | some (some u)=>v=u
 | _=>Sp j v W
theorem zAz.st{L:List (Option Value)}{Sp:Nat->Value->World->Prop}(hs:∀j v W W',Sp j v W->Keeps zA W W'->Sp j v W')(j:Nat)(v:Value)(W W':World)(h:zAz L Sp j v W)(hk:Keeps zA W W'):zAz L Sp j v W':=by
 unfold zAz at *;split at h
 ·exact h
 ·exact hs _ _ _ _ h hk
theorem take_at{α:Type}{l:List α}{i:Nat}(h:i<l.length):l.take (i+1)=l.take i++[l[i]]:=by rw[List.take_add_one,yL h];rfl
def zJ(l:List Oper)(vs:Nat->Value)(a:Act):Nat->Act
 | 0=>a
 | n+1=>(zJ l vs a n).put ((l[n]?).bind (·.dst)) (vs n)
theorem zEr{l:List Oper}{vs us:Nat->Value}{a:Act}:∀n,(∀j,j<n->vs j=us j)->zJ l vs a n=zJ l us a n
 | 0,_=>rfl
 | n+1,h=>by
   unfold zJ;rw[zEr n (λj hj=>h j (by omega)),h n (by omega)]
theorem zOw(a:Act)(d:Option Tmp)(u v:Value):(a.put d u).put d v=a.put d v:=by
 cases d with
 | none=>rfl
 | some d=>simp[Act.put]
def zCC(l:List Oper)(n:Nat):Bool:=
 (List.range n).all λi=>(List.range n).all λj=>decide (i=j) || ((l[i]?).bind (·.dst)).isNone || decide ((l[i]?).bind (·.dst)≠(l[j]?).bind (·.dst))
theorem zG0{l:List Oper}{n:Nat}(h:zCC l n=true){i j:Nat}(hi:i<n)(hj:j<n)(hne:i≠j):∀d,(l[i]?).bind (·.dst)=some d->(l[j]?).bind (·.dst)≠some d:=by
 intro d hd
 have h1:=xB.1 (xB.1 h i (xT.2 hi)) j (xT.2 hj);simp only[kD,yV,hne,false_or,hd,Option.isNone_some,Bool.false_eq_true] at h1;exact λe=>h1 e.symm
theorem zBO{l:List Oper}{a:Act}{i:Nat}(v:Value):∀(n:Nat)(vs:Nat->Value),i<n->zCC l n=true->(∀m,m<=n->zCC l m=true) →
 (zJ l vs a n).put ((l[i]?).bind (·.dst)) v=zJ l (λj=>if j=i then v else vs j) a n
 | 0,vs,h,_,_=>absurd h (Nat.not_lt_zero _)
 | n+1,vs,h,hd,hall=>by
   unfold zJ;by_cases e:n=i
   ·subst e
    rw[zOw,if_pos rfl];congr 1
    exact zEr n (λj hj=>by rw[if_neg (by omega)])
   ·rw[if_neg e,<-zBO v n vs (by omega) (hall n (by omega)) (λm hm=>hall m (by omega))]
    exact Act.put_comm _ _ _ (zG0 hd (by omega) (by omega) e)
theorem zMa(a:Act)(d:Option Tmp):a.put d (match d with|some s=>a.tmps.getD s undef|none=>undef)=a:=by
 cases d with
 | none=>rfl
 | some s =>
   obtain⟨t,df⟩:=a;simp only[Act.put,Act.mk.injEq,and_true];apply Array.ext
   ·simp
   ·intro k h1 h2
    by_cases e:s=k
    ·subst e;simp[h2]
    ·exact Array.getElem_setIfInBounds_ne h2 e
def slotsOf(l:List Oper)(a:Act)(j:Nat):Value:=match (l[j]?).bind (·.dst) with|some s=>a.tmps.getD s undef|none=>undef
theorem zBx(l:List Oper)(a:Act):∀n,zJ l (slotsOf l a) a n=a
 | 0=>rfl
 | n+1=>by
   unfold zJ;rw[zBx l a n];exact zMa a _
def zBp(listed:Array Bool):Nat->Nat
 | 0=>0
 | n+1=>zBp listed n+(if listed.getD n true=true then 0 else 1)
theorem zCT{listed:Array Bool}{i:Nat}(hi:listed.getD i true=false):∀n,zBp (listed.setIfInBounds i true) n+(if i<n then 1 else 0)=zBp listed n
 | 0=>rfl
 | n+1=>by
   have ih:=zCT hi n;unfold zBp;by_cases e:i=n
   ·subst e
    have h2:(listed.setIfInBounds i true).getD i true=true:=by
     by_cases hs:i<listed.size
     ·simp[hs]
     ·simp[hs]
    rw[hi,h2];simp at ih ⊢
    exact ih
   ·rw[uJ true e]
    by_cases hl:i<n
    ·rw[if_pos hl] at ih;rw[if_pos (by omega:i<n+1)];omega
    ·rw[if_neg hl] at ih;rw[if_neg (by omega:¬i<n+1)];omega
theorem zCE{listed:Array Bool}:∀n,zBp listed n=0->∀i,i<n->listed.getD i true=true
 | 0,_,_,h=>absurd h (Nat.not_lt_zero _)
 | n+1,h,i,hi=>by
   unfold zBp at h;by_cases e:i=n
   ·subst e
    by_cases h2:listed.getD i true=true
    ·exact h2
    ·rw[if_neg h2] at h;omega
   ·exact zCE n (by omega) i (by omega)
theorem zBN{listed:Array Bool}:∀n,zBp listed n≠0->∃i,i<n/\listed.getD i true=false/\∀j,j<i->listed.getD j true=true
 | 0,h=>absurd rfl h
 | n+1,h=>by
   by_cases h0:zBp listed n=0
   ·refine⟨n,by omega,?_,zCE n h0⟩
    unfold zBp at h;rw[h0] at h;by_cases h2:listed.getD n true=true
    ·rw[if_pos h2] at h;omega
    ·simpa using h2
   ·obtain⟨i,h1,h2,h3⟩:=zBN n h0
    exact⟨i,by omega,h2,h3⟩
def zKu(md:Region.Mode)(l:List Oper)(n:Nat):Bool:=
 (List.range n).all λi=>((l[i]?).map λo=>o.after.all λe=>!Region.binds md e || decide (e.on<i)).getD true
def zo(n g:Nat):Array Bool:=(List.replicate n true++List.replicate g false).toArray
def zHm(md:Region.Mode)(l:List Oper)(n:Nat):Bool:=
 decide (n<l.length)&&Region.sinkB md l.toArray n&&Region.chainB md l.toArray n&&zKu md l n&&((List.range (n+1)).all λm=>zCC l m)&&Region.seqB md l.toArray (l.length-n) n (zo n (l.length-n))
section
variable {P:Program}
def zRw(Q:Exit->Act->World->Prop)(K:Act->World->Prop):Exit->Act->World->Prop
 | .normal,a,w=>K a w
 | e,a,w=>Q e a w
theorem zPG{o:Oper}{a:Act}{w:World}{K:Act->World->Prop}{Q:Exit->Act->World->Prop}(h:o.wp P a w K (zRw Q K)):o.wp P a w K Q:=by
 unfold Oper.wp at *;generalize (execOp a.eval o).run P w=r at *;cases r with
 | ok n w' =>
   cases n <;> simp only[Oper.upon] at h ⊢ <;>
    first
     | exact h
     | exact Calls.mono h (λe w'' he=>by cases e <;> exact he)
 | halt x w'=>cases x <;> simp only[Oper.upon] at h ⊢ <;> exact h
theorem zB0{ops:Array Oper}{o:Oper}{i:Nat}{a:Act}{w:World}{K:Act->World->Prop}{Q:Exit->Act->World->Prop}(hi:ops[i]?=some o)(h:wpList P ops (zRw Q K) [o] a w):wpOp P ops Q i K a w:=by
 unfold wpOp;simp only[hi];unfold wpList at h;split
 ·rename_i hw
  rw[if_pos hw] at h;rcases h with h|⟨h1,h2⟩
  ·exact .inl (zPG h)
  ·exact .inr ⟨h1,h2⟩
 ·rename_i hw
  rw[if_neg hw] at h;exact h
theorem zW{id:Nat}{Q:Exit->Act->World->Prop}{a:Act}{w:World}{l:List Oper}(n:Nat)(hm:P.follows .mixedOrders=true)(hB:zHm .any l n=true)
 (R:World->World->Prop) (hrefl:∀w,R w w) (htrans:∀a b c,R a b->R b c->R a c) (F:Nat->Value->World->Prop) (hst:∀j v W W',F j v W->R W W'->F j v W')
 (hstep:∀i o,i<n->l[i]?=some o->∀(vs:Nat->Value)(W:World)(Q':Exit->Act->World->Prop),R w.drew W->(∀j,(o.after.any λe=>Region.binds .any e&&decide (e.on=j))=true->F j (vs j) W) →
   (∀v W',R W W'->F i v W'->Q' .normal ((zJ l vs a n).put o.dst v) W')->wpList P l.toArray Q' [o] (zJ l vs a n) W)
 (htail:∀(vs:Nat->Value)(W:World),R w.drew W->(∀j,j<n->F j (vs j) W)->wpList P l.toArray Q (l.drop n) (zJ l vs a n) W):(Code.region id l.toArray true).wp P Q a w:=by
 simp only[zHm,yS,yV,xB,xT] at hB;obtain⟨⟨⟨⟨⟨hn,hs⟩,hc⟩,hback⟩,hdis⟩,hseq⟩:=hB
 have key:∀(f:Nat)(listed:Array Bool)(vs:Nat->Value)(W:World),HeadInv .any l.toArray n listed->zBp listed n=f->R w.drew W->(∀j,j<n->listed.getD j true=true->F j (vs j) W) →
  wpAny P .any l.toArray Q (f+(l.length-n)) listed (zJ l vs a n) W:=by
  intro f
  induction f with
  | zero =>
    intro listed vs W inv hcnt hR hF
    have hall:=zCE n hcnt
    have he:listed=zo n (l.length-n):=by
     exact J10 _
    have h1:=htail vs W hR (λj hj=>hF j hj (hall j hj));have hdl:(l.drop n).length=l.length-n:=by simp
    have:=wpAny_of_seq (P:=P) (md:=.any) (ops:=l.toArray) (Q':=Q) (l.drop n) n listed (zJ l vs a n) W (λj=>by simp[kV]) (by rw[hdl,he];exact hseq) h1
    rw[hdl] at this;rw[xA];exact this
  | succ f ih =>
    intro listed vs W inv hcnt hR hF
    obtain⟨i0,hi0,hu0,hb0⟩:=zBN n (by omega:zBp listed n≠0)
    have hr0:i0∈Region.ready .any l.toArray listed:=by
     exact J13 _
    rw[show f+1+(l.length-n)=(f+(l.length-n))+1 by omega];refine⟨λh0=>by exact J198 _,λi hi=>?_⟩
    have hin:i<n:=by
     exact J104 _
    have hun:=(uW.1 hi).1;obtain⟨_,o,ho,hafter⟩:=uW.1 hi;have ho':l[i]?=some o:=by simpa using ho
    refine zB0 ho (hstep i o hin ho' vs W _ hR (λj hj=>?_) (λv W' hR' hF'=>?_))
    ·exact J11 _
    ·exact J33 _
 refine wp_region_any hm ?_
 have inv0:HeadInv .any l.toArray n (Array.replicate l.toArray.size false):=
  ⟨by simp,λj oj _ hl=>(J200 _),λt _ ht=>getD_in (by simpa using ht) (vH _ _)⟩
 have hcn:∀m,m<=l.length->zBp (Array.replicate l.toArray.size false) m=m:=by
  exact J26 _
 have:=key n (Array.replicate l.toArray.size false) (slotsOf l a) w.drew inv0 (hcn n (by omega)) (hrefl _) (λj hj hl=>by
  have h1:j<l.length:=by omega
  have:(Array.replicate l.toArray.size false).getD j true=false:=by simp[h1]
  rw[this] at hl;cases hl)
 rw[zBx l a n,show n+(l.length-n)=l.toArray.size by simp;omega] at this;exact this
end
section
variable {P:Program}
def zMt(md:Region.Mode)(ops:Array Oper)(n:Nat):Bool:=
 (List.range n).all λi=>decide (i=0) || (List.range (n+1)).any λj=>decide (i<j)&&Region.waitsFor md ops j i
theorem zJl{md:Region.Mode}{ops:Array Oper}{n:Nat}{listed:Array Bool}(hs:zMt md ops n=true)(hc:Region.chainB md ops n=true)(hn:n<ops.size)(inv:HeadInv md ops n listed)(hl0:listed.getD 0 true=true):
 ∀(d i:Nat),n-i=d->1<=i->i<n->listed.getD i true=false->∀t,n<=t->t∉Region.ready md ops listed:=by
 intro d
 induction d using Nat.strongRecOn with
 | _ d ih =>
   intro i hd hi1 hi hun t ht hr
   obtain⟨_,ot,hot,hall⟩:=uW.1 hr;have htlt:t<ops.size:=(Array.getElem?_eq_some_iff.1 hot).1;by_cases htn:t=n
   ·subst htn
    have h1:=xB.1 hs i (xT.2 hi);simp only[kD,yV] at h1;rcases h1 with h1|h1
    ·omega
    obtain⟨j,hj,hj2⟩:=List.any_eq_true.1 h1;simp only[yS,yV] at hj2;obtain⟨oj,hoj,e,he,hb,hon⟩:=Region.waitsFor_spec hj2.2;have hjle:j<=t:=by have:=xT.1 hj;omega
    by_cases hjt:j=t
    ·subst hjt
     have:oj=ot:=yi (hoj.symm.trans hot)
     subst this;have h2:=hall e he hb;rw[hon,getD_both hun] at h2;cases h2
    ·cases hl:listed.getD j false with
     | true =>
       have h2:=inv.closed j oj hoj hl e he hb;rw[hon,getD_both hun] at h2;cases h2
     | false =>
       have hjs:j<listed.size:=by rw[inv.size];omega
       exact ih (t-j) (by omega) j rfl (by omega) (by omega) (getD_in hjs hl) t (yT _) hr
   ·exact J24 _
def zK6(md:Region.Mode)(l:List Oper)(n:Nat):Bool:=
 decide (n<l.length)&&decide (1<=n)&&zMt md l.toArray n&&Region.chainB md l.toArray n&&zKu md l n&&((List.range (n+1)).all λm=>zCC l m)&&Region.seqB md l.toArray (l.length-n) n (zo n (l.length-n)) &&
  Region.free md l.toArray (Array.replicate l.toArray.size false) 0&&(Region.ready md l.toArray (Array.replicate l.toArray.size false)).contains 0&&Region.noSelect l.toArray
theorem zFN{id:Nat}{Q:Exit->Act->World->Prop}{a:Act}{w:World}{l:List Oper}(n:Nat)(hm:P.follows .mixedOrders=true)(hB:zK6 .any l n=true)(o0:Oper)(v0:Value)(ho0:l[0]?=some o0)(hy0:Yields P l.toArray o0 v0 a)(hQ:∀c a w,Q (.panic c) (a.put o0.dst v0) w->Q (.panic c) a w)
 (R:World->World->Prop) (hrefl:∀w,R w w) (htrans:∀a b c,R a b->R b c->R a c) (F:Nat->Value->World->Prop) (hst:∀j v W W',F j v W->R W W'->F j v W')
 (hF0:∀W,F 0 v0 W) (hstep:∀i o,1<=i->i<n->l[i]?=some o->∀(vs:Nat->Value)(W:World)(Q':Exit->Act->World->Prop),R w.drew W->(∀j,(o.after.any λe=>Region.binds .any e&&decide (e.on=j))=true->F j (vs j) W) →
   (∀v W',R W W'->F i v W'->Q' .normal ((zJ l vs a n).put o.dst v) W')->wpList P l.toArray Q' [o] (zJ l vs a n) W)
 (htail:∀(vs:Nat->Value)(W:World),R w.drew W->(∀j,j<n->F j (vs j) W)->wpList P l.toArray Q (l.drop n) (zJ l vs a n) W):(Code.region id l.toArray true).wp P Q a w:=by
 simp only[zK6,yS,yV,xB,xT] at hB;obtain⟨⟨⟨⟨⟨⟨⟨⟨⟨hn,hn1⟩,hs⟩,hc⟩,hback⟩,hdis⟩,hseq⟩,hfr⟩,hrd⟩,hsel⟩:=hB
 have key:∀(f:Nat)(listed:Array Bool)(vs:Nat->Value)(W:World),HeadInv .any l.toArray n listed->listed.getD 0 true=true->zBp listed n=f->R w.drew W->(∀j,j<n->listed.getD j true=true->F j (vs j) W) →
  wpAny P .any l.toArray Q (f+(l.length-n)) listed (zJ l vs a n) W:=by
  intro f
  induction f with
  | zero =>
    intro listed vs W inv hl0 hcnt hR hF
    have hall:=zCE n hcnt
    have he:listed=zo n (l.length-n):=by
     exact J10 _
    have h1:=htail vs W hR (λj hj=>hF j hj (hall j hj));have hdl:(l.drop n).length=l.length-n:=by simp
    have:=wpAny_of_seq (P:=P) (md:=.any) (ops:=l.toArray) (Q':=Q) (l.drop n) n listed (zJ l vs a n) W (λj=>by simp[kV]) (by rw[hdl,he];exact hseq) h1
    rw[hdl] at this;rw[xA];exact this
  | succ f ih =>
    intro listed vs W inv hl0 hcnt hR hF
    obtain⟨i0,hi0,hu0,hb0⟩:=zBN n (by omega:zBp listed n≠0)
    have hr0:i0∈Region.ready .any l.toArray listed:=by
     exact J13 _
    rw[show f+1+(l.length-n)=(f+(l.length-n))+1 by omega];refine⟨λh0=>by exact J198 _,λi hi=>?_⟩
    have hin:i<n:=by
     rcases xR i n with h|h
     ·exact h
     ·exact absurd hi (zJl hs hc (by simpa using hn) inv hl0 _ i0 rfl (by rcases uM i0 with e|e;subst e;rw[hl0] at hu0;cases hu0;exact e) hi0 hu0 i h)
    have hun:=(uW.1 hi).1;have hi1:1<=i:=by rcases uM i with e|e;subst e;rw[hl0] at hun;cases hun;exact e
    obtain⟨_,o,ho,hafter⟩:=uW.1 hi;have ho':l[i]?=some o:=by simpa using ho
    refine zB0 ho (hstep i o hi1 hin ho' vs W _ hR (λj hj=>?_) (λv W' hR' hF'=>?_))
    ·exact J11 _
    ·have hd:o.dst=(l[i]?).bind (·.dst):=by rw[ho'];rfl
     show wpAny P .any l.toArray Q (f+(l.length-n)) (listed.setIfInBounds i true) ((zJ l vs a n).put o.dst v) W'
     rw[hd,zBO v n vs hin (hdis n (by omega)) (λm hm=>hdis m (by omega))];refine ih _ _ _ (inv.set hi hin) (by rw[uJ true (by omega)];exact hl0) ?_ (htrans _ _ _ hR hR') (λj hj hl=>?_)
     ·exact J74 _
     ·by_cases e:j=i
      ·subst e;rw[if_pos rfl];exact hF'
      ·rw[if_neg e]
       rw[uJ true (λh=>e h.symm)] at hl;exact hst j _ _ _ (hF j hj hl) hR'
 refine wp_region_any hm ?_
 have inv0:HeadInv .any l.toArray n (Array.replicate l.toArray.size false):=
  ⟨by simp,λj oj _ hl=>(J200 _),λt _ ht=>getD_in (by simpa using ht) (vH _ _)⟩
 have hcn:∀m,m<=l.length->zBp (Array.replicate l.toArray.size false) m=m:=by
  exact J26 _
 have ho0':l.toArray[0]?=some o0:=by simpa using ho0
 have hr0:(0:Nat)∈Region.ready .any l.toArray (Array.replicate l.toArray.size false):=by simpa using hrd
 have hu0:=(uW.1 hr0).1;have hs1:l.toArray.size=(l.toArray.size-1)+1:=by simp;omega
 rw[hs1,<-hs1];have hfree:∀j oj,l.toArray[j]?=some oj->j≠0->(Array.replicate l.toArray.size false).getD j true=false->(∀e∈oj.after,Region.binds .any e=true->e.on≠0)->o0.apart l.toArray oj=true:=Region.free_spec ho0' hfr
 have key1:=key (n-1) ((Array.replicate l.toArray.size false).setIfInBounds 0 true) (λj=>if j=0 then v0 else slotsOf l a j) w.drew (inv0.set hr0 (by omega)) (by
  have:0<l.length:=by omega
  simp[this]) (by
  have h1:=zCT hu0 n;rw[if_pos (by omega),hcn n (by omega)] at h1;omega) (hrefl _) (λj hj hl=>by
  by_cases e:j=0
  ·subst e
   show F 0 (if 0=0 then v0 else _) _
   rw[if_pos rfl];exact hF0 _
  ·rw[uJ true (λh=>e h.symm)] at hl
   have h1:j<l.length:=by omega
   have:(Array.replicate l.toArray.size false).getD j true=false:=by simp[h1]
   rw[this] at hl;cases hl)
 have hput:zJ l (λj=>if j=0 then v0 else slotsOf l a j) a n=a.put o0.dst v0:=by
  have h1:=zBO (l:=l) (a:=a) (i:=0) v0 n (slotsOf l a) (by omega) (hdis n (by omega)) (λm hm=>hdis m (by omega));rw[zBx] at h1;rw[<-h1,ho0];rfl
 rw[hput] at key1;rw[show n-1+(l.length-n)=l.toArray.size-1 by simp;omega] at key1;have:=wpAny_first (P:=P) (ops:=l.toArray) (Q:=Q) (md:=.any) ho0' (Region.noSelect_spec hsel) hQ (l.toArray.size-1) (Array.replicate l.toArray.size false) a w.drew hfree hr0 hy0 key1
 rw[<-hs1] at this;exact this
end
