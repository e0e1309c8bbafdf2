/- Layer D: texts joined. -/
import Derived.Test.YtoapgjjepiopbaaGreatDoorD36
import Derived.Test.YtoapgjjepiopbaaGreatDoorD37
set_option linter.all false
set_option maxHeartbeats 8000000
set_option maxRecDepth 8000
namespace Go.Proofs.YtoapgjjepiopbaaGreatDoor
open Go.RowKit
theorem J99(P:Prop) (h:P:=by
 obtain⟨ad,cap,e,h1⟩:=h;refine⟨ad,cap,e,λk hk=>?_⟩
 obtain⟨g,o,e1,h2⟩:=h1 (by omega);exact⟨g,o,e1,h2 k _ (zAB xs k hk)⟩):P:=h
structure zC8(w:World)(F:Nat->Prop)(cs:List Int)(bs:List Bd)(uca uta:Option Addr):Prop where
 nums:zAw w F cs uca
 bds:zBy w F bs uta
 low:∀k,F k->k<w.heap.size
 kinds:∀b,b∈bs->Ac.zBe b.acts
 sz:zAj bs<900000000
 l1:cs.length<1000000000
 l2:bs.length<1000000000
theorem zC8.keeps{S F:Nat->Prop}{w w':World}{cs:List Int}{bs:List Bd}{uca uta:Option Addr}(h:zC8 w F cs bs uca uta)(hk:Keeps S w w')(hS:∀k,F k->¬S k):zC8 w' F cs bs uca uta:=
 ⟨h.nums.keeps hk hS,h.bds.keeps hk hS,λk e=>yH (h.low k e) hk.size,h.kinds,h.sz,h.l1,h.l2⟩
theorem zC8.zG{F:Nat->Prop}{w w':World}{cs:List Int}{bs:List Bd}{uca uta:Option Addr}(h:zC8 w F cs bs uca uta)(hk:Keeps zA w w'):zC8 w' F cs bs uca uta:=h.keeps hk (λ_ _ h=>h)
structure zBD(R:zA5 WFr)(sz:Nat)(ty:TypeId)(B:zC0)(D N:Nat->Prop)(w:World)(b:Nat)(u:Un)(m:zy):Prop where
 L:zAU R sz
 LB:BOk B
 low:∀q,N q->q<w.heap.size
 right:zX u=true
 ok:m.ok u
 idle:m.idle
 ex:∃T F p H,MaP R sz ty B w T F 0 b u p m H/\(∀q,zAk T 0 q->¬N q)/\∀q,F q->D q\/¬N q
abbrev zD8:=zBD zm 1 148 zBk (λ_=>False)
section
variable {R:zA5 WFr} {sz:Nat} {ty:TypeId} {B:zC0} {D N N' S:Nat->Prop} {w w':World} {b:Nat} {u:Un} {m:zy}
theorem zBD.mono(h:zBD R sz ty B D N w b u m)(hN:∀q,N' q->N q):zBD R sz ty B D N' w b u m:=by
 obtain⟨T,F,p,H,h1,h2,h3⟩:=h.ex;exact⟨h.L,h.LB,λq hq=>h.low q (hN q hq),h.right,h.ok,h.idle,T,F,p,H,h1,λq hq e=>h2 q hq (hN q e),λq hq=>(h3 q hq).imp (λh=>h) λh e=>h (hN q e)⟩
theorem zBD.lt(h:zBD R sz ty B D N w b u m){T:zZ}{F:Nat->Prop}{p:zB8}{H:List HTh}(h1:MaP R sz ty B w T F 0 b u p m H){q:Nat}(hq:zAk T 0 q\/F q):q<w.heap.size:=by
 rcases hq with hq|hq
 ·obtain⟨t,e⟩:=hq
  exact h1.zP.sep.ok q _ e
 ·exact h1.zP.sep.low q hq
theorem zBD.zNo(h:zBD R sz ty B D N w b u m)(hk:Keeps S w w')(hS:∀q,S q->N q/\¬D q):zBD R sz ty B D (λq=>N q\/(w.heap.size<=q/\q<w'.heap.size)) w' b u m:=by
 obtain⟨T,F,p,H,h1,h2,h3⟩:=h.ex;refine⟨h.L,h.LB,λq hq=>?_,h.right,h.ok,h.idle,T,F,p,H,MaP.keeps h.L h.LB h1 hk (λq hq e=>hq.elim (λg=>h2 q g (hS q e).1) λg=>(h3 q g).elim (hS q e).2 λg=>g (hS q e).1),λq hq e=>?_,λq hq=>(h3 q hq).imp (λh=>h) λg e=>?_⟩
 ·rcases hq with hq|hq
  ·exact yH (h.low q hq) hk.size
  ·exact hq.2
 ·have:=h.lt h1 (.inl hq)
  exact e.elim (h2 q hq) (λe=>by omega)
 ·have:=h.lt h1 (.inr hq)
  exact e.elim g (λe=>by omega)
theorem zBD.zP9(h:zBD R sz ty B D N w b u m)(hk:Keeps S w w')(hS:∀q,S q->N q/\¬D q):zBD R sz ty B D N w' b u m:=(h.zNo hk hS).mono λ_ h=>.inl h
theorem zBD.zG(h:zBD R sz ty B D N w b u m)(hk:Keeps zA w w'):zBD R sz ty B D N w' b u m:=h.zP9 hk λ_ h=>h.elim
theorem zBD.stepped{i:Int}{P:Program}{f:FuncId}{vs:Array Value}(h:zBD R sz ty B D N w b u m)(hc:∀T F p H,MaP R sz ty B w T F 0 b u p m H->Calls P f vs w (zF7 R sz ty B w T F 0 b u p (stepM u m i))):Calls P f vs w λe w'=>e=.returned (.tuple #[evV (stepM u m i).2.1,.int .i64 (stepM u m i).2.2])/\zBD R sz ty B D N w' b u (stepM u m i).1/\Keeps (λq=>¬N q) w w':=by
 obtain⟨T,F,p,H,h1,h2,h3⟩:=h.ex;refine(hc T F p H h1).mono ?_
 rintro e w' ⟨rfl,T',H',g1,g2,g3⟩
 refine⟨rfl,⟨h.L,h.LB,λq hq=>yH (h.low q hq) g3.size,h.right,(zGK h.right h.ok i).1,zKY h.right h.ok h.idle i,T',F,p,H',g1,λq hq e=>?_,h3⟩,g3.mono (λq _ hq=>h2 q hq)⟩
 obtain⟨t,et⟩:=hq;rcases g2.2 q _ et with g4|g4
 ·exact h2 q ⟨t,g4⟩ e
 ·have:=h.low q e;omega
theorem zBD.new{T':zZ}{F:Nat->Prop}{p:zB8}{H:List HTh}(L:zAU R sz)(LB:BOk B)(hr:zX u=true)(h1:MaP R sz ty B w' T' F 0 b u p (zBr u) H)(h2:zAT (λ_=>none) T' 0 w)(hk:Keeps zA w w')(h4:∀q,F q->D q\/w.heap.size<=q):zBD R sz ty B D (λq=>q<w.heap.size) w' b u (zBr u):=by
 refine⟨L,LB,λq hq=>yH hq hk.size,hr,zIE hr,zLf hr,T',F,p,H,h1,λq hq e=>?_,λq hq=>(h4 q hq).imp (λh=>h) λg e=>by have e:q<w.heap.size:=e;omega⟩
 have e:q<w.heap.size:=e;obtain⟨t,et⟩:=hq;rcases h2.2 q _ et with g|g
 ·cases g
 ·omega
theorem zD8.step(h:zD8 N w b u m)(i:Int):Calls Tryz.prog 27 #[.pointer (some ⟨b,0,none⟩),i] w λe w'=>e=.returned (.tuple #[evV (stepM u m i).2.1,.int .i64 (stepM u m i).2.2])/\zD8 N w' b u (stepM u m i).1/\Keeps (λq=>¬N q) w w':=
 h.stepped λ_ _ _ _ h1=>zMk h1 h.right h.ok i
theorem zD8.state(h:zD8 N w b u m):Calls Tryz.prog 30 #[.pointer (some ⟨b,0,none⟩)] w (zNu w m):=by
 obtain⟨T,F,p,H,h1,h2⟩:=h.ex;exact zLj h1 h.right h.ok
theorem zD8.enabled(h:zD8 N w b u m):Calls Tryz.prog 26 #[.pointer (some ⟨b,0,none⟩)] w (zH3 w (zA1 m)):=by
 obtain⟨T,F,p,H,h1,h2⟩:=h.ex;exact zIq h1 h.right h.ok
end
def newR(u:Un):Int:=zB9 (zX u) (unS u.threads) (unW u.threads)
theorem zEf{u:Un}(h:newR u=0):zX u=true:=by
 cases hr:zX u with
 | true=>rfl
 | false=>unfold newR at h;rw[hr] at h;revert h;unfold zB9;simp
section
variable {cs:List Int} {mu:Int} {bs:List Bd} {w:World} {F:Nat->Prop} {uca uta:Option Addr} {ucc utc:Nat}
theorem zC8.within(h:zC8 w F cs bs uca uta):Calls Tryz.prog 6 #[.agg #[.slice uca cs.length ucc,mu,.slice uta bs.length utc]] w λe w'=>e=.returned (.int .i64 (newR ⟨cs,mu,bs⟩))/\Keeps zA w w':=
 zFx cs mu bs w F uca uta ucc utc h.nums h.bds h.low h.kinds h.sz h.l1 h.l2
theorem zC8.zRk(h:zC8 w F cs bs uca uta)(hr:newR ⟨cs,mu,bs⟩=0):Calls Tryz.prog 25 #[.agg #[.slice uca cs.length ucc,mu,.slice uta bs.length utc]] w λe w'=>∃b,e=.returned (.tuple #[.pointer (some ⟨b,0,none⟩),(0:Int)])/\zD8 (λq=>q<w.heap.size) w' b ⟨cs,mu,bs⟩ (zBr ⟨cs,mu,bs⟩)/\Keeps zA w w':=by
 have hR:=zEf hr;refine(zQt (T:=λ_=>none) (id:=0) h.nums h.bds (λk x e=>by cases e) (λk t e=>by cases e) h.sz hR (yA λW hk=>by have g:=(h.zG hk).within (mu:=mu) (ucc:=ucc) (utc:=utc);rw[hr] at g;exact g)).mono ?_
 rintro e w' ⟨b,T',F',p,H,rfl,h1,h2,h3,h4⟩
 exact⟨b,rfl,zBD.new zU zAG hR h1 h2 h3 (λq e=>.inr (h4 q e)),h3⟩
end
theorem zl.ints{w:World}{v:Value}{xs:List Int}(h:zl w v xs.length (ints xs)):∃ad cap,v=.slice ad xs.length cap/\∀k,k<xs.length->∃g o,ad=some ⟨g,o,none⟩/\w.cell? ⟨g,o+k,none⟩=some (.int .i64 (xs.getD k 0)):=by
 exact J99 _
theorem zl.zG{w w':World}{v:Value}{n:Nat}{cs:List Value}(h:zl w v n cs)(hk:Keeps zA w w'):zl w' v n cs:=h.keeps hk (λ_ _ h=>h)
theorem zKQ(a:Int){n:Nat}(h:0<n):Int.tmod (Int.tmod a n+n) n=a % (n:Int) /\ -(n:Int)<Int.tmod a n/\Int.tmod a n<n:=by
 have h1:Int.tmod a n<n:=Int.tmod_lt_of_pos a (by omega)
 have h2:-(n:Int)<Int.tmod a n:=by
  have h3:=Int.tmod_lt_of_pos (-a) (b:=(n:Int)) (by omega);rw[Int.neg_tmod] at h3;omega
 refine⟨?_,h2,h1⟩
 rw[Int.tmod_eq_emod_of_nonneg (by omega),Int.add_emod_right];have e:a % (n:Int)=(Int.tmod a n+(n:Int)*Int.tdiv a n) % (n:Int):=by rw[Int.tmod_add_mul_tdiv]
 rw[e,Int.add_mul_emod_self_left]
theorem zKI(w:World)(ca:Option Addr)(cc:Nat)(ch:List Int)(k n:Nat)(h:zl w (.slice ca ch.length cc) ch.length (ints ch))(hn:0<n)(hn8:n<=1000):
 Calls Tryz.prog 28 #[.slice ca ch.length cc,k,n] w λe w'=>e=.returned (.int .i64 (chN ch k n:Nat))/\w=w':=by
 have n0:(n:Int)≠0:=by omega
 have n1:((n:Int)==0)=false:=xN n0;by_cases hk:k<ch.length
 ·obtain⟨ad,cap,e,hc⟩:=h.ints
  cases e;obtain⟨g,o,rfl,c⟩:=hc k hk
  have HC:Hid (((chN ch k n:Nat):Int)=ch.getD k 0 % (n:Int)):=by
   show _=_
   unfold chN;rw[if_pos hk];have:=Int.emod_nonneg (ch.getD k 0) n0
   omega
  generalize ch.getD k 0=a at c HC;obtain⟨t1,t2,t3⟩:=zKQ a hn;generalize hr:Int.tmod a n=r at t1 t2 t3;have e2:IntKind.i64.wrap (r+(n:Int))=r+n:=vN _ (by omega) (by omega);rw[<-HC.out] at t1;generalize chN ch k n=v at t1 ⊢;have i1:(0:Int)<=k:=by omega
  have i2:(k:Int)<(ch.length:Int):=by omega
  have i3:decide ((ch.length:Int)<=(k:Int))=false:=uK (by omega);clear h hc hn hn8 t2 t3 HC;generalize ch.length=nc at i2 i3 hk ⊢;clear hk;go_enter Tryz.func28,Tryz.ntmps28
  exact J145 _
 ·have e:chN ch k n=0:=by unfold chN;rw[if_neg hk]
  rw[e];have i3:decide ((ch.length:Int)<=(k:Int))=true:=uC (by omega);have i4:(ch.length<=k)=True:=eq_true (by omega);clear h e;generalize ch.length=nc at i3 i4 hk ⊢;clear hk;go_enter Tryz.func28,Tryz.ntmps28
  exact J145 _
def evC(x:Evt):List Value:=[.int .i64 x.thread,.int .i64 x.kind,.int .i64 x.obj,.int .i64 x.value,.int .i64 x.bad]
theorem zLA(x:Evt):(evC x).length=5:=rfl
theorem zKH:(Tryz.prog.info? 67).map (λi=>(i.zero,i.size,i.bytes))=some (some (.agg #[(0:Int),(0:Int),(0:Int),(0:Int),(0:Int)]),5,40):=by kernel_rfl
theorem zKL(w:World)(g n cap:Nat)(hn:n<=cap)(hm:cap<=maxLen):
 Calls Tryz.prog 29 #[.slice (some ⟨g,0,none⟩) n cap] w λe w'=>e=.returned (.slice (some ⟨g,0,none⟩) n n)/\w'=w:=by
 have h1:(0:Int)<=n:=by omega
 have h2:(n:Int)<=cap:=by omega
 have h3:(cap:Int)<=9223372036854775807:=by unfold maxLen at hm;omega
 go_enter Tryz.func29,Tryz.ntmps29
 go_wp2
 go_ret
 exact⟨by simp,rfl⟩
theorem zKM(w:World):
 Calls Tryz.prog 29 #[.slice none 0 0] w λe w'=>e=.returned (.slice none 0 0)/\w'=w:=by
 go_enter Tryz.func29,Tryz.ntmps29
 go_wp2
 go_ret
 exact⟨by simp,rfl⟩
theorem zL6(w:World)(ad:Option Addr)(n cap:Nat)(xs:List Evt)(h:w.ownsRow 0 67 5 (.slice ad n cap) n (xs.flatMap evC)):
 Calls Tryz.prog 29 #[.slice ad n cap] w λe w'=>e=.returned (.slice ad n n)/\w'=w:=by
 rcases h.2 with⟨e,rfl⟩|⟨g,cap',cur,e,_,_,h1,h2,_⟩
 ·cases e;exact zKM w
 ·cases e;exact zKL w g n cap h1 h2
def zLe(w:World)(g:Nat):Nat->List Value->World
 | _,[]=>w
 | k,v :: r=>zLe (w.setCell ⟨g,k,none⟩ v) g (k+1) r
theorem zJU{g:Nat}:(vs:List Value)->(k:Nat)->(w:World)->(cs:List Value)->zB w g cs->k+vs.length=cs.length->zB (zLe w g k vs) g (cs.take k++vs)
 | [],k,w,cs,h,e=>by
   have e':cs.take k=cs:=vP (by simp at e;omega);rw[e',List.append_nil];exact h
 | v :: r,k,w,cs,h,e=>by
   have hk:k<cs.length:=by simp at e;omega
   have:=zJU r (k+1) (w.setCell ⟨g,k,none⟩ v) (cs.set k v) (h.set k hk v) (by simp at e ⊢;omega)
   have e2:(cs.set k v).take (k+1)++r=cs.take k++v :: r:=by
    rw[List.take_add_one,List.take_set_of_le (yT k)];simp[hk]
   rw[e2] at this;exact this
theorem zEd(g:Nat):(vs:List Value)->(k:Nat)->(w:World)->Keeps (λq=>q=g) w (zLe w g k vs)
 | [],_,w=>yB _ _
 | v :: r,k,w=>((yB (λq=>q=g) w).setCell (p:=⟨g,k,none⟩) (λ_=>rfl) v).trans (zEd g r (k+1) _) (λ_ _ h=>h)
theorem zM6{w w2:World}{g:Nat}{cs:List Value}(vs:List Value)(h:zB w2 g cs)(hl:vs.length=cs.length)(hk:Keeps zA w w2)(hg:w.heap.size<=g):zB (zLe w2 g 0 vs) g vs/\Keeps zA w (zLe w2 g 0 vs):=
 ⟨by simpa using zJU vs 0 w2 cs h (by omega),hk.trans (zEd g vs 0 w2) (λq hq e=>absurd hq (by have e':q=g:=e;omega))⟩
theorem zAa{w:World}{g:Nat}{cs:List Value}(r:zB w g cs):∀j,j<cs.length->∀W,Keeps zA w W->W.frozen? ⟨g,j,none⟩=false:=λj hj=>zK (r.free (k:=j) hj) ⟨_,r.cell (yL hj)⟩
theorem zBb.slice{e size n:Nat}{w w':World}{cs:List Value}{v:Value}(h:w'.ownsRow 0 e size v n cs):∃ad cap,v=.slice ad n cap:=by
 rcases h.2 with⟨e1,e2⟩|⟨g,cap,cur,e1,_⟩
 ·exact⟨none,0,by rw[e1,e2]⟩
 ·exact⟨_,cap,e1⟩
theorem zK5{w:World}{e n:Nat}{v:Value}{cs:List Value}{size:Nat}(h:w.ownsRow 0 e size v n cs):zl w v n cs:=(zAV.of (B:=0) h (λ_ _=>yF _)).src
theorem zAV.form{w:World}{B n:Nat}{v:Value}{cs:List Value}(h:zAV w B v n cs):∃ad cap,v=.slice ad n cap:=by obtain⟨ad,cap,e,_⟩:=h;exact⟨ad,cap,e⟩
theorem zl.up{w w':World}{B:Nat}{v:Value}{n:Nat}{cs:List Value}(h:zl w v n cs)(hk:Keeps (λq=>B<=q) w w')(hB:w.heap.size<=B)(hc:cs.length=0->n=0):zl w' v n cs:=by
 obtain⟨ad,cap,rfl,h1⟩:=h;refine⟨ad,cap,rfl,λhn=>?_⟩
 obtain⟨g,o,e,h2⟩:=h1 hn;refine⟨g,o,e,λj u hj=>?_⟩
 have hlt:=yR w _ (h2 j u hj);exact hk.cell (p:=⟨g,o+j,none⟩) (λhb=>by have hb':B<=g:=hb;have hlt':g<w.heap.size:=hlt;omega) (h2 j u hj)
def zPq:Value->Nat
 | .slice _ n _=>n
 | _=>0
def NBO(g0:Nat)(v:Value)(q:Nat):Prop:=q<g0\/v.ownBlock=some q
theorem zBD.app{R:zA5 WFr}{sz k:Nat}{ty ty':TypeId}{B:zC0}{D:Nat->Prop}{w w':World}{b g0 n cap:Nat}{u:Un}{m:zy}{v:Value}{xs:List Value}{ad:Option Addr}(h:zBD R sz ty B D (NBO g0 v) w b u m)(ho:zn w 0 ty' k v n xs ad cap w')(hD:∀q,v.ownBlock=some q->¬D q):zBD R sz ty B D (NBO g0 (.slice ad n cap)) w' b u m:=
 (h.zNo (S:=λq=>v.ownBlock=some q) (ho.keeps (yB _ _) (λq e _=>e)) (λq e=>⟨.inr e,hD q e⟩)).mono λq hq=>by
   rcases hq with hq|hq
   ·exact .inl (.inl hq)
   ·rcases ho.2.2 q hq with e|e
    ·exact .inl (.inr e)
    ·exact .inr ⟨Nat.le_of_eq e.symm,zM ho.1 hq⟩
theorem zD8.app{w w':World}{b g0 n cap sz:Nat}{u:Un}{m:zy}{v:Value}{ty:TypeId}{xs:List Value}{ad:Option Addr}(h:zD8 (NBO g0 v) w b u m)(ho:zn w 0 ty sz v n xs ad cap w'):zD8 (NBO g0 (.slice ad n cap)) w' b u m:=zBD.app h ho λ_ _ h=>h
def zRt(w:World)(r:List Evt × zy)(e:Ending)(w':World):Prop:=
 ∃ oa oc a1 q1 a2 q2 a3 q3 a4 q4,e=.returned (.tuple #[.slice oa r.1.length oc,.agg #[.slice a1 r.2.cells.length q1,.slice a2 r.2.owners.length q2,.slice a3 r.2.zP.length q3,.slice a4 r.2.zP.length q4],(0:Int)]) ∧
   zAV w' w.heap.size (.slice oa r.1.length oc) r.1.length (r.1.flatMap evC)/\zOB w r.2 (.slice a1 r.2.cells.length q1) (.slice a2 r.2.owners.length q2) (.slice a3 r.2.zP.length q3) (.slice a4 r.2.zP.length q4) w'
section
variable {cs:List Int} {mu:Int} {bs:List Bd} {w:World} {F:Nat->Prop} {uca uta:Option Addr} {ucc utc:Nat}
theorem zJE(h:zC8 w F cs bs uca uta)(ca:Option Addr)(cc:Nat)(ch:List Int)(hx:zl w (.slice ca ch.length cc) ch.length (ints ch))(hr:newR ⟨cs,mu,bs⟩=0):Calls Tryz.prog 10 #[.agg #[.slice uca cs.length ucc,mu,.slice uta bs.length utc],.slice ca ch.length cc] w (zRt w (whole ⟨cs,mu,bs⟩ ch)):=by
 have hR:=zEf hr;have HNW:Hid (∀W,Keeps zA w W->Calls Tryz.prog 25 #[.agg #[.slice uca cs.length ucc,mu,.slice uta bs.length utc]] W λe w'=>∃b,e=.returned (.tuple #[.pointer (some ⟨b,0,none⟩),(0:Int)])/\zD8 (λq=>q<W.heap.size) w' b ⟨cs,mu,bs⟩ (zBr ⟨cs,mu,bs⟩)/\Keeps zA W w'):=λW hk=>(h.zG hk).zRk hr
 obtain⟨u,hu⟩:=eX (α:=Un) (⟨cs,mu,bs⟩);rw[<-hu] at HNW hR ⊢;obtain⟨B,hB⟩:=eX (zCj u (zBr u))
 have HB60:Hid (B<=60):=by
  show _<=_
  have h1:=zI3 u
  have h2:unS bs<=60:=by
   unfold newR zB9 at hr;rw[show zX ⟨cs,mu,bs⟩=true by rw[<-hu];exact hR] at hr;revert hr
   simp only[if_true];split
   ·intro e;cases e
   ·intro _;omega
  rw[hu] at h1 hB;have h1:zCj ⟨cs,mu,bs⟩ (zBr ⟨cs,mu,bs⟩)<=unS bs:=h1;omega
 obtain⟨R,hRR⟩:=eX (whole u ch);have HR0:Hid (R=([]++(whN u ch B 0 (zBr u)).1,(whN u ch B 0 (zBr u)).2)):=by show _=_;rw[hRR,hB];rfl
 have HX:Hid (∀W,Keeps (λq=>w.heap.size<=q) w W->zl W (.slice ca ch.length cc) ch.length (ints ch)):=λW hk=>hx.up hk (yT _) (by simp[ints])
 have HRT:=yA hR;have HPB:Hid (zCj u (zBr u)<=B):=by show _<=_;rw[hB];exact yT _
 obtain⟨j0,hj0,hy0,hy1,hy2⟩:=info_parts zKH;rw[<-hRR];clear h hx hr hR hu hB hRR;go_enter Tryz.func10,Tryz.ntmps10
 go_upto_region 1 with fail
 obtain⟨b1,w1,x1,z1,R1,K1,s1⟩:=newRow w [.slice uca cs.length ucc,mu,.slice uta bs.length utc] 25;try rw[x1]
 try rw[z1]
 obtain⟨y,w2,x2,z2,R2,K2,s2⟩:=newRow w1 [.slice none 0 0,.slice none 0 0,.slice none 0 0,.slice none 0 0] 34;have n1:b1+1=y:=s1.out.symm.trans x2;try rw[n1]
 try rw[x2]
 try rw[z2]
 have y1:=(R1.keeps K2 (λh=>h)).zA7;have HRY:=yA R2;have k2:=zF w2;have HK2:Hid (Keeps zA w w2):=K1.zC K2;have HY:Hid (w.heap.size<=y/\y<w2.heap.size):=⟨by rw[<-x2];exact K1.size,R2.lt (by simp)⟩;have yy:=R2.zBF;have f0:=zAa R2 0 (by decide);have f1:=zAa R2 1 (by decide);have f2:=zAa R2 2 (by decide);have f3:=zAa R2 3 (by decide);clear n1 x1 z1 x2 z2 R1 R2 K1 K2 s1 s2;go_upto_region 5 with(go_at_call 25;refine(HNW.out _ HK2.out).mono ?_;rintro e w3 ⟨b,rfl,hm,k3⟩;have HK3:=yA k3;have HM:=yA hm;clear hm k3)
 obtain⟨g0,hg0⟩:=eX w2.heap.size;have HG0:=yA hg0
 have M3:Hid (zD8 (NBO g0 (.slice none 0 0)) w3 b u (zBr u)):=by
  refine HM.out.mono (λq hq=>?_)
  rcases hq with h|h
  ·rw[<-hg0];exact h
  ·exact J65 _
 have HE:=yA M3.out.enabled;clear hg0 HM y1 yy f0 f1 f2 f3 k2 HNW;go_upto_region 6 with(go_at_call 26;refine HE.out.mono ?_;rintro e w4 ⟨v,rfl,ho,k4,hob⟩;obtain⟨la,lc,evl⟩:∃ad cap,v=.slice ad (zA1 (zBr u)).length cap:=zBb.slice (w:=w) ho;subst evl;have HSL:=yA (zK5 ho);have HK4:=yA k4;clear ho hob k4)
 have M4:=yA (M3.out.zG HK4.out);have HK24:Hid (Keeps (λq=>g0<=q) w2 w4):=(HK3.out.zC HK4.out).mono (λ_ _ h=>h.elim);clear HE M3 HK3 HK4;go_loopw [9,10] (λov lv wr=>∃(m:zy)(es:List Evt)(oa:Option Addr)(oc:Nat)(la:Option Addr)(lc ln lo:Nat),ov=.slice oa lo oc/\lv=.slice la ln lc/\lo<=60/\Hid (lo=es.length/\ln=(zA1 m).length/\zl wr (.slice la ln lc) ln (ints (zA1 m))/\wr.ownsRow 0 67 5 (.slice oa lo oc) lo (es.flatMap evC)/\(∀g,(Value.slice oa lo oc).ownBlock=some g->g0<=g)/\zD8 (NBO g0 (.slice oa lo oc)) wr b u m/\Keeps (λq=>g0<=q) w2 wr/\zCj u m+lo<=B/\∃f,zCj u m<=f/\R=(es++(whN u ch f es.length m).1,(whN u ch f es.length m).2))) (λov _ _=>B-zPq ov)
 case atStart=>exact⟨zBr u,[],none,0,la,lc,_,0,rfl,rfl,yF _,rfl,rfl,HSL.out,World.ownsRow_nil _ _ _ _,λg e=>by exact J170 _,M4.out,HK24.out,HPB.out,B,HPB.out,HR0.out⟩
 case round =>
  obtain⟨m,es,oa,oc,la,lc,ln,lo,rfl,rfl,hlo,HI⟩:=hrel;clear M4 HSL HK24;obtain⟨e1,e2,hsl,how,hnew,hmm,hkk,hpot,f,hf,hres⟩:=HI.out;have HKK:=yA hkk;have HM:=yA hmm;have HOW:=yA how;by_cases h0:ln=0
  ·subst h0
   have he:zA1 m=[]:=xW e2.symm;have HFIN:Hid (R=(es,m)/\lo=es.length):=⟨by rw[hres,zHz HRT.out ch he];simp,e1⟩;have HNEW:=yA hnew;have SE:=yA hmm.state;have HRYr:=yA (HRY.out.keeps hkk (λh=>by have h:g0<=y:=h;have:=HG0.out;have:=HY.out.2;omega));have yy:=HRYr.out.zBF;have f0:=zAa HRYr.out 0 (by decide);have f1:=zAa HRYr.out 1 (by decide);have f2:=zAa HRYr.out 2 (by decide);have f3:=zAa HRYr.out 3 (by decide);have HGS:Hid (g0<=wr.heap.size):=by have:=HG0.out;have:=hkk.size;show _<=_;omega
   have kr:=zF wr;clear e1 e2 hsl how hnew hmm hkk hpot hf hres he HI
   go_wp2_with (first
    | (go_at_call 29;refine(zL6 _ oa lo oc es (by rw[HFIN.out.2] at HOW;exact(by rw[HFIN.out.2];exact HOW.out))).mono ?_;rintro e w5 ⟨rfl,hw⟩;have hw:=hw.symm;subst hw)
    | (go_at_call 30;refine SE.out.mono ?_;rintro e w8 ⟨t1,t2,c3,c4,rfl,hs⟩;obtain⟨t3,u3,e3⟩:=hs.sts.form;obtain⟨t4,u4,e4⟩:=hs.next.form;subst e3 e4;have S8:=yA hs;have k8:=hs.keeps;clear hs))
   have K28:Hid (Keeps zA w w8):=(HK2.out.trans HKK.out (λq hq e=>by have e:g0<=q:=e;have:=HG0.out;have:=HY.out;omega)).zC k8;have HKY:=zEd y [.slice t1 m.cells.length m.cells.length,.slice t2 m.owners.length m.owners.length,.slice t3 m.zP.length u3,.slice t4 m.zP.length u4] 0 w8;obtain⟨R5,K5⟩:=zM6 (w:=w) [.slice t1 m.cells.length m.cells.length,.slice t2 m.owners.length m.owners.length,.slice t3 m.zP.length u3,.slice t4 m.zP.length u4] (HRYr.out.keeps k8 (λh=>h)) rfl K28.out HY.out.1;simp only[zLe,xA,Nat.reduceAdd] at R5 K5 HKY;generalize (((w8.setCell ⟨y,0,none⟩ (.slice t1 m.cells.length m.cells.length)).setCell ⟨y,1,none⟩ (.slice t2 m.owners.length m.owners.length)).setCell ⟨y,2,none⟩ (.slice t3 m.zP.length u3)).setCell ⟨y,3,none⟩ (.slice t4 m.zP.length u4)=wz at R5 K5 HKY ⊢;refine xK (v:=.tuple #[.slice oa lo lo,.agg #[.slice t1 m.cells.length m.cells.length,.slice t2 m.owners.length m.owners.length,.slice t3 m.zP.length u3,.slice t4 m.zP.length u4],(0:Int)]) (by simp[results,Tryz.results10,go_sem,R5.cell (k:=0) rfl,R5.cell (k:=1) rfl,R5.cell (k:=2) rfl,R5.cell (k:=3) rfl]) rfl ?_
   obtain⟨q1,q2⟩:=HFIN.out;subst q1;have hny:∀q,wr.heap.size<=q->¬(λq=>q=y) q:=λq hq e=>by have e':q=y:=e;have:=HGS.out;have:=HY.out.2;have:=HG0.out;omega
   have hws:w.heap.size<=wr.heap.size:=by have:=HGS.out;have:=HG0.out;have:=HY.out;omega
   have hF:zAV wz w.heap.size (.slice oa lo lo) lo (es.flatMap evC):=by
    have h1:=zAV.of (B:=g0) HOW.out HNEW.out;have h2:=(h1.keeps k8 (λ_ _ h=>h)).keeps HKY (λq hq e=>by have e':q=y:=e;have:=HY.out.2;have:=HG0.out;omega);obtain⟨ad,cap,e,c1,c2,c3⟩:=h2.mono (B':=w.heap.size) (by have:=HG0.out;have:=HY.out;omega);cases e;refine⟨_,lo,rfl,by unfold maxLen;omega,λe=>?_,c3⟩
    rcases uM lo with h|h
    ·exact h
    ·obtain⟨g,e2,_⟩:=c3 (by omega)
     rw[e] at e2;cases e2
   rw[q2] at hF ⊢;exact⟨oa,_,t1,_,t2,_,t3,u3,t4,u4,rfl,hF,K5,(S8.out.cells.keeps HKY hny).mono hws,(S8.out.owners.keeps HKY hny).mono hws,(S8.out.sts.keeps HKY hny).mono hws,(S8.out.next.keeps HKY hny).mono hws⟩
  ·have hlp:0<ln:=by omega
   have he:zA1 m ≠ []:=λe=>h0 (by rw[e2,e];rfl)
   have h8:ln<=1000:=by
    have h1:=zK2 m m.zP.length;rw[zOt] at h1;have h2:=(zBT HRT.out).2.1;have h3:=hmm.ok.zP;omega
   obtain⟨f',hw1,hw2,hw3,hw4⟩:=zJD HRT.out ch (k:=es.length) hmm.ok he hf;have hsx:zl wr (.slice ca ch.length cc) ch.length (ints ch):=HX.out wr (HK2.out.trans hkk (λq hq e=>by have e:g0<=q:=e;have:=HG0.out;have:=HY.out;omega) |>.mono (λ_ _ h=>h.elim));have HCH:=yA (zKI wr ca cc ch lo ln hsx hlp h8);obtain⟨cc0,hc0⟩:=eX (chN ch lo ln);have hclt:cc0<ln:=by rw[hc0];exact zMq ch lo hlp
   have hsl':zl wr (.slice la ln lc) (zA1 m).length (ints (zA1 m)):=by rw[<-e2];exact hsl
   obtain⟨ad,cap,ee,hcl⟩:=hsl'.ints;obtain⟨gl,ol,el,cl⟩:=hcl cc0 (by omega);simp only[xH] at ee;obtain⟨rfl,hz,rfl⟩:=ee;clear hz;subst el;obtain⟨t,ht⟩:=eX ((zA1 m).getD cc0 0);have HT:Hid (t=whT ch es.length m):=by show _=_;rw[ht,hc0];unfold whT;rw[<-e2,<-e1]
   rw[<-ht] at cl;rw[<-hc0] at HCH;rcases hst:stepM u m t with⟨m',⟨xt,xk,xo,xv,xb⟩,fl⟩
   have HST:Hid (Calls Tryz.prog 27 #[.pointer (some ⟨b,0,none⟩),t] wr λe w'=>e=.returned (.tuple #[.agg #[xt,xk,xo,xv,xb],fl])/\zD8 (NBO g0 (.slice oa lo oc)) w' b u m'/\Keeps (λq=>¬NBO g0 (.slice oa lo oc) q) wr w'):=by
    have h:=hmm.step t;rw[hst] at h;exact h
   have HRES:Hid (R=((es++[(⟨xt,xk,xo,xv,xb⟩:Evt)])++(whN u ch f' (es++[(⟨xt,xk,xo,xv,xb⟩:Evt)]).length m').1,(whN u ch f' (es++[(⟨xt,xk,xo,xv,xb⟩:Evt)]).length m').2)/\zCj u m'<=f'/\zCj u m'+(lo+1)<=B/\lo=es.length):=by
    rw[<-HT.out,hst] at hw1 hw2 hw3;rw[hw1] at hres;exact⟨by rw[hres];simp,hw2,by have:=hw3;simp only at this;omega,e1⟩
   have HNEW:=yA hnew;have i1:(0:Int)<=cc0:=by omega
   have i2:(cc0:Int)<ln:=by omega
   have kr:=zF wr;clear HI e1 e2 hsl how hnew hmm hkk hpot hf hres he h8 hw1 hw2 hw3 hw4 hsx hsl' hcl ht hc0 hst hclt
   go_upto_region 9 with(first
    | (go_at_call 28;refine HCH.out.mono ?_;rintro e w5 ⟨rfl,rfl⟩)
    | (go_at_call 27;refine HST.out.mono ?_;rintro e w6 ⟨rfl,hm,hk⟩;have M6:=yA hm;have HK6:=yA hk;clear hm hk))
   obtain⟨yx,w7,x1,x2,RX,KX,sX⟩:=newRow w6 [xt,xk,xo,xv,xb] 67;rw[x1,x2];have M7:=yA (M6.out.zG KX);have HOW7:=yA (zD (zD HOW.out HK6.out (λq e h=>h (.inr e))) KX (λ_ _ h=>h))
   have K27:Hid (Keeps (λq=>g0<=q) w2 w7):=(HKK.out.trans (HK6.out.mono (λq _ hn=>by
    have hn':¬q<g0:=λh=>hn (.inl h)
    show g0<=q
    omega)) (λ_ _ h=>h)).trans KX (λ_ _ h=>h.elim)
   have yx5:=RX.five;have k7:=zF w7;have lx:yx<w7.heap.size:=RX.lt (by simp);have nx:yx≠w7.heap.size:=by omega
   clear x1 x2 KX sX RX M6 HK6 HST HCH cl
   go_wp2_with (first
    | (at_builtin;refine zI _ (by rfl) _ _ 31 (by rfl) 0 67 j0 _ 5 40 Tryz.underlying31 hj0 hy0 hy1 hy2 rfl (by decide) (.slice oa lo oc) lo (es.flatMap evC) (by rfl) (zD HOW7.out ((yB zA _).alloc _) (λ_ _ h=>h)) (.slice (some ⟨w7.heap.size,0,none⟩) 1 1) 1 (evC ⟨xt,xk,xo,xv,xb⟩) (by rfl) (xE (yK (yG _ _))) rfl (by simp[evC,Value.oneCell']) (by unfold maxLen;omega) (by omega) (yF _) ?_;intro ad9 cap9 w8 hout;have HO:=yA hout;have M8:=yA (zD8.app (M7.out.zG ((yB _ _).alloc _)) hout);clear hout)
    | (go_at_call 26;refine M8.out.enabled.mono ?_;rintro e w9 ⟨v,rfl,ho,k9,hob⟩;obtain⟨la2,lc2,evl⟩:∃ad cap,v=.slice ad (zA1 m').length cap:=zBb.slice (w:=w) ho;subst evl;have HSL:=yA (zK5 ho);have HK9:=yA k9;clear ho hob k9))
   have hB:=HB60.out;obtain⟨r1,r2,r3,r4⟩:=HRES.out;have hlen:lo+1=(es++[(⟨xt,xk,xo,xv,xb⟩:Evt)]).length:=by rw[xC,r4];rfl
   refine⟨⟨m',es++[⟨xt,xk,xo,xv,xb⟩],ad9,cap9,la2,lc2,(zA1 m').length,lo+1,rfl,rfl,by omega,hlen,rfl,HSL.out,?_,?_,M8.out.zG HK9.out,?_,r3,f',r2,r1⟩,by simp[zPq];omega⟩
   ·rw[show(es++[(⟨xt,xk,xo,xv,xb⟩:Evt)]).flatMap evC=es.flatMap evC++evC ⟨xt,xk,xo,xv,xb⟩ by simp]
    exact zD HO.out.1 HK9.out (λ_ _ h=>h)
   ·intro g e
    rcases HO.out.2.2 g e with h|h
    ·exact HNEW.out g h
    ·have h1:=K27.out.size
     have h2:=HG0.out;simp at h
     omega
   ·exact(HO.out.keeps (K27.out.alloc _) (λq e _=>HNEW.out q e)).trans HK9.out (λ_ _ h=>h.elim)
end
