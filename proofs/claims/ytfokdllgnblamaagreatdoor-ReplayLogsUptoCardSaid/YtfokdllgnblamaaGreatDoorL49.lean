/- Layer L: texts joined. -/
import Derived.Test.YtfokdllgnblamaaGreatDoorL47
set_option linter.all false
set_option maxHeartbeats 8000000
set_option maxRecDepth 8000
namespace Go.Proofs.YtfokdllgnblamaaGreatDoor
open Go.RowKit
theorem J188 (P:Prop) (h:P:=by have e:g0 <= q:=e;have:=HG0.out;have:=HY.out;omega):P:=h
section
variable {w:World} {T:zS} {F:Nat -> Prop} {id b i:Nat} {u:Un} {p:zBE} {m:ze} {H:List HTh}
theorem RM.nx (h:RM w T F id b u p m H) (hm:m.ok u) (hi:i < m.zL.length) (h2:(m.get i).st=2) :
 ((m.get i).next=none /\ (m.get i).fs=[] /\ Ret w 43 #[.pointer (some ⟨p.gt,i*3,none⟩)] (.tuple #[zNR, .bool false])) \/ ∃ a f r xa xc ta tc ea ec bd,(m.get i).next=some a /\ (m.get i).fs.getLast?=some f /\ f.rest=a :: r /\ u.threads[i]?=some bd /\ Ac.may u bd.regs a=true /\ (m.get i).regs.length=bd.regs.toNat /\ 2 <= a.kind /\ a.kind <= 9 /\ zQ w F a.ex.args xa /\ Ret w 43 #[.pointer (some ⟨p.gt,i*3,none⟩)] (.tuple #[.agg #[.int .i64 a.kind, .int .i64 a.reg, .int .i64 a.obj, .int .i64 a.ex.kind, .int .i64 a.ex.num, .string a.ex.nm, .slice xa a.ex.args.length xc, .int .i64 a.count, .slice ta a.thn.length tc, .slice ea a.els.length ec], .bool true]):=by
 obtain ⟨bd,hbd,hok,_⟩:=hm.th hi;have hfo:=hok.2.1 (by rw [h2];decide);rcases zCR (hok.2.2 h2) hfo.2 with ⟨h3,h4⟩ | ⟨a,f,r,h3,h4,h5,h6,h7⟩
 ·refine .inl ⟨h3,h4,?_⟩
  obtain ⟨rv,fv,hH,_,hfs⟩:=h.zL.get (xT hi);rw [h4] at hfs;obtain ⟨css,_,_,_,⟨ad,cap,rfl⟩,_⟩:=hfs;have c:=(zAF h.zL.row hH).2.2;exact fun W hk=>zKP (zT (hk.cell (fun h=>h) c))
 ·have hsp:=zAY h4
  obtain ⟨rv,gp,cap,css,cs,hL⟩:=zAc.zOh zMl h.zL (xT hi) hsp;have hfo2:=hfo.2;rw [hsp] at hfo2;obtain ⟨ad,ac,at_,rfl,hacs,hrest,hle,hcn⟩:=hL.pl.at
  have hlt:at_ < f.all.length:=by
   have:=kK List.length hrest
   rw [h5,xQ,List.length_drop] at this;omega
  have ha:f.all[at_]=a:=by
   have e:f.all.drop at_=a :: r:=hrest.symm.trans h5;rw [List.drop_eq_getElem_cons hlt] at e;exact (List.cons.inj e).1
  obtain ⟨ga,oa,xa,xc,ta,tc,ea,ec,rfl,hga,d,hx,ht,he⟩:=hacs.cells hlt;rw [ha] at d hx;refine .inr ⟨a,f,r,xa,xc,ta,tc,ea,ec,bd,h3,h4,h5,hbd,h6,hfo.1,h7.1,h7.2,hx,?_⟩
  have p0:=hL.cell 0 rfl;rw [Nat.add_zero] at p0;have p1:=hL.cell 1 rfl;have p2:=hL.cell 2 rfl;have c2:=hL.fv;exact fun W hk=>zL2 hfo2.split.2 hlt (fun W' q=>(hk.zB q).cell (fun h=>h) c2) (fun W' q=>⟨(hk.zB q).cell (fun h=>h) p0,(hk.zB q).cell (fun h=>h) p1,(hk.zB q).cell (fun h=>h) p2⟩) (fun W' q=>d W' (hk.zB q))
end
section
variable {w:World} {T:zS} {F:Nat -> Prop} {id b i:Nat} {u:Un} {p:zBE} {m:ze} {H:List HTh}
end
section
variable {w:World} {T:zS} {F:Nat -> Prop} {id b:Nat} {u:Un} {p:zBE} {m:ze} {H:List HTh}
end
structure Part where
 ty:TypeId
 sz:Nat
 ad:Option Addr
 n:Nat
 cap:Nat
 cs:List Value
def Part.v (p:Part):Value:=.slice p.ad p.n p.cap
def zGZ (ty:TypeId) (sz:Nat):Part:=⟨ty,sz,none,0,0,[]⟩
structure Parts (w wr:World) (b:Nat) (pre:List Value) (ps:List Part):Prop where
 row:zC wr b (pre++ps.map Part.v)
 own:∀ (k:Nat) (p:Part),ps[k]?=some p -> wr.ownsRow 0 p.ty p.sz p.v p.n p.cs
 new:∀ (k:Nat) (p:Part) (g:Nat),ps[k]?=some p -> p.v.ownBlock=some g -> w.heap.size <= g /\ g ≠ b
 sep:∀ (j k:Nat) (p q:Part) (g:Nat),j ≠ k -> ps[j]?=some p -> ps[k]?=some q -> p.v.ownBlock=some g -> q.v.ownBlock ≠ some g
 bn:w.heap.size <= b
 keep:Keeps zA w wr
section
variable {w wr W:World} {b:Nat} {pre:List Value} {ps:List Part}
theorem Parts.keeps (h:Parts w wr b pre ps) (hk:Keeps zA wr W):Parts w W b pre ps :=
 ⟨h.row.keeps hk (fun h=>h),fun k p e=>zF (h.own k p e) hk (fun _ _ h=>h),h.new,h.sep,h.bn,h.keep.zB hk⟩
theorem Parts.start (l:List (TypeId × Nat)) (hr:zC wr b (pre++(l.map fun x=>zGZ x.1 x.2).map Part.v)) (hb:w.heap.size <= b) (hk:Keeps zA w wr):Parts w wr b pre (l.map fun x=>zGZ x.1 x.2):=by
 have hn:∀ (k:Nat) (p:Part),(l.map fun x=>zGZ x.1 x.2)[k]?=some p -> ∃ ty sz,p=zGZ ty sz:=fun k p e=>by
  rw [uO] at e;obtain ⟨x,_,rfl⟩:=Option.map_eq_some_iff.1 e;exact ⟨_,_,rfl⟩
 refine ⟨hr,fun k p e=>?_,fun k p g e h=>?_,fun j k p q g _ e _ h=>?_,hb,hk⟩
 ·obtain ⟨ty,sz,rfl⟩:=hn k p e
  exact xB _ _ _ _
 ·obtain ⟨ty,sz,rfl⟩:=hn k p e
  simp [zGZ,Part.v,Value.ownBlock] at h
 ·obtain ⟨ty,sz,rfl⟩:=hn j p e
  simp [zGZ,Part.v,Value.ownBlock] at h
theorem Parts.step {k:Nat} {p:Part} {n' cap':Nat} {ad':Option Addr} {xs:List Value} {w2:World} (h:Parts w wr b pre ps) (hp:ps[k]?=some p) (ha:zy wr 0 p.ty p.sz p.v n' xs ad' cap' w2) :
 Keeps zA w w2 /\ zC w2 b (pre++ps.map Part.v) /\ Parts w (w2.setCell ⟨b,pre.length+k,none⟩ (.slice ad' n' cap')) b pre (ps.set k ⟨p.ty,p.sz,ad',n',cap',xs⟩):=by
 have hlt:=(yO.1 hp).1
 have hbl:b < wr.heap.size:=by
  refine h.row.lt (fun e=>?_)
  have:=kK List.length e
  rw [xE,vC,List.length_nil] at this;omega
 have k2:Keeps (fun q=>p.v.ownBlock=some q) wr w2:=ha.keeps (yB _ _) (fun q e _=>e);have k0:Keeps zA w w2:=ha.keeps h.keep (fun q e hq=>absurd hq (by have:=(h.new k p q hp e).1;omega));have r2:=h.row.keeps k2 (fun e=>(h.new k p b hp e).2 rfl);have hs:=h.keep.size;obtain ⟨w3,e3⟩:∃ z,z=w2.setCell ⟨b,pre.length+k,none⟩ (.slice ad' n' cap'):=⟨_,rfl⟩
 have k3:Keeps (fun q=>q=b) w2 w3:=by rw [e3];exact (yB (fun q=>q=b) w2).setCell (p:=⟨b,pre.length+k,none⟩) (fun _=>rfl) _
 have r3:=r2.set (pre.length+k) (by simp;omega) (.slice ad' n' cap')
 have er:(pre++ps.map Part.v).set (pre.length+k) (.slice ad' n' cap')=pre++(ps.set k ⟨p.ty,p.sz,ad',n',cap',xs⟩).map Part.v:=by
  rw [uP _ _ (by omega),vN,List.map_set];rfl
 have hb':∀ g,(Value.slice ad' n' cap').ownBlock=some g -> p.v.ownBlock=some g \/ g=wr.heap.size:=ha.2.2
 rw [<- e3] at r3 ⊢;rw [er] at r3;refine ⟨k0,r2,r3,fun j q e=>?_,fun j q g e hg=>?_,fun i j q1 q2 g hij e1 e2 g1 g2=>?_,h.bn,(k0.trans k3 (fun q hq e=>absurd hq (by have e':q=b:=e;have:=h.bn;omega)))⟩
 ·by_cases hj:k=j
  ·subst hj
   rw [yX hlt] at e;cases e
   exact zF ha.1 k3 (fun q e1 e2=>by
    have e2:q=b:=e2;rcases hb' q e1 with h1 | h1
    ·exact (h.new k p q hp h1).2 e2
    ·omega)
  ·rw [uB hj] at e
   exact zF (zF (h.own j q e) k2 (fun g e1 e2=>h.sep k j p q g hj hp e e2 e1)) k3 (fun g e1 e2=>(h.new j q g e e1).2 e2)
 ·by_cases hj:k=j
  ·subst hj
   rw [yX hlt] at e;cases e;rcases hb' g hg with h1 | h1
   ·exact h.new k p g hp h1
   ·exact ⟨by omega,by omega⟩
  ·rw [uB hj] at e
   exact h.new j q g e hg
 ·by_cases h1:k=i
  ·subst h1
   rw [yX hlt] at e1;rw [uB hij] at e2;cases e1;rcases hb' g g1 with h3 | h3
   ·exact h.sep k j p q2 g hij hp e2 h3 g2
   ·have:=zM (h.own j q2 e2) g2;omega
  ·rw [uB h1] at e1
   by_cases h2:k=j
   ·subst h2
    rw [yX hlt] at e2;cases e2;rcases hb' g g2 with h3 | h3
    ·exact h.sep i k q1 p g hij e1 hp g1 h3
    ·have:=zM (h.own i q1 e1) g1;omega
   ·rw [uB h2] at e2
    exact h.sep i j q1 q2 g hij e1 e2 g1 g2
end
def zJN (w:World) (m:ze) (e:Ending) (w':World):Prop :=
 ∃ a1 q1 a2 q2 a3 q3 a4 q4,e=.returned (.agg #[.slice a1 m.cells.length q1, .slice a2 m.owners.length q2, .slice a3 m.zL.length q3, .slice a4 m.zL.length q4]) /\ zDN w m (.slice a1 m.cells.length q1) (.slice a2 m.owners.length q2) (.slice a3 m.zL.length q3) (.slice a4 m.zL.length q4) w'
section
variable {w:World} {T:zS} {F:Nat -> Prop} {id b:Nat} {u:Un} {p:zBE} {m:ze} {H:List HTh}
end
def zEf (w:World) (B C:Nat) (v:Value) (n size:Nat):Prop :=
 ∃ ad cap,v=.slice ad n cap /\ (n ≠ 0 -> ∃ g,ad=some ⟨g,0,none⟩ /\ B <= g /\ g < C /\ w.there g 0 (n*size))
theorem zEf.of {w:World} {B C n size:Nat} {v:Value} {cs:List Value} (h:zAO w B v n cs) (hl:cs.length=n*size) (hs:0 < size) (hC:w.heap.size <= C):zEf w B C v n size:=by
 obtain ⟨ad,cap,e,_,_,h1⟩:=h;refine ⟨ad,cap,e,fun hn=>?_⟩
 obtain ⟨g,h2,h3,h4⟩:=h1 hn;refine ⟨g,h2,h3,yI (h4.lt (fun e=>?_)) hC,by rw [<- hl];exact h4.thr⟩
 rw [e] at hl;simp at hl
 have:n*size ≠ 0:=Nat.mul_ne_zero hn (by omega)
 omega
theorem zEf.set {w:World} {B C n size:Nat} {v:Value} (h:zEf w B C v n size) (p:Addr) (u:Value):zEf (w.setCell p u) B C v n size:=by
 obtain ⟨ad,cap,e,h1⟩:=h;refine ⟨ad,cap,e,fun hn=>?_⟩
 obtain ⟨g,h2,h3,h4,h5⟩:=h1 hn;refine ⟨g,h2,h3,h4,fun j hj=>?_⟩
 obtain ⟨a,b⟩:=h5 j hj;refine ⟨?_,by rw [World.frozen?_setCell];exact b⟩
 by_cases e:p=⟨g,0+j,none⟩
 ·subst e
  rw [World.cell?_setCell_same' _ _ _ a];rfl
 ·rw [vE _ _ _ _ e];exact a
theorem zEf.zG {w w':World} {B C n size:Nat} {v:Value} (h:zEf w B C v n size) (hk:Keeps zA w w'):zEf w' B C v n size:=by
 obtain ⟨ad,cap,e,h1⟩:=h;refine ⟨ad,cap,e,fun hn=>?_⟩
 obtain ⟨g,h2,h3,h4,h5⟩:=h1 hn;exact ⟨g,h2,h3,h4,zFB h5 hk (fun h=>h)⟩
theorem zEf.cell {w:World} {B C n size:Nat} {ad:Option Addr} {m cap:Nat} (h:zEf w B C (.slice ad m cap) n size) {k:Nat} (hk:k < n):∃ g,ad=some ⟨g,0,none⟩ /\ B <= g /\ g < C /\ ∀ j,j < size -> ∃ old,w.cell? ⟨g,k*size+j,none⟩=some old /\ w.frozen? ⟨g,k*size+j,none⟩=false:=by
 obtain ⟨ad',cap',e,h1⟩:=h;cases e;obtain ⟨g,h2,h3,h4,h5⟩:=h1 (by omega);refine ⟨g,h2,h3,h4,fun j hj=>?_⟩
 have hlt:k*size+j < n*size:=by
  have:(k+1)*size <= n*size:=vM _ hk
  rw [vH] at this;omega
 obtain ⟨a,b⟩:=h5 _ hlt;rw [xC] at a b;obtain ⟨old,ho⟩:=Option.isSome_iff_exists.1 a;exact ⟨old,ho,b⟩
theorem zB3.slice {e size n:Nat} {w w':World} {cs:List Value} {v:Value} (h:w'.ownsRow 0 e size v n cs):∃ ad cap,v=.slice ad n cap:=by
 rcases h.2 with ⟨e1,e2⟩ | ⟨g,cap,cur,e1,_⟩
 ·exact ⟨none,0,by rw [e1,e2]⟩
 ·exact ⟨_,cap,e1⟩
theorem zJe {w:World} {e n:Nat} {v:Value} {cs:List Value} {size:Nat} (h:w.ownsRow 0 e size v n cs):zl w v n cs:=(zAO.of (B:=0) h (fun _ _=>yH _)).src
structure LkI (w0 wr:World) (B y:Nat) (s1 s2 s3 s4:Value) (nc no nf:Nat):Prop where
 keep:Keeps (fun q=>B <= q) w0 wr
 row:zC wr y [s1,s2,s3,s4]
 h1:zEf wr B y s1 nc 1
 h2:zEf wr B y s2 no 1
 h3:zEf wr B y s3 nf 1
 h4:zEf wr B y s4 nf 2
theorem LkI.set {w0 wr:World} {B y:Nat} {s1 s2 s3 s4:Value} {nc no nf:Nat} (h:LkI w0 wr B y s1 s2 s3 s4 nc no nf) (p:Addr) (h1:B <= p.block) (h2:p.block < y) (u:Value):LkI w0 (wr.setCell p u) B y s1 s2 s3 s4 nc no nf :=
 ⟨h.keep.setCell (p:=p) (fun _=>h1) u,h.row.other (fun e=>by omega) u,h.h1.set p u,h.h2.set p u,h.h3.set p u,h.h4.set p u⟩
theorem zAO.form {w:World} {B n:Nat} {v:Value} {cs:List Value} (h:zAO w B v n cs):∃ ad cap,v=.slice ad n cap:=by obtain ⟨ad,cap,e,_⟩:=h;exact ⟨ad,cap,e⟩
theorem zl.up {w w':World} {B:Nat} {v:Value} {n:Nat} {cs:List Value} (h:zl w v n cs) (hk:Keeps (fun q=>B <= q) w w') (hB:w.heap.size <= B) (hc:cs.length=0 -> n=0):zl w' v n cs:=by
 obtain ⟨ad,cap,rfl,h1⟩:=h;refine ⟨ad,cap,rfl,fun hn=>?_⟩
 obtain ⟨g,o,e,h2⟩:=h1 hn;refine ⟨g,o,e,fun j u hj=>?_⟩
 have hlt:=xP w _ (h2 j u hj);exact hk.cell (p:=⟨g,o+j,none⟩) (fun hb=>by have hb':B <= g:=hb;have hlt':g < w.heap.size:=hlt;omega) (h2 j u hj)
theorem zDU.up {w w':World} {B:Nat} {c1 c2 c3 c4:Value} {xs ys ss:List Int} {ps:List (Int × Int)} (h:zDU w c1 c2 c3 c4 xs ys ss ps) (hk:Keeps (fun q=>B <= q) w w') (hB:w.heap.size <= B):zDU w' c1 c2 c3 c4 xs ys ss ps :=
 ⟨h.cells.up hk hB (by simp [ints]),h.owners.up hk hB (by simp [ints]),h.sts.up hk hB (by simp [ints]),h.next.up hk hB (by intro e;rw [zw zBe 2 (fun _=>rfl)] at e;omega)⟩
theorem zJK (m:ze) (k:Nat) (h:k <= m.zL.length):(zEe m k).length=k:=by simp [zEe];omega
theorem zLT (m:ze) (k:Nat):(zGd m k).length=k:=by simp [zGd]
theorem zDN.src {w w':World} {m:ze} {c1 c2 c3 c4:Value} (h:zDN w m c1 c2 c3 c4 w'):zDU w' c1 c2 c3 c4 m.cells m.owners (zEe m m.zL.length) (zGd m m.zL.length) :=
 ⟨h.cells.src,h.owners.src,by rw [zJK m _ (yV _)];exact h.sts.src,by rw [zLT];exact h.next.src⟩
theorem zJN.out {w w':World} {m:ze} {e:Ending} (h:zJN w m e w'):∃ c1 c2 c3 c4,e=.returned (.agg #[c1,c2,c3,c4]) /\ zDN w m c1 c2 c3 c4 w':=by
 obtain ⟨a1,q1,a2,q2,a3,q3,a4,q4,e,h⟩:=h;exact ⟨_,_,_,_,e,h⟩
def zNS:Value -> Nat
 | .slice _ n _=>n
 | _=>0
def NBO (g0:Nat) (v:Value) (q:Nat):Prop:=q < g0 \/ v.ownBlock=some q
theorem zAr.app {R:zA0 zx} {sz k:Nat} {ty ty':TypeId} {B:zCY} {D:Nat -> Prop} {w w':World} {b g0 n cap:Nat} {u:Un} {m:ze} {v:Value} {xs:List Value} {ad:Option Addr} (h:zAr R sz ty B D (NBO g0 v) w b u m) (ho:zy w 0 ty' k v n xs ad cap w') (hD:∀ q,v.ownBlock=some q -> ¬ D q):zAr R sz ty B D (NBO g0 (.slice ad n cap)) w' b u m :=
 (h.zId (S:=fun q=>v.ownBlock=some q) (ho.keeps (yB _ _) (fun q e _=>e)) (fun q e=>⟨.inr e,hD q e⟩)).mono fun q hq=>by
   rcases hq with hq | hq
   ·exact .inl (.inl hq)
   ·rcases ho.2.2 q hq with e | e
    ·exact .inl (.inr e)
    ·exact .inr ⟨Nat.le_of_eq e.symm,zM ho.1 hq⟩
theorem zCb.app {w w':World} {b g0 n cap sz:Nat} {u:Un} {m:ze} {v:Value} {ty:TypeId} {xs:List Value} {ad:Option Addr} (h:zCb (NBO g0 v) w b u m) (ho:zy w 0 ty sz v n xs ad cap w'):zCb (NBO g0 (.slice ad n cap)) w' b u m:=zAr.app h ho fun _ _ h=>h
abbrev zOQ:Value:=.agg #[.slice none 0 0, .slice none 0 0, .slice none 0 0, .slice none 0 0]
def zOg (w:World) (r:List Evt × ze) (e:Ending) (w':World):Prop :=
 ∃ oa oc a1 q1 a2 q2 a3 q3 a4 q4,e=.returned (.tuple #[.slice oa r.1.length oc, .agg #[.slice a1 r.2.cells.length q1, .slice a2 r.2.owners.length q2, .slice a3 r.2.zL.length q3, .slice a4 r.2.zL.length q4], .int .i64 0]) ∧
   zAO w' w.heap.size (.slice oa r.1.length oc) r.1.length (r.1.flatMap evC) /\ zDN w r.2 (.slice a1 r.2.cells.length q1) (.slice a2 r.2.owners.length q2) (.slice a3 r.2.zL.length q3) (.slice a4 r.2.zL.length q4) w'
section
variable {cs:List Int} {mu:Int} {bs:List Bd} {w:World} {F:Nat -> Prop} {uca uta:Option Addr} {ucc utc:Nat}
theorem zL6 (h:zC7 w F cs bs uca uta) (ca:Option Addr) (cc:Nat) (ch:List Int) (hx:zl w (.slice ca ch.length cc) ch.length (ints ch)) (hr:newR ⟨cs,mu,bs⟩=0):Calls Tryz.prog 54 #[.agg #[.slice uca cs.length ucc, .int .i64 mu, .slice uta bs.length utc], .slice ca ch.length cc] w (zOg w (whole ⟨cs,mu,bs⟩ ch)):=by
 have hR:=zDD hr;have HNW:Hid (∀ W,Keeps zA w W -> Calls Tryz.prog 9 #[.agg #[.slice uca cs.length ucc, .int .i64 mu, .slice uta bs.length utc]] W fun e w'=>∃ b,e=.returned (.tuple #[.pointer (some ⟨b,0,none⟩), .int .i64 0]) /\ zCb (fun q=>q < W.heap.size) w' b ⟨cs,mu,bs⟩ (zAU ⟨cs,mu,bs⟩) /\ Keeps zA W w'):=fun W hk=>(h.zG hk).zNT hr
 obtain ⟨u,hu⟩:∃ u:Un,u=⟨cs,mu,bs⟩:=⟨_,rfl⟩
 rw [<- hu] at HNW hR ⊢;obtain ⟨B,hB⟩:∃ z,z=zB9 u (zAU u):=⟨_,rfl⟩
 have HB60:Hid (B <= 60):=by
  show _ <= _
  have h1:=zHS u
  have h2:unS bs <= 60:=by
   unfold newR zB5 at hr;rw [show zV ⟨cs,mu,bs⟩=true by rw [<- hu];exact hR] at hr;revert hr
   simp only [kG];split
   ·intro e;cases e
   ·intro _;omega
  rw [hu] at h1 hB;have h1:zB9 ⟨cs,mu,bs⟩ (zAU ⟨cs,mu,bs⟩) <= unS bs:=h1;omega
 obtain ⟨R,hRR⟩:∃ z,z=whole u ch:=⟨_,rfl⟩
 have HR0:Hid (R=([]++(whN u ch B 0 (zAU u)).1,(whN u ch B 0 (zAU u)).2)):=by show _=_;rw [hRR,hB];rfl
 have HX:Hid (∀ W,Keeps (fun q=>w.heap.size <= q) w W -> zl W (.slice ca ch.length cc) ch.length (ints ch)):=fun W hk=>hx.up hk (yV _) (by simp [ints])
 have HRT:=yA hR;have HPB:Hid (zB9 u (zAU u) <= B):=by show _ <= _;rw [hB];exact yV _
 obtain ⟨j0,hj0,hy0,hy1,hy2⟩:=info_parts zIM;rw [<- hRR];clear h hx hr hR hu hB hRR;go_enter Tryz.func54,Tryz.ntmps54
 go_upto_region 1 with fail
 obtain ⟨b1,w1,x1,z1,R1,K1,s1⟩:=newRow w [.slice uca cs.length ucc, .int .i64 mu, .slice uta bs.length utc] 25;try rw [x1]
 try rw [z1]
 obtain ⟨y,w2,x2,z2,R2,K2,s2⟩:=newRow w1 [.slice none 0 0, .slice none 0 0, .slice none 0 0, .slice none 0 0] 51;have n1:b1+1=y:=s1.out.symm.trans x2;try rw [n1]
 try rw [x2]
 try rw [z2]
 have y1:=(R1.keeps K2 (fun h=>h)).zEt;have HRY:=yA R2;have k2:=zI w2;have HK2:Hid (Keeps zA w w2):=K1.zB K2;have HY:Hid (w.heap.size <= y /\ y < w2.heap.size):=⟨by rw [<- x2];exact K1.size,R2.lt (by simp)⟩;have yy:=R2.zDZ;have f0:=zo R2 0 (by decide);have f1:=zo R2 1 (by decide);have f2:=zo R2 2 (by decide);have f3:=zo R2 3 (by decide);clear n1 x1 z1 x2 z2 R1 R2 K1 K2 s1 s2;go_upto_region 5 with (go_at_call 9;refine (HNW.out _ HK2.out).mono ?_;rintro e w3 ⟨b,rfl,hm,k3⟩;have HK3:=yA k3;have HM:=yA hm;clear hm k3)
 obtain ⟨g0,hg0⟩:∃ g,g=w2.heap.size:=⟨_,rfl⟩
 have HG0:=yA hg0
 have M3:Hid (zCb (NBO g0 (.slice none 0 0)) w3 b u (zAU u)):=by
  refine HM.out.mono (fun q hq=>?_)
  rcases hq with h | h
  ·rw [<- hg0];exact h
  ·simp [Value.ownBlock] at h
 have HE:=yA M3.out.enabled;clear hg0 HM y1 yy f0 f1 f2 f3 k2 HNW;go_upto_region 6 with (go_at_call 36;refine HE.out.mono ?_;rintro e w4 ⟨v,rfl,ho,k4,hob⟩;obtain ⟨la,lc,evl⟩:∃ ad cap,v=.slice ad (zBD (zAU u)).length cap:=zB3.slice (w:=w) ho;subst evl;have HSL:=yA (zJe ho);have HK4:=yA k4;clear ho hob k4)
 have M4:=yA (M3.out.zG HK4.out);have HK24:Hid (Keeps (fun q=>g0 <= q) w2 w4):=(HK3.out.zB HK4.out).mono (fun _ _ h=>h.elim);clear HE M3 HK3 HK4;go_loopw [9,10] (fun ov lv wr=>∃ (m:ze) (es:List Evt) (oa:Option Addr) (oc:Nat) (la:Option Addr) (lc ln lo:Nat),ov=.slice oa lo oc /\ lv=.slice la ln lc /\ lo <= 60 /\ Hid (lo=es.length /\ ln=(zBD m).length /\ zl wr (.slice la ln lc) ln (ints (zBD m)) /\ wr.ownsRow 0 40 5 (.slice oa lo oc) lo (es.flatMap evC) /\ (∀ g,(Value.slice oa lo oc).ownBlock=some g -> g0 <= g) /\ zCb (NBO g0 (.slice oa lo oc)) wr b u m /\ Keeps (fun q=>g0 <= q) w2 wr /\ zB9 u m+lo <= B /\ ∃ f,zB9 u m <= f /\ R=(es++(whN u ch f es.length m).1,(whN u ch f es.length m).2))) (fun ov _ _=>B - zNS ov)
 case atStart=>exact ⟨zAU u,[],none,0,la,lc,_,0,rfl,rfl,yH _,rfl,rfl,HSL.out,xB _ _ _ _,fun g e=>by exact J153 _,M4.out,HK24.out,HPB.out,B,HPB.out,HR0.out⟩
 case round =>
  obtain ⟨m,es,oa,oc,la,lc,ln,lo,rfl,rfl,hlo,HI⟩:=hrel;clear M4 HSL HK24;obtain ⟨e1,e2,hsl,how,hnew,hmm,hkk,hpot,f,hf,hres⟩:=HI.out;have HKK:=yA hkk;have HM:=yA hmm;have HOW:=yA how;by_cases h0:ln=0
  ·subst h0
   have he:zBD m=[]:=vI e2.symm;have HFIN:Hid (R=(es,m) /\ lo=es.length):=⟨by rw [hres,zNE HRT.out ch he];simp,e1⟩;have HNEW:=yA hnew;have SE:=yA hmm.state;have HRYr:=yA (HRY.out.keeps hkk (fun h=>by have h:g0 <= y:=h;have:=HG0.out;have:=HY.out.2;omega));have yy:=HRYr.out.zDZ;have f0:=zo HRYr.out 0 (by decide);have f1:=zo HRYr.out 1 (by decide);have f2:=zo HRYr.out 2 (by decide);have f3:=zo HRYr.out 3 (by decide);have HGS:Hid (g0 <= wr.heap.size):=by have:=HG0.out;have:=hkk.size;show _ <= _;omega
   have kr:=zI wr;clear e1 e2 hsl how hnew hmm hkk hpot hf hres he HI
   go_wp2_with (first
    | (go_at_call 81;refine (zKQ _ oa lo oc es (by rw [HFIN.out.2] at HOW;exact (by rw [HFIN.out.2];exact HOW.out))).mono ?_;rintro e w5 ⟨rfl,hw⟩;have hw:=hw.symm;subst hw)
    | (go_at_call 27;refine SE.out.mono ?_;rintro e w8 ⟨t1,t2,c3,c4,rfl,hs⟩;obtain ⟨t3,u3,e3⟩:=hs.sts.form;obtain ⟨t4,u4,e4⟩:=hs.next.form;subst e3 e4;have S8:=yA hs;have k8:=hs.keeps;clear hs))
   have K28:Hid (Keeps zA w w8):=(HK2.out.trans HKK.out (fun q hq e=>by exact J188 _)).zB k8;have HKY:=zDC y [.slice t1 m.cells.length m.cells.length, .slice t2 m.owners.length m.owners.length, .slice t3 m.zL.length u3, .slice t4 m.zL.length u4] 0 w8;obtain ⟨R5,K5⟩:=zDO (w:=w) [.slice t1 m.cells.length m.cells.length, .slice t2 m.owners.length m.owners.length, .slice t3 m.zL.length u3, .slice t4 m.zL.length u4] (HRYr.out.keeps k8 (fun h=>h)) rfl K28.out HY.out.1;simp only [zGC,xC,Nat.reduceAdd] at R5 K5 HKY;generalize (((w8.setCell ⟨y,0,none⟩ (.slice t1 m.cells.length m.cells.length)).setCell ⟨y,1,none⟩ (.slice t2 m.owners.length m.owners.length)).setCell ⟨y,2,none⟩ (.slice t3 m.zL.length u3)).setCell ⟨y,3,none⟩ (.slice t4 m.zL.length u4)=wz at R5 K5 HKY ⊢;refine xM (v:=.tuple #[.slice oa lo lo, .agg #[.slice t1 m.cells.length m.cells.length, .slice t2 m.owners.length m.owners.length, .slice t3 m.zL.length u3, .slice t4 m.zL.length u4], .int .i64 0]) (by simp [results,Tryz.results54,go_sem,R5.cell (k:=0) rfl,R5.cell (k:=1) rfl,R5.cell (k:=2) rfl,R5.cell (k:=3) rfl]) rfl ?_
   obtain ⟨q1,q2⟩:=HFIN.out;subst q1;have hny:∀ q,wr.heap.size <= q -> ¬ (fun q=>q=y) q:=fun q hq e=>by have e':q=y:=e;have:=HGS.out;have:=HY.out.2;have:=HG0.out;omega
   have hws:w.heap.size <= wr.heap.size:=by have:=HGS.out;have:=HG0.out;have:=HY.out;omega
   have hF:zAO wz w.heap.size (.slice oa lo lo) lo (es.flatMap evC):=by
    have h1:=zAO.of (B:=g0) HOW.out HNEW.out;have h2:=(h1.keeps k8 (fun _ _ h=>h)).keeps HKY (fun q hq e=>by have e':q=y:=e;have:=HY.out.2;have:=HG0.out;omega);obtain ⟨ad,cap,e,c1,c2,c3⟩:=h2.mono (B':=w.heap.size) (by have:=HG0.out;have:=HY.out;omega);cases e;refine ⟨_,lo,rfl,by unfold maxLen;omega,fun e=>?_,c3⟩
    rcases uT lo with h | h
    ·exact h
    ·obtain ⟨g,e2,_⟩:=c3 (by omega)
     rw [e] at e2;cases e2
   rw [q2] at hF ⊢;exact ⟨oa,_,t1,_,t2,_,t3,u3,t4,u4,rfl,hF,K5,(S8.out.cells.keeps HKY hny).mono hws,(S8.out.owners.keeps HKY hny).mono hws,(S8.out.sts.keeps HKY hny).mono hws,(S8.out.next.keeps HKY hny).mono hws⟩
  ·have hlp:0 < ln:=by omega
   have he:zBD m ≠ []:=fun e=>h0 (by rw [e2,e];rfl)
   have h8:ln <= 1000:=by
    have h1:=zJL m m.zL.length;rw [zNI] at h1;have h2:=(zAt HRT.out).2.1;have h3:=hmm.ok.zL;omega
   obtain ⟨f',hw1,hw2,hw3,hw4⟩:=zLy HRT.out ch (k:=es.length) hmm.ok he hf;have hsx:zl wr (.slice ca ch.length cc) ch.length (ints ch):=HX.out wr (HK2.out.trans hkk (fun q hq e=>by exact J188 _) |>.mono (fun _ _ h=>h.elim));have HCH:=yA (zI3 wr ca cc ch lo ln hsx hlp h8);obtain ⟨cc0,hc0⟩:∃ z,z=chN ch lo ln:=⟨_,rfl⟩
   have hclt:cc0 < ln:=by rw [hc0];exact zKr ch lo hlp
   have hsl':zl wr (.slice la ln lc) (zBD m).length (ints (zBD m)):=by rw [<- e2];exact hsl
   obtain ⟨ad,cap,ee,hcl⟩:=hsl'.ints;obtain ⟨gl,ol,el,cl⟩:=hcl cc0 (by omega);simp only [xX] at ee;obtain ⟨rfl,hz,rfl⟩:=ee;clear hz;subst el;obtain ⟨t,ht⟩:∃ z,z=(zBD m).getD cc0 0:=⟨_,rfl⟩
   have HT:Hid (t=whT ch es.length m):=by show _=_;rw [ht,hc0];unfold whT;rw [<- e2,<- e1]
   rw [<- ht] at cl;rw [<- hc0] at HCH;rcases hst:stepM u m t with ⟨m',⟨xt,xk,xo,xv,xb⟩,fl⟩
   have HST:Hid (Calls Tryz.prog 15 #[.pointer (some ⟨b,0,none⟩), .int .i64 t] wr fun e w'=>e=.returned (.tuple #[.agg #[.int .i64 xt, .int .i64 xk, .int .i64 xo, .int .i64 xv, .int .i64 xb], .int .i64 fl]) /\ zCb (NBO g0 (.slice oa lo oc)) w' b u m' /\ Keeps (fun q=>¬ NBO g0 (.slice oa lo oc) q) wr w'):=by
    have h:=hmm.step t;rw [hst] at h;exact h
   have HRES:Hid (R=((es++[(⟨xt,xk,xo,xv,xb⟩:Evt)])++(whN u ch f' (es++[(⟨xt,xk,xo,xv,xb⟩:Evt)]).length m').1,(whN u ch f' (es++[(⟨xt,xk,xo,xv,xb⟩:Evt)]).length m').2) /\ zB9 u m' <= f' /\ zB9 u m'+(lo+1) <= B /\ lo=es.length):=by
    rw [<- HT.out,hst] at hw1 hw2 hw3;rw [hw1] at hres;exact ⟨by rw [hres];simp,hw2,by have:=hw3;simp only at this;omega,e1⟩
   have HNEW:=yA hnew;have i1:(0:Int) <= cc0:=by omega
   have i2:(cc0:Int) < ln:=by omega
   have kr:=zI wr;clear HI e1 e2 hsl how hnew hmm hkk hpot hf hres he h8 hw1 hw2 hw3 hw4 hsx hsl' hcl ht hc0 hst hclt
   go_upto_region 9 with (first
    | (go_at_call 80;refine HCH.out.mono ?_;rintro e w5 ⟨rfl,rfl⟩)
    | (go_at_call 15;refine HST.out.mono ?_;rintro e w6 ⟨rfl,hm,hk⟩;have M6:=yA hm;have HK6:=yA hk;clear hm hk))
   obtain ⟨yx,w7,x1,x2,RX,KX,sX⟩:=newRow w6 [.int .i64 xt, .int .i64 xk, .int .i64 xo, .int .i64 xv, .int .i64 xb] 40;rw [x1,x2];have M7:=yA (M6.out.zG KX);have HOW7:=yA (zF (zF HOW.out HK6.out (fun q e h=>h (.inr e))) KX (fun _ _ h=>h))
   have K27:Hid (Keeps (fun q=>g0 <= q) w2 w7):=(HKK.out.trans (HK6.out.mono (fun q _ hn=>by
    have hn':¬ q < g0:=fun h=>hn (.inl h)
    show g0 <= q
    omega)) (fun _ _ h=>h)).trans KX (fun _ _ h=>h.elim)
   have yx5:=RX.five;have k7:=zI w7;have lx:yx < w7.heap.size:=RX.lt (by simp);have nx:yx ≠ w7.heap.size:=by omega
   clear x1 x2 KX sX RX M6 HK6 HST HCH cl
   go_wp2_with (first
    | (at_builtin;refine zH _ (by rfl) _ _ 54 (by rfl) 0 40 j0 _ 5 40 Tryz.underlying54 hj0 hy0 hy1 hy2 rfl (by decide) (.slice oa lo oc) lo (es.flatMap evC) (by rfl) (zF HOW7.out ((yB zA _).alloc _) (fun _ _ h=>h)) (.slice (some ⟨w7.heap.size,0,none⟩) 1 1) 1 (evC ⟨xt,xk,xo,xv,xb⟩) (by rfl) (xN (yM (yG _ _))) rfl (by simp [evC,Value.oneCell']) (by unfold maxLen;omega) (by omega) (yH _) ?_;intro ad9 cap9 w8 hout;have HO:=yA hout;have M8:=yA (zCb.app (M7.out.zG ((yB _ _).alloc _)) hout);clear hout)
    | (go_at_call 36;refine M8.out.enabled.mono ?_;rintro e w9 ⟨v,rfl,ho,k9,hob⟩;obtain ⟨la2,lc2,evl⟩:∃ ad cap,v=.slice ad (zBD m').length cap:=zB3.slice (w:=w) ho;subst evl;have HSL:=yA (zJe ho);have HK9:=yA k9;clear ho hob k9))
   have hB:=HB60.out;obtain ⟨r1,r2,r3,r4⟩:=HRES.out;have hlen:lo+1=(es++[(⟨xt,xk,xo,xv,xb⟩:Evt)]).length:=by rw [xE,r4];rfl
   refine ⟨⟨m',es++[⟨xt,xk,xo,xv,xb⟩],ad9,cap9,la2,lc2,(zBD m').length,lo+1,rfl,rfl,by omega,hlen,rfl,HSL.out,?_,?_,M8.out.zG HK9.out,?_,r3,f',r2,r1⟩,by simp [zNS];omega⟩
   ·rw [show (es++[(⟨xt,xk,xo,xv,xb⟩:Evt)]).flatMap evC=es.flatMap evC++evC ⟨xt,xk,xo,xv,xb⟩ by simp]
    exact zF HO.out.1 HK9.out (fun _ _ h=>h)
   ·intro g e
    rcases HO.out.2.2 g e with h | h
    ·exact HNEW.out g h
    ·have h1:=K27.out.size
     have h2:=HG0.out;simp at h
     omega
   ·exact (HO.out.keeps (K27.out.alloc _) (fun q e _=>HNEW.out q e)).trans HK9.out (fun _ _ h=>h.elim)
end
end Go.Proofs.YtfokdllgnblamaaGreatDoor
