/- Layer S: texts joined. -/
import Derived.Test.YtfjgcedkfnmdkaaGreatDoorS46
set_option linter.all false
set_option maxHeartbeats 8000000
set_option maxRecDepth 8000
namespace Go.Proofs.YtfjgcedkfnmdkaaGreatDoor
open Go.RowKit
theorem J185 (P:Prop) (h:P:=by have e:g0 <= q:=e;have:=HG0.out;have:=HY.out;omega):P:=h
section
variable {w:World} {T:zT} {F:Nat -> Prop} {id b i:Nat} {u:Un} {p:zA2} {m:zW} {H:List HTh}
theorem RM.nx (h:RM w T F id b u p m H) (hm:m.ok u) (hi:i < m.zL.length) (h2:(m.get i).st=2) :
 ((m.get i).next=none /\ (m.get i).fs=[] /\ Ret w 52 #[.pointer (some ⟨p.gt,i*3,none⟩)] (.tuple #[zNc, .bool false])) \/ ∃ a f r xa xc ta tc ea ec bd,(m.get i).next=some a /\ (m.get i).fs.getLast?=some f /\ f.rest=a :: r /\ u.threads[i]?=some bd /\ Ac.may u bd.regs a=true /\ (m.get i).regs.length=bd.regs.toNat /\ 2 <= a.kind /\ a.kind <= 9 /\ zR w F a.ex.args xa /\ Ret w 52 #[.pointer (some ⟨p.gt,i*3,none⟩)] (.tuple #[.agg #[.int .i64 a.kind, .int .i64 a.reg, .int .i64 a.obj, .int .i64 a.ex.kind, .int .i64 a.ex.num, .string a.ex.nm, .slice xa a.ex.args.length xc, .int .i64 a.count, .slice ta a.thn.length tc, .slice ea a.els.length ec], .bool true]):=by
 obtain ⟨bd,hbd,hok,_⟩:=hm.th hi;have hfo:=hok.2.1 (by rw [h2];decide);rcases zB3 (hok.2.2 h2) hfo.2 with ⟨h3,h4⟩ | ⟨a,f,r,h3,h4,h5,h6,h7⟩
 ·refine .inl ⟨h3,h4,?_⟩
  obtain ⟨rv,fv,hH,_,hfs⟩:=h.zL.get (xU hi);rw [h4] at hfs;obtain ⟨css,_,_,_,⟨ad,cap,rfl⟩,_⟩:=hfs;have c:=(zAF h.zL.row hH).2.2;exact fun W hk=>zKf (zM (hk.cell (fun h=>h) c))
 ·have hsp:=zAZ h4
  obtain ⟨rv,gp,cap,css,cs,hL⟩:=zAb.zOW zJj h.zL (xU hi) hsp;have hfo2:=hfo.2;rw [hsp] at hfo2;obtain ⟨ad,ac,at_,rfl,hacs,hrest,hle,hcn⟩:=hL.pl.at
  have hlt:at_ < f.all.length:=by
   have:=kK List.length hrest
   rw [h5,xT,List.length_drop] at this;omega
  have ha:f.all[at_]=a:=by
   have e:f.all.drop at_=a :: r:=hrest.symm.trans h5;rw [List.drop_eq_getElem_cons hlt] at e;exact (List.cons.inj e).1
  obtain ⟨ga,oa,xa,xc,ta,tc,ea,ec,rfl,hga,d,hx,ht,he⟩:=hacs.cells hlt;rw [ha] at d hx;refine .inr ⟨a,f,r,xa,xc,ta,tc,ea,ec,bd,h3,h4,h5,hbd,h6,hfo.1,h7.1,h7.2,hx,?_⟩
  have p0:=hL.cell 0 rfl;rw [Nat.add_zero] at p0;have p1:=hL.cell 1 rfl;have p2:=hL.cell 2 rfl;have c2:=hL.fv;exact fun W hk=>zLx hfo2.split.2 hlt (fun W' q=>(hk.zB q).cell (fun h=>h) c2) (fun W' q=>⟨(hk.zB q).cell (fun h=>h) p0,(hk.zB q).cell (fun h=>h) p1,(hk.zB q).cell (fun h=>h) p2⟩) (fun W' q=>d W' (hk.zB q))
end
section
variable {w:World} {T:zT} {F:Nat -> Prop} {id b i:Nat} {u:Un} {p:zA2} {m:zW} {H:List HTh}
end
section
variable {w:World} {T:zT} {F:Nat -> Prop} {id b:Nat} {u:Un} {p:zA2} {m:zW} {H:List HTh}
end
structure Part where
 ty:TypeId
 sz:Nat
 ad:Option Addr
 n:Nat
 cap:Nat
 cs:List Value
def Part.v (p:Part):Value:=.slice p.ad p.n p.cap
def zGT (ty:TypeId) (sz:Nat):Part:=⟨ty,sz,none,0,0,[]⟩
structure Parts (w wr:World) (b:Nat) (pre:List Value) (ps:List Part):Prop where
 row:zC wr b (pre++ps.map Part.v)
 own:∀ (k:Nat) (p:Part),ps[k]?=some p -> wr.ownsRow 0 p.ty p.sz p.v p.n p.cs
 new:∀ (k:Nat) (p:Part) (g:Nat),ps[k]?=some p -> p.v.ownBlock=some g -> w.heap.size <= g /\ g ≠ b
 sep:∀ (j k:Nat) (p q:Part) (g:Nat),j ≠ k -> ps[j]?=some p -> ps[k]?=some q -> p.v.ownBlock=some g -> q.v.ownBlock ≠ some g
 bn:w.heap.size <= b
 keep:Keeps zA w wr
section
variable {w wr W:World} {b:Nat} {pre:List Value} {ps:List Part}
theorem Parts.keeps (h:Parts w wr b pre ps) (hk:Keeps zA wr W):Parts w W b pre ps :=
 ⟨h.row.keeps hk (fun h=>h),fun k p e=>zG (h.own k p e) hk (fun _ _ h=>h),h.new,h.sep,h.bn,h.keep.zB hk⟩
theorem Parts.start (l:List (TypeId × Nat)) (hr:zC wr b (pre++(l.map fun x=>zGT x.1 x.2).map Part.v)) (hb:w.heap.size <= b) (hk:Keeps zA w wr):Parts w wr b pre (l.map fun x=>zGT x.1 x.2):=by
 have hn:∀ (k:Nat) (p:Part),(l.map fun x=>zGT x.1 x.2)[k]?=some p -> ∃ ty sz,p=zGT ty sz:=fun k p e=>by
  rw [vT] at e;obtain ⟨x,_,rfl⟩:=Option.map_eq_some_iff.1 e;exact ⟨_,_,rfl⟩
 refine ⟨hr,fun k p e=>?_,fun k p g e h=>?_,fun j k p q g _ e _ h=>?_,hb,hk⟩
 ·obtain ⟨ty,sz,rfl⟩:=hn k p e
  exact xB _ _ _ _
 ·obtain ⟨ty,sz,rfl⟩:=hn k p e
  simp [zGT,Part.v,Value.ownBlock] at h
 ·obtain ⟨ty,sz,rfl⟩:=hn j p e
  simp [zGT,Part.v,Value.ownBlock] at h
theorem Parts.step {k:Nat} {p:Part} {n' cap':Nat} {ad':Option Addr} {xs:List Value} {w2:World} (h:Parts w wr b pre ps) (hp:ps[k]?=some p) (ha:zAE wr 0 p.ty p.sz p.v n' xs ad' cap' w2) :
 Keeps zA w w2 /\ zC w2 b (pre++ps.map Part.v) /\ Parts w (w2.setCell ⟨b,pre.length+k,none⟩ (.slice ad' n' cap')) b pre (ps.set k ⟨p.ty,p.sz,ad',n',cap',xs⟩):=by
 have hlt:=(yI.1 hp).1
 have hbl:b < wr.heap.size:=by
  refine h.row.lt (fun e=>?_)
  have:=kK List.length e
  rw [xI,uC,List.length_nil] at this;omega
 have k2:Keeps (fun q=>p.v.ownBlock=some q) wr w2:=ha.keeps (yB _ _) (fun q e _=>e);have k0:Keeps zA w w2:=ha.keeps h.keep (fun q e hq=>absurd hq (by have:=(h.new k p q hp e).1;omega));have r2:=h.row.keeps k2 (fun e=>(h.new k p b hp e).2 rfl);have hs:=h.keep.size;obtain ⟨w3,e3⟩:∃ z,z=w2.setCell ⟨b,pre.length+k,none⟩ (.slice ad' n' cap'):=⟨_,rfl⟩
 have k3:Keeps (fun q=>q=b) w2 w3:=by rw [e3];exact (yB (fun q=>q=b) w2).setCell (p:=⟨b,pre.length+k,none⟩) (fun _=>rfl) _
 have r3:=r2.set (pre.length+k) (by simp;omega) (.slice ad' n' cap')
 have er:(pre++ps.map Part.v).set (pre.length+k) (.slice ad' n' cap')=pre++(ps.set k ⟨p.ty,p.sz,ad',n',cap',xs⟩).map Part.v:=by
  rw [uQ _ _ (by omega),vS,List.map_set];rfl
 have hb':∀ g,(Value.slice ad' n' cap').ownBlock=some g -> p.v.ownBlock=some g \/ g=wr.heap.size:=ha.2.2
 rw [<- e3] at r3 ⊢;rw [er] at r3;refine ⟨k0,r2,r3,fun j q e=>?_,fun j q g e hg=>?_,fun i j q1 q2 g hij e1 e2 g1 g2=>?_,h.bn,(k0.trans k3 (fun q hq e=>absurd hq (by have e':q=b:=e;have:=h.bn;omega)))⟩
 ·by_cases hj:k=j
  ·subst hj
   rw [yY hlt] at e;cases e
   exact zG ha.1 k3 (fun q e1 e2=>by
    have e2:q=b:=e2;rcases hb' q e1 with h1 | h1
    ·exact (h.new k p q hp h1).2 e2
    ·omega)
  ·rw [uD hj] at e
   exact zG (zG (h.own j q e) k2 (fun g e1 e2=>h.sep k j p q g hj hp e e2 e1)) k3 (fun g e1 e2=>(h.new j q g e e1).2 e2)
 ·by_cases hj:k=j
  ·subst hj
   rw [yY hlt] at e;cases e;rcases hb' g hg with h1 | h1
   ·exact h.new k p g hp h1
   ·exact ⟨by omega,by omega⟩
  ·rw [uD hj] at e
   exact h.new j q g e hg
 ·by_cases h1:k=i
  ·subst h1
   rw [yY hlt] at e1;rw [uD hij] at e2;cases e1;rcases hb' g g1 with h3 | h3
   ·exact h.sep k j p q2 g hij hp e2 h3 g2
   ·have:=zO (h.own j q2 e2) g2;omega
  ·rw [uD h1] at e1
   by_cases h2:k=j
   ·subst h2
    rw [yY hlt] at e2;cases e2;rcases hb' g g2 with h3 | h3
    ·exact h.sep i k q1 p g hij e1 hp g1 h3
    ·have:=zO (h.own i q1 e1) g1;omega
   ·rw [uD h2] at e2
    exact h.sep i j q1 q2 g hij e1 e2 g1 g2
end
def zJS (w:World) (m:zW) (e:Ending) (w':World):Prop :=
 ∃ a1 q1 a2 q2 a3 q3 a4 q4,e=.returned (.agg #[.slice a1 m.cells.length q1, .slice a2 m.owners.length q2, .slice a3 m.zL.length q3, .slice a4 m.zL.length q4]) /\ zDS w m (.slice a1 m.cells.length q1) (.slice a2 m.owners.length q2) (.slice a3 m.zL.length q3) (.slice a4 m.zL.length q4) w'
section
variable {w:World} {T:zT} {F:Nat -> Prop} {id b:Nat} {u:Un} {p:zA2} {m:zW} {H:List HTh}
end
def zEL (w:World) (B C:Nat) (v:Value) (n size:Nat):Prop :=
 ∃ ad cap,v=.slice ad n cap /\ (n ≠ 0 -> ∃ g,ad=some ⟨g,0,none⟩ /\ B <= g /\ g < C /\ w.there g 0 (n*size))
theorem zEL.of {w:World} {B C n size:Nat} {v:Value} {cs:List Value} (h:zAG w B v n cs) (hl:cs.length=n*size) (hs:0 < size) (hC:w.heap.size <= C):zEL w B C v n size:=by
 obtain ⟨ad,cap,e,_,_,h1⟩:=h;refine ⟨ad,cap,e,fun hn=>?_⟩
 obtain ⟨g,h2,h3,h4⟩:=h1 hn;refine ⟨g,h2,h3,yH (h4.lt (fun e=>?_)) hC,by rw [<- hl];exact h4.thr⟩
 rw [e] at hl;simp at hl
 have:n*size ≠ 0:=Nat.mul_ne_zero hn (by omega)
 omega
theorem zEL.set {w:World} {B C n size:Nat} {v:Value} (h:zEL w B C v n size) (p:Addr) (u:Value):zEL (w.setCell p u) B C v n size:=by
 obtain ⟨ad,cap,e,h1⟩:=h;refine ⟨ad,cap,e,fun hn=>?_⟩
 obtain ⟨g,h2,h3,h4,h5⟩:=h1 hn;refine ⟨g,h2,h3,h4,fun j hj=>?_⟩
 obtain ⟨a,b⟩:=h5 j hj;refine ⟨?_,by rw [World.frozen?_setCell];exact b⟩
 by_cases e:p=⟨g,0+j,none⟩
 ·subst e
  rw [World.cell?_setCell_same' _ _ _ a];rfl
 ·rw [vG _ _ _ _ e];exact a
theorem zEL.zF {w w':World} {B C n size:Nat} {v:Value} (h:zEL w B C v n size) (hk:Keeps zA w w'):zEL w' B C v n size:=by
 obtain ⟨ad,cap,e,h1⟩:=h;refine ⟨ad,cap,e,fun hn=>?_⟩
 obtain ⟨g,h2,h3,h4,h5⟩:=h1 hn;exact ⟨g,h2,h3,h4,zFB h5 hk (fun h=>h)⟩
theorem zEL.cell {w:World} {B C n size:Nat} {ad:Option Addr} {m cap:Nat} (h:zEL w B C (.slice ad m cap) n size) {k:Nat} (hk:k < n):∃ g,ad=some ⟨g,0,none⟩ /\ B <= g /\ g < C /\ ∀ j,j < size -> ∃ old,w.cell? ⟨g,k*size+j,none⟩=some old /\ w.frozen? ⟨g,k*size+j,none⟩=false:=by
 obtain ⟨ad',cap',e,h1⟩:=h;cases e;obtain ⟨g,h2,h3,h4,h5⟩:=h1 (by omega);refine ⟨g,h2,h3,h4,fun j hj=>?_⟩
 have hlt:k*size+j < n*size:=by
  have:(k+1)*size <= n*size:=vR _ hk
  rw [vM] at this;omega
 obtain ⟨a,b⟩:=h5 _ hlt;rw [xA] at a b;obtain ⟨old,ho⟩:=Option.isSome_iff_exists.1 a;exact ⟨old,ho,b⟩
theorem zBy.slice {e size n:Nat} {w w':World} {cs:List Value} {v:Value} (h:w'.ownsRow 0 e size v n cs):∃ ad cap,v=.slice ad n cap:=by
 rcases h.2 with ⟨e1,e2⟩ | ⟨g,cap,cur,e1,_⟩
 ·exact ⟨none,0,by rw [e1,e2]⟩
 ·exact ⟨_,cap,e1⟩
theorem zGo {w:World} {e n:Nat} {v:Value} {cs:List Value} {size:Nat} (h:w.ownsRow 0 e size v n cs):zo w v n cs:=(zAG.of (B:=0) h (fun _ _=>yG _)).src
structure LkI (w0 wr:World) (B y:Nat) (s1 s2 s3 s4:Value) (nc no nf:Nat):Prop where
 keep:Keeps (fun q=>B <= q) w0 wr
 row:zC wr y [s1,s2,s3,s4]
 h1:zEL wr B y s1 nc 1
 h2:zEL wr B y s2 no 1
 h3:zEL wr B y s3 nf 1
 h4:zEL wr B y s4 nf 2
theorem LkI.set {w0 wr:World} {B y:Nat} {s1 s2 s3 s4:Value} {nc no nf:Nat} (h:LkI w0 wr B y s1 s2 s3 s4 nc no nf) (p:Addr) (h1:B <= p.block) (h2:p.block < y) (u:Value):LkI w0 (wr.setCell p u) B y s1 s2 s3 s4 nc no nf :=
 ⟨h.keep.setCell (p:=p) (fun _=>h1) u,h.row.other (fun e=>by omega) u,h.h1.set p u,h.h2.set p u,h.h3.set p u,h.h4.set p u⟩
theorem zAG.form {w:World} {B n:Nat} {v:Value} {cs:List Value} (h:zAG w B v n cs):∃ ad cap,v=.slice ad n cap:=by obtain ⟨ad,cap,e,_⟩:=h;exact ⟨ad,cap,e⟩
theorem zo.up {w w':World} {B:Nat} {v:Value} {n:Nat} {cs:List Value} (h:zo w v n cs) (hk:Keeps (fun q=>B <= q) w w') (hB:w.heap.size <= B) (hc:cs.length=0 -> n=0):zo w' v n cs:=by
 obtain ⟨ad,cap,rfl,h1⟩:=h;refine ⟨ad,cap,rfl,fun hn=>?_⟩
 obtain ⟨g,o,e,h2⟩:=h1 hn;refine ⟨g,o,e,fun j u hj=>?_⟩
 have hlt:=xO w _ (h2 j u hj);exact hk.cell (p:=⟨g,o+j,none⟩) (fun hb=>by have hb':B <= g:=hb;have hlt':g < w.heap.size:=hlt;omega) (h2 j u hj)
theorem zBf.up {w w':World} {B:Nat} {c1 c2 c3 c4:Value} {xs ys ss:List Int} {ps:List (Int × Int)} (h:zBf w c1 c2 c3 c4 xs ys ss ps) (hk:Keeps (fun q=>B <= q) w w') (hB:w.heap.size <= B):zBf w' c1 c2 c3 c4 xs ys ss ps :=
 ⟨h.cells.up hk hB (by simp [ints]),h.owners.up hk hB (by simp [ints]),h.sts.up hk hB (by simp [ints]),h.next.up hk hB (by intro e;rw [zAO zEb 2 (fun _=>rfl)] at e;omega)⟩
theorem zJL (m:zW) (k:Nat) (h:k <= m.zL.length):(zDI m k).length=k:=by simp [zDI];omega
theorem zHV (m:zW) (k:Nat):(zDJ m k).length=k:=by simp [zDJ]
theorem zDS.src {w w':World} {m:zW} {c1 c2 c3 c4:Value} (h:zDS w m c1 c2 c3 c4 w'):zBf w' c1 c2 c3 c4 m.cells m.owners (zDI m m.zL.length) (zDJ m m.zL.length) :=
 ⟨h.cells.src,h.owners.src,by rw [zJL m _ (yV _)];exact h.sts.src,by rw [zHV];exact h.next.src⟩
theorem zJS.out {w w':World} {m:zW} {e:Ending} (h:zJS w m e w'):∃ c1 c2 c3 c4,e=.returned (.agg #[c1,c2,c3,c4]) /\ zDS w m c1 c2 c3 c4 w':=by
 obtain ⟨a1,q1,a2,q2,a3,q3,a4,q4,e,h⟩:=h;exact ⟨_,_,_,_,e,h⟩
def zNW:Value -> Nat
 | .slice _ n _=>n
 | _=>0
def NBO (g0:Nat) (v:Value) (q:Nat):Prop:=q < g0 \/ v.ownBlock=some q
theorem zAq.app {R:zAz zx} {sz k:Nat} {ty ty':TypeId} {B:zCX} {D:Nat -> Prop} {w w':World} {b g0 n cap:Nat} {u:Un} {m:zW} {v:Value} {xs:List Value} {ad:Option Addr} (h:zAq R sz ty B D (NBO g0 v) w b u m) (ho:zAE w 0 ty' k v n xs ad cap w') (hD:∀ q,v.ownBlock=some q -> ¬ D q):zAq R sz ty B D (NBO g0 (.slice ad n cap)) w' b u m :=
 (h.zI7 (S:=fun q=>v.ownBlock=some q) (ho.keeps (yB _ _) (fun q e _=>e)) (fun q e=>⟨.inr e,hD q e⟩)).mono fun q hq=>by
   rcases hq with hq | hq
   ·exact .inl (.inl hq)
   ·rcases ho.2.2 q hq with e | e
    ·exact .inl (.inr e)
    ·exact .inr ⟨Nat.le_of_eq e.symm,zO ho.1 hq⟩
theorem zCV.app {w w':World} {b g0 n cap sz:Nat} {u:Un} {m:zW} {v:Value} {ty:TypeId} {xs:List Value} {ad:Option Addr} (h:zCV (NBO g0 v) w b u m) (ho:zAE w 0 ty sz v n xs ad cap w'):zCV (NBO g0 (.slice ad n cap)) w' b u m:=zAq.app h ho fun _ _ h=>h
abbrev zOT:Value:=.agg #[.slice none 0 0, .slice none 0 0, .slice none 0 0, .slice none 0 0]
def zNb (w:World) (r:List Evt × zW) (e:Ending) (w':World):Prop :=
 ∃ oa oc a1 q1 a2 q2 a3 q3 a4 q4,e=.returned (.tuple #[.slice oa r.1.length oc, .agg #[.slice a1 r.2.cells.length q1, .slice a2 r.2.owners.length q2, .slice a3 r.2.zL.length q3, .slice a4 r.2.zL.length q4], .int .i64 0]) ∧
   zAG w' w.heap.size (.slice oa r.1.length oc) r.1.length (r.1.flatMap evC) /\ zDS w r.2 (.slice a1 r.2.cells.length q1) (.slice a2 r.2.owners.length q2) (.slice a3 r.2.zL.length q3) (.slice a4 r.2.zL.length q4) w'
section
variable {cs:List Int} {mu:Int} {bs:List Bd} {w:World} {F:Nat -> Prop} {uca uta:Option Addr} {ucc utc:Nat}
theorem zHe (h:zCu w F cs bs uca uta) (ca:Option Addr) (cc:Nat) (ch:List Int) (hx:zo w (.slice ca ch.length cc) ch.length (ints ch)) (hr:newR ⟨cs,mu,bs⟩=0):Calls Tryz.prog 22 #[.agg #[.slice uca cs.length ucc, .int .i64 mu, .slice uta bs.length utc], .slice ca ch.length cc] w (zNb w (whole ⟨cs,mu,bs⟩ ch)):=by
 have hR:=zCT hr;have HNW:Hid (∀ W,Keeps zA w W -> Calls Tryz.prog 12 #[.agg #[.slice uca cs.length ucc, .int .i64 mu, .slice uta bs.length utc]] W fun e w'=>∃ b,e=.returned (.tuple #[.pointer (some ⟨b,0,none⟩), .int .i64 0]) /\ zCV (fun q=>q < W.heap.size) w' b ⟨cs,mu,bs⟩ (zAk ⟨cs,mu,bs⟩) /\ Keeps zA W w'):=fun W hk=>(h.zF hk).zNV hr
 obtain ⟨u,hu⟩:∃ u:Un,u=⟨cs,mu,bs⟩:=⟨_,rfl⟩
 rw [<- hu] at HNW hR ⊢;obtain ⟨B,hB⟩:∃ z,z=zCW u (zAk u):=⟨_,rfl⟩
 have HB60:Hid (B <= 60):=by
  show _ <= _
  have h1:=zIH u
  have h2:unS bs <= 60:=by
   unfold newR zB7 at hr;rw [show zV ⟨cs,mu,bs⟩=true by rw [<- hu];exact hR] at hr;revert hr
   simp only [kD];split
   ·intro e;cases e
   ·intro _;omega
  rw [hu] at h1 hB;have h1:zCW ⟨cs,mu,bs⟩ (zAk ⟨cs,mu,bs⟩) <= unS bs:=h1;omega
 obtain ⟨R,hRR⟩:∃ z,z=whole u ch:=⟨_,rfl⟩
 have HR0:Hid (R=([]++(whN u ch B 0 (zAk u)).1,(whN u ch B 0 (zAk u)).2)):=by show _=_;rw [hRR,hB];rfl
 have HX:Hid (∀ W,Keeps (fun q=>w.heap.size <= q) w W -> zo W (.slice ca ch.length cc) ch.length (ints ch)):=fun W hk=>hx.up hk (yV _) (by simp [ints])
 have HRT:=yA hR;have HPB:Hid (zCW u (zAk u) <= B):=by show _ <= _;rw [hB];exact yV _
 obtain ⟨j0,hj0,hy0,hy1,hy2⟩:=info_parts zIz;rw [<- hRR];clear h hx hr hR hu hB hRR;go_enter Tryz.func22,Tryz.ntmps22
 go_upto_region 1 with fail
 obtain ⟨b1,w1,x1,z1,R1,K1,s1⟩:=newRow w [.slice uca cs.length ucc, .int .i64 mu, .slice uta bs.length utc] 25;try rw [x1]
 try rw [z1]
 obtain ⟨y,w2,x2,z2,R2,K2,s2⟩:=newRow w1 [.slice none 0 0, .slice none 0 0, .slice none 0 0, .slice none 0 0] 50;have n1:b1+1=y:=s1.out.symm.trans x2;try rw [n1]
 try rw [x2]
 try rw [z2]
 have y1:=(R1.keeps K2 (fun h=>h)).zEH;have HRY:=yA R2;have k2:=zJ w2;have HK2:Hid (Keeps zA w w2):=K1.zB K2;have HY:Hid (w.heap.size <= y /\ y < w2.heap.size):=⟨by rw [<- x2];exact K1.size,R2.lt (by simp)⟩;have yy:=R2.zDC;have f0:=zAL R2 0 (by decide);have f1:=zAL R2 1 (by decide);have f2:=zAL R2 2 (by decide);have f3:=zAL R2 3 (by decide);clear n1 x1 z1 x2 z2 R1 R2 K1 K2 s1 s2;go_upto_region 5 with (go_at_call 12;refine (HNW.out _ HK2.out).mono ?_;rintro e w3 ⟨b,rfl,hm,k3⟩;have HK3:=yA k3;have HM:=yA hm;clear hm k3)
 obtain ⟨g0,hg0⟩:∃ g,g=w2.heap.size:=⟨_,rfl⟩
 have HG0:=yA hg0
 have M3:Hid (zCV (NBO g0 (.slice none 0 0)) w3 b u (zAk u)):=by
  refine HM.out.mono (fun q hq=>?_)
  rcases hq with h | h
  ·rw [<- hg0];exact h
  ·simp [Value.ownBlock] at h
 have HE:=yA M3.out.enabled;clear hg0 HM y1 yy f0 f1 f2 f3 k2 HNW;go_upto_region 6 with (go_at_call 46;refine HE.out.mono ?_;rintro e w4 ⟨v,rfl,ho,k4,hob⟩;obtain ⟨la,lc,evl⟩:∃ ad cap,v=.slice ad (zAy (zAk u)).length cap:=zBy.slice (w:=w) ho;subst evl;have HSL:=yA (zGo ho);have HK4:=yA k4;clear ho hob k4)
 have M4:=yA (M3.out.zF HK4.out);have HK24:Hid (Keeps (fun q=>g0 <= q) w2 w4):=(HK3.out.zB HK4.out).mono (fun _ _ h=>h.elim);clear HE M3 HK3 HK4;go_loopw [9,10] (fun ov lv wr=>∃ (m:zW) (es:List Evt) (oa:Option Addr) (oc:Nat) (la:Option Addr) (lc ln lo:Nat),ov=.slice oa lo oc /\ lv=.slice la ln lc /\ lo <= 60 /\ Hid (lo=es.length /\ ln=(zAy m).length /\ zo wr (.slice la ln lc) ln (ints (zAy m)) /\ wr.ownsRow 0 40 5 (.slice oa lo oc) lo (es.flatMap evC) /\ (∀ g,(Value.slice oa lo oc).ownBlock=some g -> g0 <= g) /\ zCV (NBO g0 (.slice oa lo oc)) wr b u m /\ Keeps (fun q=>g0 <= q) w2 wr /\ zCW u m+lo <= B /\ ∃ f,zCW u m <= f /\ R=(es++(whN u ch f es.length m).1,(whN u ch f es.length m).2))) (fun ov _ _=>B - zNW ov)
 case atStart=>exact ⟨zAk u,[],none,0,la,lc,_,0,rfl,rfl,yG _,rfl,rfl,HSL.out,xB _ _ _ _,fun g e=>by exact J154 _,M4.out,HK24.out,HPB.out,B,HPB.out,HR0.out⟩
 case round =>
  obtain ⟨m,es,oa,oc,la,lc,ln,lo,rfl,rfl,hlo,HI⟩:=hrel;clear M4 HSL HK24;obtain ⟨e1,e2,hsl,how,hnew,hmm,hkk,hpot,f,hf,hres⟩:=HI.out;have HKK:=yA hkk;have HM:=yA hmm;have HOW:=yA how;by_cases h0:ln=0
  ·subst h0
   have he:zAy m=[]:=vN e2.symm;have HFIN:Hid (R=(es,m) /\ lo=es.length):=⟨by rw [hres,zHE HRT.out ch he];simp,e1⟩;have HNEW:=yA hnew;have SE:=yA hmm.state;have HRYr:=yA (HRY.out.keeps hkk (fun h=>by have h:g0 <= y:=h;have:=HG0.out;have:=HY.out.2;omega));have yy:=HRYr.out.zDC;have f0:=zAL HRYr.out 0 (by decide);have f1:=zAL HRYr.out 1 (by decide);have f2:=zAL HRYr.out 2 (by decide);have f3:=zAL HRYr.out 3 (by decide);have HGS:Hid (g0 <= wr.heap.size):=by have:=HG0.out;have:=hkk.size;show _ <= _;omega
   have kr:=zJ wr;clear e1 e2 hsl how hnew hmm hkk hpot hf hres he HI
   go_wp2_with (first
    | (go_at_call 64;refine (zKh _ oa lo oc es (by rw [HFIN.out.2] at HOW;exact (by rw [HFIN.out.2];exact HOW.out))).mono ?_;rintro e w5 ⟨rfl,hw⟩;have hw:=hw.symm;subst hw)
    | (go_at_call 37;refine SE.out.mono ?_;rintro e w8 ⟨t1,t2,c3,c4,rfl,hs⟩;obtain ⟨t3,u3,e3⟩:=hs.sts.form;obtain ⟨t4,u4,e4⟩:=hs.next.form;subst e3 e4;have S8:=yA hs;have k8:=hs.keeps;clear hs))
   have K28:Hid (Keeps zA w w8):=(HK2.out.trans HKK.out (fun q hq e=>by exact J185 _)).zB k8;have HKY:=zC5 y [.slice t1 m.cells.length m.cells.length, .slice t2 m.owners.length m.owners.length, .slice t3 m.zL.length u3, .slice t4 m.zL.length u4] 0 w8;obtain ⟨R5,K5⟩:=zDM (w:=w) [.slice t1 m.cells.length m.cells.length, .slice t2 m.owners.length m.owners.length, .slice t3 m.zL.length u3, .slice t4 m.zL.length u4] (HRYr.out.keeps k8 (fun h=>h)) rfl K28.out HY.out.1;simp only [zGG,xA,Nat.reduceAdd] at R5 K5 HKY;generalize (((w8.setCell ⟨y,0,none⟩ (.slice t1 m.cells.length m.cells.length)).setCell ⟨y,1,none⟩ (.slice t2 m.owners.length m.owners.length)).setCell ⟨y,2,none⟩ (.slice t3 m.zL.length u3)).setCell ⟨y,3,none⟩ (.slice t4 m.zL.length u4)=wz at R5 K5 HKY ⊢;refine xR (v:=.tuple #[.slice oa lo lo, .agg #[.slice t1 m.cells.length m.cells.length, .slice t2 m.owners.length m.owners.length, .slice t3 m.zL.length u3, .slice t4 m.zL.length u4], .int .i64 0]) (by simp [results,Tryz.results22,go_sem,R5.cell (k:=0) rfl,R5.cell (k:=1) rfl,R5.cell (k:=2) rfl,R5.cell (k:=3) rfl]) rfl ?_
   obtain ⟨q1,q2⟩:=HFIN.out;subst q1;have hny:∀ q,wr.heap.size <= q -> ¬ (fun q=>q=y) q:=fun q hq e=>by have e':q=y:=e;have:=HGS.out;have:=HY.out.2;have:=HG0.out;omega
   have hws:w.heap.size <= wr.heap.size:=by have:=HGS.out;have:=HG0.out;have:=HY.out;omega
   have hF:zAG wz w.heap.size (.slice oa lo lo) lo (es.flatMap evC):=by
    have h1:=zAG.of (B:=g0) HOW.out HNEW.out;have h2:=(h1.keeps k8 (fun _ _ h=>h)).keeps HKY (fun q hq e=>by have e':q=y:=e;have:=HY.out.2;have:=HG0.out;omega);obtain ⟨ad,cap,e,c1,c2,c3⟩:=h2.mono (B':=w.heap.size) (by have:=HG0.out;have:=HY.out;omega);cases e;refine ⟨_,lo,rfl,by unfold maxLen;omega,fun e=>?_,c3⟩
    rcases uV lo with h | h
    ·exact h
    ·obtain ⟨g,e2,_⟩:=c3 (by omega)
     rw [e] at e2;cases e2
   rw [q2] at hF ⊢;exact ⟨oa,_,t1,_,t2,_,t3,u3,t4,u4,rfl,hF,K5,(S8.out.cells.keeps HKY hny).mono hws,(S8.out.owners.keeps HKY hny).mono hws,(S8.out.sts.keeps HKY hny).mono hws,(S8.out.next.keeps HKY hny).mono hws⟩
  ·have hlp:0 < ln:=by omega
   have he:zAy m ≠ []:=fun e=>h0 (by rw [e2,e];rfl)
   have h8:ln <= 1000:=by
    have h1:=zJV m m.zL.length;rw [zMr] at h1;have h2:=(zBK HRT.out).2.1;have h3:=hmm.ok.zL;omega
   obtain ⟨f',hw1,hw2,hw3,hw4⟩:=zHc HRT.out ch (k:=es.length) hmm.ok he hf;have hsx:zo wr (.slice ca ch.length cc) ch.length (ints ch):=HX.out wr (HK2.out.trans hkk (fun q hq e=>by exact J185 _) |>.mono (fun _ _ h=>h.elim));have HCH:=yA (zJB wr ca cc ch lo ln hsx hlp h8);obtain ⟨cc0,hc0⟩:∃ z,z=chN ch lo ln:=⟨_,rfl⟩
   have hclt:cc0 < ln:=by rw [hc0];exact zKw ch lo hlp
   have hsl':zo wr (.slice la ln lc) (zAy m).length (ints (zAy m)):=by rw [<- e2];exact hsl
   obtain ⟨ad,cap,ee,hcl⟩:=hsl'.ints;obtain ⟨gl,ol,el,cl⟩:=hcl cc0 (by omega);simp only [xY] at ee;obtain ⟨rfl,hz,rfl⟩:=ee;clear hz;subst el;obtain ⟨t,ht⟩:∃ z,z=(zAy m).getD cc0 0:=⟨_,rfl⟩
   have HT:Hid (t=whT ch es.length m):=by show _=_;rw [ht,hc0];unfold whT;rw [<- e2,<- e1]
   rw [<- ht] at cl;rw [<- hc0] at HCH;rcases hst:stepM u m t with ⟨m',⟨xt,xk,xo,xv,xb⟩,fl⟩
   have HST:Hid (Calls Tryz.prog 18 #[.pointer (some ⟨b,0,none⟩), .int .i64 t] wr fun e w'=>e=.returned (.tuple #[.agg #[.int .i64 xt, .int .i64 xk, .int .i64 xo, .int .i64 xv, .int .i64 xb], .int .i64 fl]) /\ zCV (NBO g0 (.slice oa lo oc)) w' b u m' /\ Keeps (fun q=>¬ NBO g0 (.slice oa lo oc) q) wr w'):=by
    have h:=hmm.step t;rw [hst] at h;exact h
   have HRES:Hid (R=((es++[(⟨xt,xk,xo,xv,xb⟩:Evt)])++(whN u ch f' (es++[(⟨xt,xk,xo,xv,xb⟩:Evt)]).length m').1,(whN u ch f' (es++[(⟨xt,xk,xo,xv,xb⟩:Evt)]).length m').2) /\ zCW u m' <= f' /\ zCW u m'+(lo+1) <= B /\ lo=es.length):=by
    rw [<- HT.out,hst] at hw1 hw2 hw3;rw [hw1] at hres;exact ⟨by rw [hres];simp,hw2,by have:=hw3;simp only at this;omega,e1⟩
   have HNEW:=yA hnew;have i1:(0:Int) <= cc0:=by omega
   have i2:(cc0:Int) < ln:=by omega
   have kr:=zJ wr;clear HI e1 e2 hsl how hnew hmm hkk hpot hf hres he h8 hw1 hw2 hw3 hw4 hsx hsl' hcl ht hc0 hst hclt
   go_upto_region 9 with (first
    | (go_at_call 63;refine HCH.out.mono ?_;rintro e w5 ⟨rfl,rfl⟩)
    | (go_at_call 18;refine HST.out.mono ?_;rintro e w6 ⟨rfl,hm,hk⟩;have M6:=yA hm;have HK6:=yA hk;clear hm hk))
   obtain ⟨yx,w7,x1,x2,RX,KX,sX⟩:=newRow w6 [.int .i64 xt, .int .i64 xk, .int .i64 xo, .int .i64 xv, .int .i64 xb] 40;rw [x1,x2];have M7:=yA (M6.out.zF KX);have HOW7:=yA (zG (zG HOW.out HK6.out (fun q e h=>h (.inr e))) KX (fun _ _ h=>h))
   have K27:Hid (Keeps (fun q=>g0 <= q) w2 w7):=(HKK.out.trans (HK6.out.mono (fun q _ hn=>by
    have hn':¬ q < g0:=fun h=>hn (.inl h)
    show g0 <= q
    omega)) (fun _ _ h=>h)).trans KX (fun _ _ h=>h.elim)
   have yx5:=RX.five;have k7:=zJ w7;have lx:yx < w7.heap.size:=RX.lt (by simp);have nx:yx ≠ w7.heap.size:=by omega
   clear x1 x2 KX sX RX M6 HK6 HST HCH cl
   go_wp2_with (first
    | (at_builtin;refine zH _ (by rfl) _ _ 47 (by rfl) 0 40 j0 _ 5 40 Tryz.underlying47 hj0 hy0 hy1 hy2 rfl (by decide) (.slice oa lo oc) lo (es.flatMap evC) (by rfl) (zG HOW7.out ((yB zA _).alloc _) (fun _ _ h=>h)) (.slice (some ⟨w7.heap.size,0,none⟩) 1 1) 1 (evC ⟨xt,xk,xo,xv,xb⟩) (by rfl) (xQ (yN (yF _ _))) rfl (by simp [evC,Value.oneCell']) (by unfold maxLen;omega) (by omega) (yG _) ?_;intro ad9 cap9 w8 hout;have HO:=yA hout;have M8:=yA (zCV.app (M7.out.zF ((yB _ _).alloc _)) hout);clear hout)
    | (go_at_call 46;refine M8.out.enabled.mono ?_;rintro e w9 ⟨v,rfl,ho,k9,hob⟩;obtain ⟨la2,lc2,evl⟩:∃ ad cap,v=.slice ad (zAy m').length cap:=zBy.slice (w:=w) ho;subst evl;have HSL:=yA (zGo ho);have HK9:=yA k9;clear ho hob k9))
   have hB:=HB60.out;obtain ⟨r1,r2,r3,r4⟩:=HRES.out;have hlen:lo+1=(es++[(⟨xt,xk,xo,xv,xb⟩:Evt)]).length:=by rw [xI,r4];rfl
   refine ⟨⟨m',es++[⟨xt,xk,xo,xv,xb⟩],ad9,cap9,la2,lc2,(zAy m').length,lo+1,rfl,rfl,by omega,hlen,rfl,HSL.out,?_,?_,M8.out.zF HK9.out,?_,r3,f',r2,r1⟩,by simp [zNW];omega⟩
   ·rw [show (es++[(⟨xt,xk,xo,xv,xb⟩:Evt)]).flatMap evC=es.flatMap evC++evC ⟨xt,xk,xo,xv,xb⟩ by simp]
    exact zG HO.out.1 HK9.out (fun _ _ h=>h)
   ·intro g e
    rcases HO.out.2.2 g e with h | h
    ·exact HNEW.out g h
    ·have h1:=K27.out.size
     have h2:=HG0.out;simp at h
     omega
   ·exact (HO.out.keeps (K27.out.alloc _) (fun q e _=>HNEW.out q e)).trans HK9.out (fun _ _ h=>h.elim)
end
end Go.Proofs.YtfjgcedkfnmdkaaGreatDoor
