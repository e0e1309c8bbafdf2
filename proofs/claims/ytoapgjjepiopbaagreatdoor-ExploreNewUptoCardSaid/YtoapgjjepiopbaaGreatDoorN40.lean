/- Layer N: texts joined. -/
import Derived.Test.YtoapgjjepiopbaaGreatDoorN37
set_option linter.all false
set_option maxHeartbeats 1000000
set_option maxRecDepth 8000
namespace Go.Proofs.YtoapgjjepiopbaaGreatDoor
theorem J139 (P:Prop) (h:P:=by
 rw [e1];clear e1;go_enter Tryz.func181,Tryz.ntmps181
 go_wp2
 exact J36 _):P:=h
theorem J203 (P:Prop) (h:P:=by rw [<- hlen];exact h.cell0):P:=h
def chN (ch:List Int) (k n:Nat):Nat:=if k < ch.length then (ch.getD k 0 % (n:Int)).toNat else 0
def whT (ch:List Int) (k:Nat) (m:WMa):Int:=(zKP m).getD (chN ch k (zKP m).length) 0
def whN (u:Un) (ch:List Int):Nat -> Nat -> WMa -> List Evt × WMa
 | 0,_,m=>([],m)
 | f+1,k,m=>if zKP m=[] then ([],m) else ((stepM u m (whT ch k m)).2.1 :: (whN u ch f (k+1) (stepM u m (whT ch k m)).1).1,(whN u ch f (k+1) (stepM u m (whT ch k m)).1).2)
def whole (u:Un) (ch:List Int):List Evt × WMa:=whN u ch (zPW u (zFu u)) 0 (zFu u)
end Go.Proofs.YtoapgjjepiopbaaGreatDoor
namespace Go.Proofs.YtoapgjjepiopbaaGreatDoor
open Go.RowKit
theorem zU.ints {w:World} {v:Value} {xs:List Int} (h:zU w v xs.length (ints xs)):∃ ad cap,v=.slice ad xs.length cap /\ ∀ k,k < xs.length -> ∃ g o,ad=some ⟨g,o,none⟩ /\ w.cell? ⟨g,o+k,none⟩=some (.int .i64 (xs.getD k 0)):=by
 exact J93 _
theorem zU.zD {w w':World} {v:Value} {n:Nat} {cs:List Value} (h:zU w v n cs) (hk:Keeps zA w w'):zU w' v n cs:=h.keeps hk (fun _ _ h=>h)
theorem zLI {xs ys:List Int} (hl:xs.length=ys.length) (h:∀ j,j < xs.length -> xs.getD j 0=ys.getD j 0):xs=ys:=by
 apply List.ext_getElem hl
 intro j h1 h2
 have:=h j h1
 simpa [List.getD,h1,h2] using this
theorem zGW (w:World) (v1 v2:Value) (xs ys:List Int) (h1:zU w v1 xs.length (ints xs)) (h2:zU w v2 ys.length (ints ys)) (hm:xs.length <= 1000) :
 Calls Tryz.prog 82 #[v1,v2] w fun e w'=>e=.returned (.bool (decide (xs=ys))) /\ Keeps zA w w':=by
 have H1:=Lib.hid h1;have H2:=Lib.hid h2;obtain ⟨a1,c1,rfl,k1⟩:=h1.ints;obtain ⟨a2,c2,rfl,k2⟩:=h2.ints;clear h1 h2;by_cases hl:xs.length=ys.length
 ·have HL:=Lib.hid hl
  rw [<- hl];have hb:((xs.length:Int) != xs.length)=false:=by simp
  obtain ⟨n,hn⟩:=eX xs.length;have HN:=Lib.hid hn;rw [<- hn] at hm ⊢;clear k1 k2 hl hn hb;go_enter Tryz.func82,Tryz.ntmps82
  go_wp2_with fail
  go_loopw [5] (fun i wr=>∃ k:Nat,k <= n /\ i=.int .i64 k /\ Hid (∀ j,j < k -> xs.getD j 0=ys.getD j 0) /\ Hid (Keeps zA w wr)) (fun i _=>n - (intOf i).toNat)
  case atStart=>exact ⟨0,Nat.zero_le _,rfl,fun j hj=>absurd hj (Nat.not_lt_zero _),Keeps.refl _ _⟩
  case round =>
   obtain ⟨k,hk,rfl,hag,hkp⟩:=hrel;by_cases hlt:k < n
   ·obtain ⟨ad,cap,e1,q1⟩:=(H1.out.zD hkp.out).ints
    obtain ⟨ad',cap',e2,q2⟩:=(H2.out.zD hkp.out).ints;obtain ⟨g1,o1,e3,d1⟩:=q1 k (by rw [<- HN.out];exact hlt);obtain ⟨g2,o2,e4,d2⟩:=q2 k (by rw [<- HL.out,<- HN.out];exact hlt);cases e1;cases e2;subst e3 e4;have i1:(0:Int) <= k:=by omega
    have i2:(k:Int) < n:=by omega
    clear q1 q2 hk;by_cases he:xs.getD k 0=ys.getD k 0
    ·have hb:(xs.getD k 0 != ys.getD k 0)=false:=by rw [he];simp
     have HA:Hid (∀ j,j < k+1 -> xs.getD j 0=ys.getD j 0):=fun j hj=>by
      by_cases e:j=k
      ·subst e;exact he
      ·exact hag.out j (by omega)
     generalize xs.getD k 0=u1 at d1 he hb;generalize ys.getD k 0=u2 at d2 he hb;clear he hag;go_wp2_with fail
     go_region
     all_goals (
      go_wp2_with fail
      first
      | exact ⟨⟨k+1,by omega,by go_num,HA,hkp.out.drew⟩,by simp [intOf];omega⟩
      | trace_state)
    ·have hb:(xs.getD k 0 != ys.getD k 0)=true:=bne_iff_ne.2 he
     have HNE:Hid (decide (xs=ys)=false):=decide_eq_false (fun e=>he (by rw [e]));generalize xs.getD k 0=u1 at d1 he hb;generalize ys.getD k 0=u2 at d2 he hb;clear he hag;go_wp2_with fail
     go_region
     all_goals (
      go_wp2_with fail
      go_ret
      exact ⟨congrArg (fun b=>Ending.returned (.bool b)) HNE.out.symm,hkp.out.drew⟩)
   ·have hkn:k=n:=by omega
    subst hkn;clear hlt;have HE:Hid (decide (xs=ys)=true):=decide_eq_true (zLI HL.out (fun j hj=>hag.out j (by rw [HN.out];exact hj)));go_wp2_with fail
    go_ret
    exact ⟨congrArg (fun b=>Ending.returned (.bool b)) HE.out.symm,hkp.out⟩
 ·have hb:((xs.length:Int) != ys.length)=true:=by rw [bne_iff_ne];omega
  have HNE:Hid (decide (xs=ys)=false):=decide_eq_false (fun e=>hl (by rw [e]));clear k1 k2;generalize xs.length=n1 at hb hl;generalize ys.length=n2 at hb hl;clear hl;go_enter Tryz.func82,Tryz.ntmps82
  go_wp2_with fail
  go_ret
  exact ⟨congrArg (fun b=>Ending.returned (.bool b)) HNE.out.symm,Keeps.refl _ _⟩
theorem zEE (w:World) (v1 v2:Value) (xs ys:List Int) (h1:zU w v1 xs.length (ints xs)) (h2:zU w v2 ys.length (ints ys)) (hm:xs.length <= 1000) :
 Calls Tryz.prog 41 #[v1,v2] w fun e w'=>e=.returned (.bool (decide (xs=ys))) /\ Keeps zA w w':=by
 have HC:=Lib.hid (zGW w v1 v2 xs ys h1 h2 hm);clear h1 h2;go_enter Tryz.func41,Tryz.ntmps41
 go_wp2_with (go_at_call 82;refine HC.out.mono ?_;rintro e w1 ⟨rfl,g1⟩;have G1:=Lib.hid g1;clear g1)
 go_ret
 exact ⟨rfl,G1.out⟩
theorem zU.acts {w:World} {v:Value} {ps:List (Int × Int)} (h:zU w v ps.length (ps.flatMap zBZ)):∃ ad cap,v=.slice ad ps.length cap /\ ∀ k p,ps[k]?=some p -> ∃ g o,ad=some ⟨g,o,none⟩ /\ w.cell? ⟨g,o+k*2,none⟩=some (.int .i64 p.1) /\ w.cell? ⟨g,o+k*2+1,none⟩=some (.int .i64 p.2):=by
 obtain ⟨ad,cap,e,h1⟩:=h;refine ⟨ad,cap,e,fun k p hk=>?_⟩
 have hlt:=(List.getElem?_eq_some_iff.1 hk).1;obtain ⟨g,o,e1,h2⟩:=h1 (by omega);refine ⟨g,o,e1,?_,?_⟩
 ·exact h2 (k*2) _ (by have:=zAu zBZ 2 (fun _=>rfl) ps k 0 (by decide);rw [hk] at this;simpa [zBZ] using this)
 ·have:=h2 (k*2+1) (.int .i64 p.2) (by have:=zAu zBZ 2 (fun _=>rfl) ps k 1 (by decide);rw [hk] at this;simpa [zBZ] using this)
  rw [Nat.add_assoc];exact this
structure zDv (w:World) (c1 c2 c3 c4:Value) (xs ys ss:List Int) (ps:List (Int × Int)):Prop where
 cells:zU w c1 xs.length (ints xs)
 owners:zU w c2 ys.length (ints ys)
 sts:zU w c3 ss.length (ints ss)
 next:zU w c4 ps.length (ps.flatMap zBZ)
theorem zDv.keeps {w w':World} {c1 c2 c3 c4:Value} {xs ys ss:List Int} {ps:List (Int × Int)} (h:zDv w c1 c2 c3 c4 xs ys ss ps) (hk:Keeps zA w w'):zDv w' c1 c2 c3 c4 xs ys ss ps :=
 ⟨h.cells.zD hk,h.owners.zD hk,h.sts.zD hk,h.next.zD hk⟩
def evC (x:Evt):List Value:=[.int .i64 x.thread, .int .i64 x.kind, .int .i64 x.obj, .int .i64 x.value, .int .i64 x.bad]
theorem zIq (x:Evt):(evC x).length=5:=rfl
theorem zKg:(Tryz.prog.info? 67).map (fun i=>(i.zero,i.size,i.bytes))=some (some (.agg #[.int .i64 0, .int .i64 0, .int .i64 0, .int .i64 0, .int .i64 0]),5,40):=by kernel_rfl
theorem zLN.at {w:World} {F:Nat -> Prop} {f:WFr} {cs:List Value} (h:zLN w F f cs):∃ (ad:Option Addr) (ac at_:Nat),cs=[.slice ad f.all.length ac, .int .i64 at_, .int .i64 f.left] /\ zAG w F f.all ad /\ f.rest=f.all.drop at_ /\ at_ <= f.all.length /\ Ac.zM f.all <= 1000:=h
def zMY (W:World) (g o:Nat) (a:Ac) (xa:Option Addr) (xc:Nat) (ta:Option Addr) (tc:Nat) (ea:Option Addr) (ec:Nat):Prop:=W.cell? ⟨g,o,none⟩=some (.int .i64 a.kind) /\ W.cell? ⟨g,o+1,none⟩=some (.int .i64 a.reg) /\ W.cell? ⟨g,o+2,none⟩=some (.int .i64 a.obj) /\ W.cell? ⟨g,o+3,none⟩=some (.int .i64 a.ex.kind) /\ W.cell? ⟨g,o+4,none⟩=some (.int .i64 a.ex.num) /\ W.cell? ⟨g,o+5,none⟩=some (.string a.ex.nm) /\ W.cell? ⟨g,o+6,none⟩=some (.slice xa a.ex.args.length xc) /\ W.cell? ⟨g,o+7,none⟩=some (.int .i64 a.count) /\ W.cell? ⟨g,o+8,none⟩=some (.slice ta a.thn.length tc) /\ W.cell? ⟨g,o+9,none⟩=some (.slice ea a.els.length ec)
theorem zAG.cells {w:World} {F:Nat -> Prop} {l:List Ac} {ad:Option Addr} (h:zAG w F l ad) {i:Nat} (hi:i < l.length):∃ g o xa xc ta tc ea ec,ad=some ⟨g,o,none⟩ /\ F g /\ (∀ W,Keeps zA w W -> zMY W g (o+i*10) l[i] xa xc ta tc ea ec) /\ zR w F l[i].ex.args xa /\ zAG w F l[i].thn ta /\ zAG w F l[i].els ea:=by
 obtain ⟨g,o,xa,xc,ta,tc,ea,ec,e,hg,c0,c1,c2,c3,c4,c5,c6,c7,c8,c9,h1,h2,h3⟩:=h.at hi;exact ⟨g,o,xa,xc,ta,tc,ea,ec,e,hg,fun W q=>⟨q.cell (fun h=>h) c0,q.cell (fun h=>h) c1,q.cell (fun h=>h) c2,q.cell (fun h=>h) c3,q.cell (fun h=>h) c4,q.cell (fun h=>h) c5,q.cell (fun h=>h) c6,q.cell (fun h=>h) c7,q.cell (fun h=>h) c8,q.cell (fun h=>h) c9⟩,h1,h2,h3⟩
section
variable {w w' W:World} {T:zAA} {F:Nat -> Prop} {id b i:Nat} {u:Un} {p:zDP} {m:WMa} {H:List HTh}
theorem MaP.thc {R:zBA WFr} {sz:Nat} {ty:TypeId} {B:zDx} (h:MaP R sz ty B w T F id b u p m H) (hi:i < m.ths.length):∃ rv fv,H[i]?=some ⟨(m.get i).st,rv,fv⟩ /\ (∀ W,Keeps zA w W -> W.cell? ⟨p.gt,i*3,none⟩=some (.int .i64 (m.get i).st) /\ W.cell? ⟨p.gt,i*3+1,none⟩=some rv /\ W.cell? ⟨p.gt,i*3+2,none⟩=some fv) ∧
 (∀ j,j < 3 -> ∀ W,Keeps zA w W -> W.frozen? ⟨p.gt,i*3+j,none⟩=false):=by
 obtain ⟨rv,fv,hH,_⟩:=h.ths.get (WMa.get_some hi);have th:=zDB h.ths.row hH;refine ⟨rv,fv,hH,fun W q=>⟨q.cell (fun h=>h) th.1,q.cell (fun h=>h) th.2.1,q.cell (fun h=>h) th.2.2⟩,fun j hj=>zF7 (zMj h.ths.row (by rw [h.ths.len];exact hi) j hj) ?_⟩
 rcases (show j=0 \/ j=1 \/ j=2 by omega) with rfl | rfl | rfl
 ·exact ⟨_,th.1⟩
 ·exact ⟨_,th.2.1⟩
 ·exact ⟨_,th.2.2⟩
end
theorem zBK {w:World} {g:Nat} {cs:List Value} (r:zC w g cs):∀ j,j < cs.length -> ∀ W,Keeps zA w W -> W.frozen? ⟨g,j,none⟩=false:=fun j hj=>zF7 (r.free (k:=j) hj) ⟨_,r.cell (List.getElem?_eq_getElem hj)⟩
structure Part where
 ty:TypeId
 sz:Nat
 ad:Option Addr
 n:Nat
 cap:Nat
 cs:List Value
def Part.v (p:Part):Value:=.slice p.ad p.n p.cap
structure Parts (w wr:World) (b:Nat) (pre:List Value) (ps:List Part):Prop where
 row:zC wr b (pre++ps.map Part.v)
 own:∀ (k:Nat) (p:Part),ps[k]?=some p -> wr.ownsRow 0 p.ty p.sz p.v p.n p.cs
 new:∀ (k:Nat) (p:Part) (g:Nat),ps[k]?=some p -> p.v.ownBlock=some g -> w.heap.size <= g /\ g ≠ b
 sep:∀ (j k:Nat) (p q:Part) (g:Nat),j ≠ k -> ps[j]?=some p -> ps[k]?=some q -> p.v.ownBlock=some g -> q.v.ownBlock ≠ some g
 bn:w.heap.size <= b
 keep:Keeps zA w wr
section
variable {w wr W:World} {b:Nat} {pre:List Value} {ps:List Part}
theorem Parts.keeps (h:Parts w wr b pre ps) (hk:Keeps zA wr W):Parts w W b pre ps :=
 ⟨h.row.keeps hk (fun h=>h),fun k p e=>zF (h.own k p e) hk (fun _ _ h=>h),h.new,h.sep,h.bn,h.keep.zB hk⟩
end
def zIu (w:World) (m:WMa) (e:Ending) (w':World):Prop :=
 ∃ a1 q1 a2 q2 a3 q3 a4 q4,e=.returned (.agg #[.slice a1 m.cells.length q1, .slice a2 m.owners.length q2, .slice a3 m.ths.length q3, .slice a4 m.ths.length q4]) /\ zGp w m (.slice a1 m.cells.length q1) (.slice a2 m.owners.length q2) (.slice a3 m.ths.length q3) (.slice a4 m.ths.length q4) w'
section
variable {w:World} {T:zAA} {F:Nat -> Prop} {id b:Nat} {u:Un} {p:zDP} {m:WMa} {H:List HTh}
end
def zEM (w:World) (B C:Nat) (v:Value) (n size:Nat):Prop :=
 ∃ ad cap,v=.slice ad n cap /\ (n ≠ 0 -> ∃ g,ad=some ⟨g,0,none⟩ /\ B <= g /\ g < C /\ w.there g 0 (n*size))
theorem zEM.of {w:World} {B C n size:Nat} {v:Value} {cs:List Value} (h:zBL w B v n cs) (hl:cs.length=n*size) (hs:0 < size) (hC:w.heap.size <= C):zEM w B C v n size:=by
 obtain ⟨ad,cap,e,_,_,h1⟩:=h;refine ⟨ad,cap,e,fun hn=>?_⟩
 obtain ⟨g,h2,h3,h4⟩:=h1 hn;refine ⟨g,h2,h3,Nat.lt_of_lt_of_le (h4.lt (fun e=>?_)) hC,by rw [<- hl];exact h4.thr⟩
 rw [e] at hl;simp at hl
 have:n*size ≠ 0:=Nat.mul_ne_zero hn (by omega)
 omega
theorem zEM.set {w:World} {B C n size:Nat} {v:Value} (h:zEM w B C v n size) (p:Addr) (u:Value):zEM (w.setCell p u) B C v n size:=by
 obtain ⟨ad,cap,e,h1⟩:=h;refine ⟨ad,cap,e,fun hn=>?_⟩
 obtain ⟨g,h2,h3,h4,h5⟩:=h1 hn;refine ⟨g,h2,h3,h4,fun j hj=>?_⟩
 obtain ⟨a,b⟩:=h5 j hj;refine ⟨?_,by rw [World.frozen?_setCell];exact b⟩
 by_cases e:p=⟨g,0+j,none⟩
 ·subst e
  rw [World.cell?_setCell_same' _ _ _ a];rfl
 ·rw [World.cell?_setCell_other _ _ _ _ e];exact a
theorem zEM.zD {w w':World} {B C n size:Nat} {v:Value} (h:zEM w B C v n size) (hk:Keeps zA w w'):zEM w' B C v n size:=by
 obtain ⟨ad,cap,e,h1⟩:=h;refine ⟨ad,cap,e,fun hn=>?_⟩
 obtain ⟨g,h2,h3,h4,h5⟩:=h1 hn;exact ⟨g,h2,h3,h4,zEs h5 hk (fun h=>h)⟩
theorem zEM.cell {w:World} {B C n size:Nat} {ad:Option Addr} {m cap:Nat} (h:zEM w B C (.slice ad m cap) n size) {k:Nat} (hk:k < n):∃ g,ad=some ⟨g,0,none⟩ /\ B <= g /\ g < C /\ ∀ j,j < size -> ∃ old,w.cell? ⟨g,k*size+j,none⟩=some old /\ w.frozen? ⟨g,k*size+j,none⟩=false:=by
 obtain ⟨ad',cap',e,h1⟩:=h;cases e;obtain ⟨g,h2,h3,h4,h5⟩:=h1 (by omega);refine ⟨g,h2,h3,h4,fun j hj=>?_⟩
 have hlt:k*size+j < n*size:=by
  have:(k+1)*size <= n*size:=Nat.mul_le_mul_right _ hk
  rw [Nat.add_mul] at this;omega
 obtain ⟨a,b⟩:=h5 _ hlt;rw [Nat.zero_add] at a b;obtain ⟨old,ho⟩:=Option.isSome_iff_exists.1 a;exact ⟨old,ho,b⟩
theorem zB3.slice {e size n:Nat} {w w':World} {cs:List Value} {v:Value} (h:w'.ownsRow 0 e size v n cs):∃ ad cap,v=.slice ad n cap:=by
 rcases h.2 with ⟨e1,e2⟩ | ⟨g,cap,cur,e1,_⟩
 ·exact ⟨none,0,by rw [e1,e2]⟩
 ·exact ⟨_,cap,e1⟩
structure LkI (w0 wr:World) (B y:Nat) (s1 s2 s3 s4:Value) (nc no nf:Nat):Prop where
 keep:Keeps (fun q=>B <= q) w0 wr
 row:zC wr y [s1,s2,s3,s4]
 h1:zEM wr B y s1 nc 1
 h2:zEM wr B y s2 no 1
 h3:zEM wr B y s3 nf 1
 h4:zEM wr B y s4 nf 2
theorem LkI.set {w0 wr:World} {B y:Nat} {s1 s2 s3 s4:Value} {nc no nf:Nat} (h:LkI w0 wr B y s1 s2 s3 s4 nc no nf) (p:Addr) (h1:B <= p.block) (h2:p.block < y) (u:Value):LkI w0 (wr.setCell p u) B y s1 s2 s3 s4 nc no nf :=
 ⟨h.keep.setCell (p:=p) (fun _=>h1) u,h.row.other (fun e=>by omega) u,h.h1.set p u,h.h2.set p u,h.h3.set p u,h.h4.set p u⟩
theorem zBL.form {w:World} {B n:Nat} {v:Value} {cs:List Value} (h:zBL w B v n cs):∃ ad cap,v=.slice ad n cap:=by obtain ⟨ad,cap,e,_⟩:=h;exact ⟨ad,cap,e⟩
theorem zU.up {w w':World} {B:Nat} {v:Value} {n:Nat} {cs:List Value} (h:zU w v n cs) (hk:Keeps (fun q=>B <= q) w w') (hB:w.heap.size <= B) (hc:cs.length=0 -> n=0):zU w' v n cs:=by
 obtain ⟨ad,cap,rfl,h1⟩:=h;refine ⟨ad,cap,rfl,fun hn=>?_⟩
 obtain ⟨g,o,e,h2⟩:=h1 hn;refine ⟨g,o,e,fun j u hj=>?_⟩
 have hlt:=World.block_lt_of_cell? w _ (h2 j u hj);exact hk.cell (p:=⟨g,o+j,none⟩) (fun hb=>by have hb':B <= g:=hb;have hlt':g < w.heap.size:=hlt;omega) (h2 j u hj)
theorem zDv.up {w w':World} {B:Nat} {c1 c2 c3 c4:Value} {xs ys ss:List Int} {ps:List (Int × Int)} (h:zDv w c1 c2 c3 c4 xs ys ss ps) (hk:Keeps (fun q=>B <= q) w w') (hB:w.heap.size <= B):zDv w' c1 c2 c3 c4 xs ys ss ps :=
 ⟨h.cells.up hk hB (by simp [ints]),h.owners.up hk hB (by simp [ints]),h.sts.up hk hB (by simp [ints]),h.next.up hk hB (by intro e;rw [zAC zBZ 2 (fun _=>rfl)] at e;omega)⟩
theorem zMt (m:WMa) (k:Nat) (h:k <= m.ths.length):(zME m k).length=k:=by simp [zME];omega
theorem zLh (m:WMa) (k:Nat):(zI3 m k).length=k:=by simp [zI3]
theorem zGp.src {w w':World} {m:WMa} {c1 c2 c3 c4:Value} (h:zGp w m c1 c2 c3 c4 w'):zDv w' c1 c2 c3 c4 m.cells m.owners (zME m m.ths.length) (zI3 m m.ths.length) :=
 ⟨h.cells.src,h.owners.src,by rw [zMt m _ (Nat.le_refl _)];exact h.sts.src,by rw [zLh];exact h.next.src⟩
theorem zIu.out {w w':World} {m:WMa} {e:Ending} (h:zIu w m e w'):∃ c1 c2 c3 c4,e=.returned (.agg #[c1,c2,c3,c4]) /\ zGp w m c1 c2 c3 c4 w':=by
 obtain ⟨a1,q1,a2,q2,a3,q3,a4,q4,e,h⟩:=h;exact ⟨_,_,_,_,e,h⟩
theorem zNx (w:World) (F:Nat -> Prop):zAG w F [] none:=⟨fun _=>[],fun i hi=>absurd hi (Nat.not_lt_zero _),fun i y e=>by simp at e⟩
theorem zPe:newR ⟨[],0,[⟨0,[]⟩]⟩=0:=by decide
theorem zPM {w:World} {F:Nat -> Prop} {th:Nat} (ht:zC w th [.int .i64 0, .slice none 0 0]) (f:F th) (hF:∀ k,F k -> k < w.heap.size):zCN w F [] [⟨0,[]⟩] none (some ⟨th,0,none⟩):=by
 refine ⟨fun i hi=>absurd hi (Nat.not_lt_zero _),fun i hi=>?_,hF,fun b hb=>?_,by simp [zAb,Ac.szL],by decide,by simp⟩
 ·have hi0:i=0:=by simpa using hi
  subst hi0;exact ⟨th,0,none,0,rfl,f,ht.cell (k:=0) rfl,ht.cell (k:=1) rfl,zNx _ _⟩
 ·obtain rfl:b=⟨0,[]⟩:=by simpa using hb
  simp [Ac.zBD]
section
variable {cs:List Int} {mu:Int} {bs:List Bd} {w:World} {F:Nat -> Prop} {uca uta:Option Addr} {ucc utc:Nat}
theorem zCN.zIf (h:zCN w F cs bs uca uta):Calls Tryz.prog 7 #[.agg #[.slice uca cs.length ucc, .int .i64 mu, .slice uta bs.length utc]] w fun e w'=>e=.returned (.int .i64 (newR ⟨cs,mu,bs⟩)) /\ Keeps zA w w' :=
 zFk cs mu bs w F uca uta ucc utc h.nums h.bds h.low h.sz h.l1 h.l2
end
def zG9 (t:Int):Int:=if t < 0 \/ 8 <= t then 0 else 2 ^ t.toNat
theorem zJJ (t:Int) (h:t.toNat < 8):IntKind.u64.wrap (2 ^ t.toNat)=2 ^ t.toNat:=by
 generalize t.toNat=n at h;match n,h with
 | 0,_ | 1,_ | 2,_ | 3,_ | 4,_ | 5,_ | 6,_ | 7,_=>decide
theorem zNC (t:Int) (w:World) :
 Calls Tryz.prog 181 #[.int .i64 t] w fun e w'=>e=.returned (.int .u64 (zG9 t)) /\ w=w':=by
 by_cases h1:t < 0
 ·have e1:zG9 t=0:=by simp [zG9,h1]
  exact J139 _
 ·by_cases h2:8 <= t
  ·have e1:zG9 t=0:=by simp [zG9,h2]
   exact J139 _
  ·have e1:zG9 t=IntKind.u64.wrap (2 ^ t.toNat):=by rw [zJJ t (by omega)];simp [zG9,h1,h2]
   exact J139 _
def zC0 (s:Int) (t:Int):Int:=bits .or .u64 s (zG9 t)
theorem zIk (s t:Int) (w:World) :
 Calls Tryz.prog 173 #[.int .u64 s, .int .i64 t] w fun e w'=>e=.returned (.int .u64 (zC0 s t)) /\ w=w':=by
 go_enter Tryz.func173,Tryz.ntmps173
 go_wp2_with (go_at_call 181;refine (zNC _ _).mono ?_;rintro e w' ⟨rfl,rfl⟩)
 go_ret
 exact ⟨rfl,rfl⟩
def zGs (s:Int):Int:=((List.range 8).filter fun i=>s.toNat.testBit i).length
theorem zIW (s:Int) (w:World) (hs:0 <= s /\ s <= 255) :
 Calls Tryz.prog 223 #[.int .u64 s] w fun e w'=>e=.returned (.int .i64 (zGs s)) /\ w=w':=by
 go_enter Tryz.func223,Tryz.ntmps223
 go_wp2
 go_ret
 refine ⟨congrArg (fun n=>Ending.returned (.int .i64 n)) ?_,rfl⟩
 obtain ⟨k,rfl⟩:∃ k:Fin 256,s=(k.val:Int):=⟨⟨s.toNat,by omega⟩,by simp;omega⟩
 clear hs;revert k
 decide +kernel
theorem zKx (s:Int) (w:World) (hs:0 <= s /\ s <= 255) :
 Calls Tryz.prog 187 #[.int .u64 s] w fun e w'=>e=.returned (.int .i64 (zGs s)) /\ w=w':=by
 go_enter Tryz.func187,Tryz.ntmps187
 go_wp2_with (go_at_call 223;refine (zIW _ _ hs).mono ?_;rintro e w' ⟨rfl,rfl⟩)
 go_ret
 exact ⟨rfl,rfl⟩
theorem zH6 (s:Int) (hs:0 <= s /\ s < 18446744073709551616):bits .and .u64 s 255=s % 256:=by
 rw [u64_and s 255 hs.1 hs.2 (by decide) (by decide)];rw [show ((255:Int).toNat)=255 from rfl,nat_mask8];omega
theorem zGV (s:Int) (w:World) (hs:0 <= s /\ s < 18446744073709551616) :
 Calls Tryz.prog 132 #[.int .u64 s] w fun e w'=>e=.returned (.int .i64 (zGs (s % 256))) /\ w=w':=by
 have h:=zH6 s hs;have hb:0 <= s % 256 /\ s % 256 <= 255:=by omega
 go_enter Tryz.func132,Tryz.ntmps132
 go_wp2_with (go_at_call 187;refine (zKx _ _ hb).mono ?_;rintro e w' ⟨rfl,rfl⟩)
 go_ret
 exact ⟨rfl,rfl⟩
def zLn:List Int:=[0,1,56,2,57,49,28,3,61,58,42,50,38,29,17,4,62,47,59,36,45,43,51,22,53,39,33,30,24,18,12,5,63,55,48,27,60,41,37,16,46,35,44,21,52,32,23,11,54,26,40,15,34,20,31,10,25,14,19,9,13,8,7,6]
def zAV (w:World):Prop:=∀ j,j < 64 -> w.cell? ⟨3,j,none⟩=some (.int .u8 (zLn.getD j 0))
theorem zM5 (i q n:Nat) (hq:q < 2 ^ n):(2 ^ (i+1)*q+2 ^ i) &&& (2 ^ (i+1)*(2 ^ n - (q+1))+2 ^ i)=2 ^ i:=by
 have hb:2 ^ i < 2 ^ (i+1):=by rw [Nat.pow_succ];have:=Nat.two_pow_pos i;omega
 apply Nat.eq_of_testBit_eq
 intro j
 rw [Nat.testBit_and,Nat.testBit_two_pow_mul_add q hb,Nat.testBit_two_pow_mul_add _ hb];split
 ·simp
 ·rw [Nat.testBit_two_pow_sub_succ hq,Nat.testBit_two_pow]
  have:i ≠ j:=by omega
  cases q.testBit (j - (i+1)) <;> simp [this]
theorem zMw (i:Nat) (hi:i < 8) (s:Int) (hs:0 <= s /\ s < 18446744073709551616) (h:s.toNat % 2 ^ (i+1)=2 ^ i) :
 bits .and .u64 s (IntKind.u64.wrap (-s))=2 ^ i:=by
 obtain ⟨x,rfl⟩:=Int.eq_ofNat_of_zero_le hs.1;have hx:x < 18446744073709551616:=by omega
 simp only [Int.toNat_natCast] at h
 have h0:0 < x:=by
  rcases Nat.eq_zero_or_pos x with h0 | h0
  ·subst h0;have:=Nat.two_pow_pos i;simp at h;omega
  ·exact h0
 have e:IntKind.u64.wrap (-(x:Int))=((18446744073709551616 - x:Nat):Int):=by
  rw [IntKind.wrap_u64];omega
 rw [e,u64_and_nat _ _ hx (by omega)];have hq:=Nat.div_add_mod x (2 ^ (i+1));rw [h] at hq;generalize x / 2 ^ (i+1)=q at hq;have hp:2 ^ (i+1)*2 ^ (63 - i)=18446744073709551616:=by rw [<- Nat.pow_add,show i+1+(63 - i)=64 by omega]
 have hlt:q < 2 ^ (63 - i):=by
  rcases Nat.lt_or_ge q (2 ^ (63 - i)) with hl | hl
  ·exact hl
  ·have:=Nat.mul_le_mul_left (2 ^ (i+1)) hl;omega
 have key:=zM5 i q (63 - i) hlt
 have e2:2 ^ (i+1)*(2 ^ (63 - i) - (q+1))+2 ^ i=18446744073709551616 - x:=by
  rw [Nat.mul_sub,hp,Nat.mul_add,Nat.mul_one];have h2:2 ^ (i+1)=2*2 ^ i:=by rw [Nat.pow_succ];omega
  have h3:2 ^ (i+1)*q+2 ^ (i+1) <= 18446744073709551616:=by
   have:=Nat.mul_le_mul_left (2 ^ (i+1)) (show q+1 <= 2 ^ (63 - i) by omega)
   rw [Nat.mul_add,Nat.mul_one] at this;omega
  omega
 rw [hq,e2] at key;rw [key];norm_cast
def zAI (s:Int):Int:=match (List.range 8).find? (fun i=>s.toNat.testBit i) with | some i=>i | none=>-1
theorem zDk (s:Int) (hs:0 <= s):zAI s=zAI (s % 256):=by
 unfold zAI
 have h:∀ i,i ∈ List.range 8 -> (fun i=>s.toNat.testBit i) i=(fun i=>(s % 256).toNat.testBit i) i:=by
  intro i hi
  have hi':i < 8:=by simpa using hi
  have:(s % 256).toNat=s.toNat % 2 ^ 8:=by omega
  show s.toNat.testBit i=(s % 256).toNat.testBit i
  rw [this,Nat.testBit_mod_two_pow];simp [hi']
 have e:(List.range 8).find? (fun i=>s.toNat.testBit i)=(List.range 8).find? (fun i=>(s % 256).toNat.testBit i):=by
  generalize List.range 8=l at h;induction l with
  | nil=>rfl
  | cons a l ih =>
    have ha:s.toNat.testBit a=(s % 256).toNat.testBit a:=h a (by simp);simp only [List.find?_cons];rw [ha,ih (fun i hi=>h i (by simp [hi]))]
 rw [e]
theorem zIP:∀ k:Fin 256,(k.val=0 -> zAI k.val=-1) /\ (k.val ≠ 0 -> ∃ i:Fin 8,zAI k.val=i.val /\ k.val % 2 ^ (i.val+1)=2 ^ i.val):=by
 decide +kernel
theorem zHi (s:Int) (hs:0 <= s) (h:s % 256=0):zAI s=-1:=by
 rw [zDk s hs,h];decide
theorem zHa (s:Int) (hs:0 <= s) (h:s % 256 ≠ 0):∃ i:Nat,i < 8 /\ zAI s=i /\ s.toNat % 2 ^ (i+1)=2 ^ i:=by
 obtain ⟨_,h2⟩:=zIP ⟨(s % 256).toNat,by omega⟩;obtain ⟨i,h3,h4⟩:=h2 (by show (s % 256).toNat ≠ 0;omega);refine ⟨i.val,i.isLt,?_,?_⟩
 ·rw [zDk s hs]
  have:((s % 256).toNat:Int)=s % 256:=by omega
  rw [<- this];exact h3
 ·have h5:(s % 256).toNat=s.toNat % 256:=by omega
  rw [<- h4];show _=(s % 256).toNat % _
  rw [h5]
  have hd:2 ^ (i.val+1) ∣ 256:=by
   rw [show 256=2 ^ 8 from rfl];exact Nat.pow_dvd_pow 2 (by omega)
  rw [Nat.mod_mod_of_dvd _ hd]
theorem zOc (i:Nat) (hi:i < 8):∃ j:Nat,j < 64 /\ IntKind.u64.wrap (2 ^ i*285870213051353865) / 288230376151711744=(j:Int) /\ zLn.getD j 0=(i:Int):=by
 match i,hi with
 | 0,_=>exact ⟨0,by decide,by decide,by decide⟩
 | 1,_=>exact ⟨1,by decide,by decide,by decide⟩
 | 2,_=>exact ⟨3,by decide,by decide,by decide⟩
 | 3,_=>exact ⟨7,by decide,by decide,by decide⟩
 | 4,_=>exact ⟨15,by decide,by decide,by decide⟩
 | 5,_=>exact ⟨31,by decide,by decide,by decide⟩
 | 6,_=>exact ⟨63,by decide,by decide,by decide⟩
 | 7,_=>exact ⟨62,by decide,by decide,by decide⟩
theorem zLA (s:Int) (i:Nat) (hi:i < 8) (w:World) (hs:0 <= s /\ s < 18446744073709551616) (h:s.toNat % 2 ^ (i+1)=2 ^ i) (hT:zAV w) :
 Calls Tryz.prog 233 #[.int .u64 s] w fun e w'=>e=.returned (.int .i64 i) /\ w=w':=by
 have hl:=zMw i hi s hs h
 have h0:(s==0)=false:=by
  rw [beq_eq_false_iff_ne];intro e;subst e;have:=Nat.two_pow_pos i;simp at h;omega
 obtain ⟨j,hj,e1,e2⟩:=zOc i hi;have hc:=hT j hj;rw [e2] at hc;clear e2 hT h;go_enter Tryz.func233,Tryz.ntmps233
 go_wp2
 go_ret
 exact ⟨rfl,rfl⟩
theorem zOE (s:Int) (i:Nat) (hi:i < 8) (w:World) (hs:0 <= s /\ s < 18446744073709551616) (h:s.toNat % 2 ^ (i+1)=2 ^ i) (hT:zAV w) :
 Calls Tryz.prog 197 #[.int .u64 s] w fun e w'=>e=.returned (.int .i64 i) /\ w=w':=by
 have H:=Lib.hid h;clear h;go_enter Tryz.func197,Tryz.ntmps197
 go_wp2_with (go_at_call 233;refine (zLA _ i hi _ hs H.out hT).mono ?_;rintro e w' ⟨rfl,rfl⟩)
 go_ret
 exact ⟨rfl,rfl⟩
theorem zGD (s:Int) (w:World) (hs:0 <= s /\ s < 18446744073709551616) (hT:zAV w) :
 Calls Tryz.prog 164 #[.int .u64 s] w fun e w'=>e=.returned (.int .i64 (zAI s)) /\ w=w':=by
 have h:=zH6 s hs;by_cases h0:s % 256=0
 ·rw [zHi s hs.1 h0]
  rw [h0] at h;clear h0 hT;go_enter Tryz.func164,Tryz.ntmps164
  go_wp2
  exact J36 _
 ·obtain ⟨i,hi,e,hm⟩:=zHa s hs.1 h0
  rw [e];have h1:(s % 256==0)=false:=by rw [beq_eq_false_iff_ne];exact h0
  have H:=Lib.hid hm;clear h0 hm e;go_enter Tryz.func164,Tryz.ntmps164
  go_wp2_with (go_at_call 197;refine (zOE _ i hi _ hs H.out hT).mono ?_;rintro e w' ⟨rfl,rfl⟩)
  exact J36 _
theorem zFy:∀ k:Fin 256,(zAI k.val=-1 -> (zGs k.val==0)=true) /\ (zAI k.val ≠ -1 -> (zGs k.val==0)=false):=by decide +kernel
theorem zF8 (s:Int) (hs:0 <= s):(zAI s=-1 -> (zGs (s % 256)==0)=true) /\ (zAI s ≠ -1 -> (zGs (s % 256)==0)=false):=by
 rw [zDk s hs];have h:=zFy ⟨(s % 256).toNat,by omega⟩;have e:(((s % 256).toNat:Nat):Int)=s % 256:=by omega
 simp only [e] at h;exact h
theorem zEa (a b:Int) (ha:0 <= a /\ a < 18446744073709551616) (hb:0 <= b /\ b < 18446744073709551616):0 <= bits .andNot .u64 a b /\ bits .andNot .u64 a b <= a:=by
 rw [u64_andNot a b ha.1 ha.2 hb.1 hb.2];have:=@Nat.and_le_left a.toNat (18446744073709551615 - b.toNat)
 omega
structure Nd where
 sleep:Int
 back:Int
 done:Int
 thread:Int
def Nd.cells (x:Nd):List Value:=[.int .u64 x.sleep, .int .u64 x.back, .int .u64 x.done, .int .i64 x.thread]
def Nd.Ok (x:Nd):Prop:=(0 <= x.sleep /\ x.sleep < 256) /\ (0 <= x.back /\ x.back < 256) /\ (0 <= x.done /\ x.done < 256) /\ -1 <= x.thread /\ x.thread < 8
def zFP (L:List Nd):Prop:=L.length <= 61 /\ ∀ x ∈ L,x.Ok
def zBq (L:List Nd):List Value:=L.flatMap Nd.cells
theorem zGk (x:Nd):x.cells.length=4:=rfl
theorem zG4 (L:List Nd):(zBq L).length=L.length*4:=zAC _ 4 zGk L
structure zP (w:World) (b:Nat) (v:Value) (L:List Nd):Prop where
 blk:w.heap[b]?=some (.cells #[v] 164 (0,0))
 own:w.ownsRow 0 211 4 v L.length (zBq L)
 apart:v.ownBlock ≠ some b
def zLY (b:Nat) (v:Value) (k:Nat):Prop:=k=b \/ v.ownBlock=some k
theorem zP.cell0 {w:World} {b:Nat} {v:Value} {L:List Nd} (h:zP w b v L):w.cell? ⟨b,0,none⟩=some v:=cell_of_one h.blk
theorem zP.zLj {w:World} {b:Nat} {v:Value} {L:List Nd} (h:zP w b v L):w.frozen? ⟨b,0,none⟩=false:=free_of_one h.blk
theorem zP.keeps {S:Nat -> Prop} {w w':World} {b:Nat} {v:Value} {L:List Nd} (h:zP w b v L) (hk:Keeps S w w') (hn:∀ k,zLY b v k -> ¬ S k):zP w' b v L :=
 ⟨hk.heap (hn b (.inl rfl)) h.blk,zF h.own hk (fun k e=>hn k (.inr e)),h.apart⟩
theorem zP.shape {w:World} {b:Nat} {v:Value} {L:List Nd} (h:zP w b v L):(v=.slice none 0 0 /\ L=[]) \/ ∃ g cap,v=.slice (some ⟨g,0,none⟩) L.length cap /\ g ≠ b /\ L.length <= cap /\ cap <= maxLen:=by
 rcases h.own.2 with ⟨h1,h2⟩ | ⟨g,cap,cur,hv,_,_,hn,hm,_⟩
 ·exact .inl ⟨h1,List.eq_nil_of_length_eq_zero h2⟩
 ·refine .inr ⟨g,cap,hv,fun e=>h.apart ?_,hn,hm⟩
  rw [hv,e];rfl
theorem zP.get {w:World} {b g cap:Nat} {L:List Nd} (h:zP w b (.slice (some ⟨g,0,none⟩) L.length cap) L) {i:Nat} {x:Nd} (hx:L[i]?=some x) :
 w.cell? ⟨g,i*4,none⟩=some (.int .u64 x.sleep) /\ w.cell? ⟨g,i*4+1,none⟩=some (.int .u64 x.back) /\ w.cell? ⟨g,i*4+2,none⟩=some (.int .u64 x.done) /\ w.cell? ⟨g,i*4+3,none⟩=some (.int .i64 x.thread):=by
 have hi:i < L.length:=(List.getElem?_eq_some_iff.1 hx).1
 have hc:∀ j,j < 4 -> w.cell? ⟨g,i*4+j,none⟩=x.cells[j]?:=fun j hj=>by
  rw [h.own.cellAt (i*4+j) (by omega)];show (L.flatMap Nd.cells)[i*4+j]?=_
  rw [zAu _ 4 zGk L i j hj,hx];rfl
 exact ⟨hc 0 (by decide),hc 1 (by decide),hc 2 (by decide),hc 3 (by decide)⟩
theorem zP.set {w:World} {b g cap:Nat} {L:List Nd} (h:zP w b (.slice (some ⟨g,0,none⟩) L.length cap) L) {i j:Nat} (hj:j < 4) {x y:Nd} (hx:L[i]?=some x) {u:Value} (hy:y.cells=x.cells.set j u) :
 zP (w.setCell ⟨g,i*4+j,none⟩ u) b (.slice (some ⟨g,0,none⟩) (L.set i y).length cap) (L.set i y):=by
 have hg:g ≠ b:=fun e=>h.apart (by rw [e];rfl)
 refine ⟨?_,?_,h.apart⟩
 ·rw [Below.heap_setCell _ _ _ _ (show b ≠ g from fun e=>hg e.symm),List.length_set];exact h.blk
 ·have:=(h.own.stored (i*4+j) u).1
  rw [List.length_set];have e:(zBq L).set (i*4+j) u=zBq (L.set i y):=zCe _ 4 zGk L i j hj u x y hx hy;rw [e] at this;exact this
theorem zP.free {w:World} {b g n cap:Nat} {L:List Nd} (h:zP w b (.slice (some ⟨g,0,none⟩) n cap) L) (j:Nat):w.frozen? ⟨g,j,none⟩=false:=by
 rcases h.own.2 with ⟨h',_⟩ | ⟨g',cap',cur,h',_,hg,_⟩
 ·simp at h'
 ·simp only [Value.slice.injEq,Option.some.injEq,Addr.mk.injEq,and_true,true_and] at h'
  obtain ⟨rfl,_⟩:=h';exact frozen_of_row w g j cur _ hg
theorem zP.alloc {w:World} {b:Nat} {v:Value} {L:List Nd} (h:zP w b v L) (o:Obj):zP (w.alloc o) b v L :=
 h.keeps (S:=zA) ((Keeps.refl _ _).alloc o) (fun _ _ h=>h)
theorem zP.drewN {w:World} {b:Nat} {v:Value} {L:List Nd} (h:zP w b v L) (n:Nat):zP (w.drewN n) b v L:=⟨h.blk,h.own,h.apart⟩
def zAR (w:World) (b:Nat) (v:Value) (r:Value) (L':List Nd) (e:Ending) (w':World):Prop :=
 ∃ v',e=.returned r /\ zP w' b v' L' /\ Keeps (zLY b v) w w' /\ ∀ k,v'.ownBlock=some k -> v.ownBlock=some k \/ w.heap.size <= k
theorem zEw (n:Nat) (hn:n <= 100):IntKind.i64.wrap (n:Int)=n:=IntWalk.i64_in _ (by omega)
section
variable (a:Option Addr) (b g n cap:Nat) (sl bk dn t:Int) (w:World)
theorem zBW (hv:w.cell? ⟨b,0,none⟩=some (.slice a 0 cap)) :
 Calls Tryz.prog 163 #[.pointer (some ⟨b,0,none⟩)] w fun e w'=>e=.returned (.pointer none) /\ ∃ k,w'=w.drewN k:=by
 go_enter Tryz.func163,Tryz.ntmps163
 go_wp2
 go_quiet (fail)
 go_wp2
 go_ret
 exact ⟨rfl,_,rfl⟩
theorem zEO (hn:n <= 60) (ht:t < 0)
 (hv:w.cell? ⟨b,0,none⟩=some (.slice (some ⟨g,0,none⟩) (n+1) cap)) (hc:w.cell? ⟨g,n*4+3,none⟩=some (.int .i64 t)) :
 Calls Tryz.prog 163 #[.pointer (some ⟨b,0,none⟩)] w fun e w'=>e=.returned (.pointer (some ⟨g,n*4,none⟩)) /\ ∃ k,w'=w.drewN k:=by
 have e1:=zEw n (by omega);have e2:(0:Int) <= n:=by omega
 have e3:(n:Int) < (n:Int)+1:=by omega
 have e4:((n:Int)+1==0)=false:=J154 _;have e5:decide (0 <= t)=false:=by simp;omega
 go_enter Tryz.func163,Tryz.ntmps163
 go_wp2
 go_quiet (fail)
 go_wp2
 go_quiet (fail)
 go_wp2
 go_ret
 exact ⟨rfl,_,World.drewN_drewN ..⟩
theorem zDZ (hn:n <= 60) (ht:0 <= t)
 (hv:w.cell? ⟨b,0,none⟩=some (.slice (some ⟨g,0,none⟩) (n+1) cap)) (hc:w.cell? ⟨g,n*4+3,none⟩=some (.int .i64 t)) :
 Calls Tryz.prog 163 #[.pointer (some ⟨b,0,none⟩)] w fun e w'=>e=.returned (.pointer none) /\ ∃ k,w'=w.drewN k:=by
 have e1:=zEw n (by omega);have e2:(0:Int) <= n:=by omega
 have e3:(n:Int) < (n:Int)+1:=by omega
 have e4:((n:Int)+1==0)=false:=J154 _;have e5:decide (0 <= t)=true:=by simp;omega
 go_enter Tryz.func163,Tryz.ntmps163
 go_wp2
 go_quiet (fail)
 go_wp2
 go_ret
 exact ⟨rfl,_,rfl⟩
theorem zDW (h:Calls Tryz.prog 163 #[.pointer (some ⟨b,0,none⟩)] w fun e w'=>e=.returned (.pointer none) /\ ∃ k,w'=w.drewN k) :
 Calls Tryz.prog 110 #[.pointer (some ⟨b,0,none⟩)] w fun e w'=>e=.returned (.tuple #[.int .i64 0, .bool false]) /\ ∃ k,w'=w.drewN k:=by
 have H:=Lib.hid h;clear h;go_enter Tryz.func110,Tryz.ntmps110
 go_wp2_with (go_at_call 163;refine H.out.mono ?_;rintro e w' ⟨rfl,k,rfl⟩)
 go_ret2
 exact ⟨rfl,_,rfl⟩
theorem zFl (hn:n <= 60) (hs:0 <= sl /\ sl < 256) (hb:0 <= bk /\ bk < 256) (hT:zAV w) (hl:zAI (bits .andNot .u64 bk sl) ≠ -1)
 (h:Calls Tryz.prog 163 #[.pointer (some ⟨b,0,none⟩)] w fun e w'=>e=.returned (.pointer (some ⟨g,n*4,none⟩)) /\ ∃ k,w'=w.drewN k)
 (h0:w.cell? ⟨g,n*4,none⟩=some (.int .u64 sl)) (h1:w.cell? ⟨g,n*4+1,none⟩=some (.int .u64 bk)) (h3:w.cell? ⟨g,n*4+3,none⟩=some (.int .i64 t))
 (hf:w.frozen? ⟨g,n*4+3,none⟩=false) :
 Calls Tryz.prog 110 #[.pointer (some ⟨b,0,none⟩)] w fun e w'=>e=.returned (.tuple #[.int .i64 (zAI (bits .andNot .u64 bk sl)), .bool true]) /\ ∃ k,w'=(w.drewN k).setCell ⟨g,n*4+3,none⟩ (.int .i64 (zAI (bits .andNot .u64 bk sl))):=by
 have H:=Lib.hid h;have HT:=Lib.hid hT;have hbd:=zEa bk sl (by omega) (by omega);have hlen:(zGs (bits .andNot .u64 bk sl % 256)==0)=false:=(zF8 _ hbd.1).2 hl;clear h hl hT;go_enter Tryz.func110,Tryz.ntmps110
 go_wp2_with (first | (go_at_call 163;refine H.out.mono ?_;rintro e w' ⟨rfl,k,rfl⟩) | (go_at_call 132;refine (zGV _ _ (by omega)).mono ?_;rintro e w' ⟨rfl,rfl⟩))
 go_quiet (fail)
 go_wp2_with (first | (go_at_call 132;refine (zGV _ _ (by omega)).mono ?_;rintro e w' ⟨rfl,rfl⟩) | (go_at_call 164;refine (zGD _ _ (by omega) (by exact HT.out)).mono ?_;rintro e w' ⟨rfl,rfl⟩))
 go_ret2
 exact ⟨rfl,_,rfl⟩
theorem zGe (hn:n <= 60) (hs:0 <= sl /\ sl < 256) (hb:0 <= bk /\ bk < 256) (hl:zAI (bits .andNot .u64 bk sl)=-1)
 (h:Calls Tryz.prog 163 #[.pointer (some ⟨b,0,none⟩)] w fun e w'=>e=.returned (.pointer (some ⟨g,n*4,none⟩)) /\ ∃ k,w'=w.drewN k)
 (h0:w.cell? ⟨g,n*4,none⟩=some (.int .u64 sl)) (h1:w.cell? ⟨g,n*4+1,none⟩=some (.int .u64 bk)) :
 Calls Tryz.prog 110 #[.pointer (some ⟨b,0,none⟩)] w fun e w'=>e=.returned (.tuple #[.int .i64 0, .bool false]) /\ ∃ k,w'=w.drewN k:=by
 have H:=Lib.hid h;have hbd:=zEa bk sl (by omega) (by omega);have hlen:(zGs (bits .andNot .u64 bk sl % 256)==0)=true:=(zF8 _ hbd.1).1 hl;clear h hl;go_enter Tryz.func110,Tryz.ntmps110
 go_wp2_with (go_at_call 163;refine H.out.mono ?_;rintro e w' ⟨rfl,k,rfl⟩)
 go_quiet (fail)
 go_wp2_with (go_at_call 132;refine (zGV _ _ (by omega)).mono ?_;rintro e w' ⟨rfl,rfl⟩)
 go_ret2
 exact ⟨rfl,_,rfl⟩
end
def zBX (L:List Nd):Bool:=match L.getLast? with | some x=>decide (x.thread < 0) | none=>false
def takeN (L:List Nd):Int × Bool × List Nd :=
 match L.getLast? with
 | none=>(0,false,L)
 | some x=>if 0 <= x.thread then (0,false,L) else if zAI (bits .andNot .u64 x.back x.sleep)=-1 then (0,false,L) else
   (zAI (bits .andNot .u64 x.back x.sleep),true,L.dropLast++[{ x with thread:=zAI (bits .andNot .u64 x.back x.sleep) }])
theorem zHf {L:List Nd} {x:Nd} (h:L.getLast?=some x):∃ L0,L=L0++[x]:=by
 rcases List.eq_nil_or_concat L with rfl | ⟨L0,y,rfl⟩
 ·simp at h
 ·rw [List.concat_eq_append,List.getLast?_concat] at h;cases h;exact ⟨L0,List.concat_eq_append ..⟩
theorem zFB (w:World) (b:Nat) (v:Value) (L:List Nd) (h:zP w b v L) (hok:zFP L) (hT:zAV w) :
 Calls Tryz.prog 110 #[.pointer (some ⟨b,0,none⟩)] w (zAR w b v (.tuple #[.int .i64 (takeN L).1, .bool (takeN L).2.1]) (takeN L).2.2):=by
 have none_case:takeN L=(0,false,L) -> (Calls Tryz.prog 110 #[.pointer (some ⟨b,0,none⟩)] w fun e w'=>e=.returned (.tuple #[.int .i64 0, .bool false]) /\ ∃ k,w'=w.drewN k) →
  Calls Tryz.prog 110 #[.pointer (some ⟨b,0,none⟩)] w (zAR w b v (.tuple #[.int .i64 (takeN L).1, .bool (takeN L).2.1]) (takeN L).2.2):=by
  intro e hc
  rw [e];refine hc.mono ?_
  rintro e' w' ⟨rfl,k,rfl⟩
  exact ⟨v,rfl,h.drewN k,(Keeps.refl _ _).drewN k,fun k hk=>.inl hk⟩
 cases hx:L.getLast? with
 | none =>
   have e:L=[]:=List.getLast?_eq_none_iff.1 hx;subst e;refine none_case rfl (zDW _ _ ?_)
   rcases h.shape with ⟨rfl,_⟩ | ⟨g,cap,rfl,_⟩
   ·exact zBW none b 0 w h.cell0
   ·exact zBW _ b cap w h.cell0
 | some x =>
   obtain ⟨L0,rfl⟩:=zHf hx;have hlen:(L0++[x]).length=L0.length+1:=by simp
   have hl60:L0.length <= 60:=by have:=hok.1;omega
   have hxo:x.Ok:=hok.2 x (by simp);rcases h.shape with ⟨_,e⟩ | ⟨g,cap,rfl,hg,hn,hm⟩
   ·simp at e
   have hget:=h.get (i:=L0.length) (x:=x) (by simp);by_cases ht:0 <= x.thread
   ·refine none_case (by simp [takeN,ht]) (zDW _ _ ?_)
    exact zDZ b g L0.length cap _ w hl60 ht (J203 _) hget.2.2.2
   ·have htop:=zEO b g L0.length cap _ w hl60 (by omega:x.thread < 0) (J203 _) hget.2.2.2
    by_cases hl:zAI (bits .andNot .u64 x.back x.sleep)=-1
    ·exact none_case (by simp [takeN,ht,hl]) (zGe b g L0.length _ _ w hl60 hxo.1 hxo.2.1 hl htop hget.1 hget.2.1)
    ·have e:takeN (L0++[x])=(zAI (bits .andNot .u64 x.back x.sleep),true,L0++[{ x with thread:=zAI (bits .andNot .u64 x.back x.sleep) }]):=by simp [takeN,ht,hl]
     rw [e];refine (zFl b g L0.length _ _ _ w hl60 hxo.1 hxo.2.1 hT hl htop hget.1 hget.2.1 hget.2.2.2 (h.free _)).mono ?_
     rintro e' w' ⟨rfl,k,rfl⟩
     have hs:=(h.drewN k).set (i:=L0.length) (j:=3) (by decide) (x:=x) (y:={ x with thread:=zAI (bits .andNot .u64 x.back x.sleep) }) (by simp) (u:=.int .i64 (zAI (bits .andNot .u64 x.back x.sleep))) rfl;have e2:(L0++[x]).set L0.length { x with thread:=zAI (bits .andNot .u64 x.back x.sleep) }=L0++[{ x with thread:=zAI (bits .andNot .u64 x.back x.sleep) }]:=by simp
     rw [e2] at hs;exact ⟨_,rfl,hs,((Keeps.refl _ _).drewN k).setCell (fun _=>.inr rfl) _,fun k hk=>.inl hk⟩
end Go.Proofs.YtoapgjjepiopbaaGreatDoor
