/- Layer R: texts joined. -/
import Derived.Test.YtnmifekgdkgknaaGreatDoorR46
import Derived.Test.YtnmifekgdkgknaaGreatDoorR47
import Derived.Test.YtnmifekgdkgknaaGreatDoorR36
import Derived.Test.YtnmifekgdkgknaaGreatDoorR29
import Derived.BigQuiet
import Derived.Test.YtnmifekgdkgknaaGreatDoorR45
import Derived.Test.YtnmifekgdkgknaaGreatDoorR37
import Derived.Test.YtnmifekgdkgknaaGreatDoorR30
import Derived.Test.YtnmifekgdkgknaaGreatDoorR31
import Derived.Handy
import Derived.Test.YtnmifekgdkgknaaGreatDoorR05
import Derived.Deep.LoopGhost
import Derived.Test.YtnmifekgdkgknaaGreatDoorR32
import Derived.Test.YtnmifekgdkgknaaGreatDoorR33
import Derived.Test.YtnmifekgdkgknaaGreatDoorR34
set_option linter.unusedVariables false
set_option linter.unusedSimpArgs false
set_option linter.unnecessarySimpa false
namespace Go.Proofs.YtnmifekgdkgknaaGreatDoor
open Go.RowKit
structure UnIn (w:World) (F:Nat -> Prop) (cs:List Int) (bs:List Bd) (uca uta:Option Addr):Prop where
 nums:NumsAt w F cs uca
 bds:BdsAt w F bs uta
 low:∀ k,F k -> k < w.heap.size
 kinds:∀ b,b ∈ bs -> Ac.kindsL b.acts
 sz:bsSz bs < 900000000
 l1:cs.length < 1000000000
 l2:bs.length < 1000000000
theorem UnIn.keeps {S F:Nat -> Prop} {w w':World} {cs:List Int} {bs:List Bd} {uca uta:Option Addr} (h:UnIn w F cs bs uca uta) (hk:Keeps S w w') (hS:∀ k,F k -> ¬ S k):UnIn w' F cs bs uca uta :=
 ⟨h.nums.keeps hk hS,h.bds.keeps hk hS,fun k e=>Nat.lt_of_lt_of_le (h.low k e) hk.size,h.kinds,h.sz,h.l1,h.l2⟩
theorem UnIn.keeps0 {F:Nat -> Prop} {w w':World} {cs:List Int} {bs:List Bd} {uca uta:Option Addr} (h:UnIn w F cs bs uca uta) (hk:Keeps NoBlk w w'):UnIn w' F cs bs uca uta:=h.keeps hk (fun _ _ h=>h)
structure Mach (N:Nat -> Prop) (w:World) (b:Nat) (u:Un) (m:WMa):Prop where
 low:∀ q,N q -> q < w.heap.size
 right:rightU u=true
 ok:m.ok u
 ex:∃ T F p H,MaP PlaceR 1 106 BdsC w T F 0 b u p m H /\ ∀ q,WOwn T 0 q \/ F q -> ¬ N q
section
variable {N N':Nat -> Prop} {w w':World} {b:Nat} {u:Un} {m:WMa}
theorem Mach.keeps0 (h:Mach N w b u m) (hk:Keeps NoBlk w w'):Mach N w' b u m:=by
 obtain ⟨T,F,p,H,h1,h2⟩:=h.ex;exact ⟨fun q hq=>Nat.lt_of_lt_of_le (h.low q hq) hk.size,h.right,h.ok,T,F,p,H,MaP.keeps0 placeOk bdsCOk h1 hk,h2⟩
theorem Mach.mono (h:Mach N w b u m) (hN:∀ q,N' q -> N q):Mach N' w b u m:=by
 obtain ⟨T,F,p,H,h1,h2⟩:=h.ex;exact ⟨fun q hq=>h.low q (hN q hq),h.right,h.ok,T,F,p,H,h1,fun q hq e=>h2 q hq (hN q e)⟩
theorem Mach.keepsN (h:Mach N w b u m) (hk:Keeps N w w'):Mach N w' b u m:=by
 obtain ⟨T,F,p,H,h1,h2⟩:=h.ex;exact ⟨fun q hq=>Nat.lt_of_lt_of_le (h.low q hq) hk.size,h.right,h.ok,T,F,p,H,MaP.keeps placeOk bdsCOk h1 hk h2,h2⟩
theorem Mach.fresh (h:Mach N w b u m) (hk:Keeps NoBlk w w'):Mach (fun q=>N q \/ (w.heap.size <= q /\ q < w'.heap.size)) w' b u m:=by
 obtain ⟨T,F,p,H,h1,h2⟩:=h.ex;refine ⟨fun q hq=>?_,h.right,h.ok,T,F,p,H,MaP.keeps0 placeOk bdsCOk h1 hk,fun q hq e=>?_⟩
 ·rcases hq with hq | hq
  ·exact Nat.lt_of_lt_of_le (h.low q hq) hk.size
  ·exact hq.2
 ·rcases e with e | e
  ·exact h2 q hq e
  ·have hlt:q < w.heap.size:=by
    rcases hq with hq | hq
    ·obtain ⟨t,e⟩:=hq
     exact h1.ths.sep.ok q _ e
    ·exact h1.ths.sep.low q hq
   omega
theorem Mach.step (h:Mach N w b u m) (i:Int):Calls Tryz.prog 19 #[.pointer (some ⟨b,0,none⟩), .int .i64 i] w fun e w'=>e=.returned (.tuple #[evV (stepM u m i).2.1, .int .i64 (stepM u m i).2.2]) /\ Mach N w' b u (stepM u m i).1 /\ Keeps (fun q=>¬ N q) w w':=by
 obtain ⟨T,F,p,H,h1,h2⟩:=h.ex;refine (step_any h1 h.right h.ok i).mono ?_
 rintro e w' ⟨rfl,T',H',g1,g2,g3⟩
 refine ⟨rfl,⟨fun q hq=>Nat.lt_of_lt_of_le (h.low q hq) g3.size,h.right,(stepM_ok h.right h.ok i).1,T',F,p,H',g1,fun q hq e=>?_⟩,g3.mono (fun q _ hq=>h2 q (.inl hq))⟩
 rcases hq with hq | hq
 ·obtain ⟨t,et⟩:=hq
  rcases g2.2 q _ et with g4 | g4
  ·exact h2 q (.inl ⟨t,g4⟩) e
  ·have:=h.low q e;omega
 ·exact h2 q (.inr hq) e
theorem Mach.state (h:Mach N w b u m):Calls Tryz.prog 24 #[.pointer (some ⟨b,0,none⟩)] w (StaEnd w m):=by
 obtain ⟨T,F,p,H,h1,h2⟩:=h.ex;exact state_any h1 h.right h.ok
theorem Mach.enabled (h:Mach N w b u m):Calls Tryz.prog 22 #[.pointer (some ⟨b,0,none⟩)] w (NewInts w (enabM m)):=by
 obtain ⟨T,F,p,H,h1,h2⟩:=h.ex;exact enabled_any h1 h.right h.ok
end
def newR (u:Un):Int:=withinU (rightU u) (unS u.threads) (unW u.threads)
theorem newR_right {u:Un} (h:newR u=0):rightU u=true:=by
 cases hr:rightU u with
 | true=>rfl
 | false=>unfold newR at h;rw [hr] at h;revert h;unfold withinU;simp
section
variable {cs:List Int} {mu:Int} {bs:List Bd} {w:World} {F:Nat -> Prop} {uca uta:Option Addr} {ucc utc:Nat}
theorem UnIn.within (h:UnIn w F cs bs uca uta):Calls Tryz.prog 40 #[.agg #[.slice uca cs.length ucc, .int .i64 mu, .slice uta bs.length utc]] w fun e w'=>e=.returned (.int .i64 (newR ⟨cs,mu,bs⟩)) /\ Keeps NoBlk w w' :=
 boundWithin_any cs mu bs w F uca uta ucc utc h.nums h.bds h.low h.kinds h.sz h.l1 h.l2
theorem UnIn.newOk (h:UnIn w F cs bs uca uta) (hr:newR ⟨cs,mu,bs⟩=0):Calls Tryz.prog 13 #[.agg #[.slice uca cs.length ucc, .int .i64 mu, .slice uta bs.length utc]] w fun e w'=>∃ b,e=.returned (.tuple #[.pointer (some ⟨b,0,none⟩), .int .i64 0]) /\ Mach (fun q=>q < w.heap.size) w' b ⟨cs,mu,bs⟩ (newM ⟨cs,mu,bs⟩) /\ Keeps NoBlk w w':=by
 have hR:=newR_right hr;refine (new_ok (T:=fun _=>none) (id:=0) h.nums h.bds (fun k x e=>by cases e) (fun k t e=>by cases e) h.sz hR (Lib.hid fun W hk=>by have g:=(h.keeps0 hk).within (mu:=mu) (ucc:=ucc) (utc:=utc);rw [hr] at g;exact g)).mono ?_
 rintro e w' ⟨b,T',F',p,H,rfl,h1,h2,h3,h4⟩
 refine ⟨b,rfl,⟨fun q hq=>Nat.lt_of_lt_of_le hq h3.size,hR,newM_ok hR,T',F',p,H,h1,fun q hq e=>?_⟩,h3⟩
 have e:q < w.heap.size:=e;rcases hq with hq | hq
 ·obtain ⟨t,et⟩:=hq
  rcases h2.2 q _ et with g | g
  ·cases g
  ·omega
 ·have:=h4 q hq;omega
end
theorem noActs (w:World) (F:Nat -> Prop):AcsAt w F [] none:=⟨fun _=>[],fun i hi=>absurd hi (Nat.not_lt_zero _),fun i y e=>by simp at e⟩
def NB (g:Nat) (l:List Nat) (q:Nat):Prop:=q < g \/ q ∈ l
theorem SrcAt.ints {w:World} {v:Value} {xs:List Int} (h:SrcAt w v xs.length (ints xs)):∃ ad cap,v=.slice ad xs.length cap /\ ∀ k,k < xs.length -> ∃ g o,ad=some ⟨g,o,none⟩ /\ w.cell? ⟨g,o+k,none⟩=some (.int .i64 (xs.getD k 0)):=by
 obtain ⟨ad,cap,e,h1⟩:=h;refine ⟨ad,cap,e,fun k hk=>?_⟩
 obtain ⟨g,o,e1,h2⟩:=h1 (by omega);exact ⟨g,o,e1,h2 k _ (ints_get xs k hk)⟩
theorem SrcAt.keeps0 {w w':World} {v:Value} {n:Nat} {cs:List Value} (h:SrcAt w v n cs) (hk:Keeps NoBlk w w'):SrcAt w' v n cs:=h.keeps hk (fun _ _ h=>h)
theorem SrcAt.acts {w:World} {v:Value} {ps:List (Int × Int)} (h:SrcAt w v ps.length (ps.flatMap actC)):∃ ad cap,v=.slice ad ps.length cap /\ ∀ k p,ps[k]?=some p -> ∃ g o,ad=some ⟨g,o,none⟩ /\ w.cell? ⟨g,o+k*2,none⟩=some (.int .i64 p.1) /\ w.cell? ⟨g,o+k*2+1,none⟩=some (.int .i64 p.2):=by
 obtain ⟨ad,cap,e,h1⟩:=h;refine ⟨ad,cap,e,fun k p hk=>?_⟩
 have hlt:=(List.getElem?_eq_some_iff.1 hk).1;obtain ⟨g,o,e1,h2⟩:=h1 (by omega);refine ⟨g,o,e1,?_,?_⟩
 ·exact h2 (k*2) _ (by have:=get_cells actC 2 (fun _=>rfl) ps k 0 (by decide);rw [hk] at this;simpa [actC] using this)
 ·have:=h2 (k*2+1) (.int .i64 p.2) (by have:=get_cells actC 2 (fun _=>rfl) ps k 1 (by decide);rw [hk] at this;simpa [actC] using this)
  rw [Nat.add_assoc];exact this
structure StaSrc (w:World) (c1 c2 c3 c4:Value) (xs ys ss:List Int) (ps:List (Int × Int)):Prop where
 cells:SrcAt w c1 xs.length (ints xs)
 owners:SrcAt w c2 ys.length (ints ys)
 sts:SrcAt w c3 ss.length (ints ss)
 next:SrcAt w c4 ps.length (ps.flatMap actC)
theorem StaSrc.keeps {w w':World} {c1 c2 c3 c4:Value} {xs ys ss:List Int} {ps:List (Int × Int)} (h:StaSrc w c1 c2 c3 c4 xs ys ss ps) (hk:Keeps NoBlk w w'):StaSrc w' c1 c2 c3 c4 xs ys ss ps :=
 ⟨h.cells.keeps0 hk,h.owners.keeps0 hk,h.sts.keeps0 hk,h.next.keeps0 hk⟩
theorem tmod_twice (a:Int) {n:Nat} (h:0 < n):Int.tmod (Int.tmod a n+n) n=a % (n:Int) /\ -(n:Int) < Int.tmod a n /\ Int.tmod a n < n:=by
 have h1:Int.tmod a n < n:=Int.tmod_lt_of_pos a (by omega)
 have h2:-(n:Int) < Int.tmod a n:=by
  have h3:=Int.tmod_lt_of_pos (-a) (b:=(n:Int)) (by omega);rw [Int.neg_tmod] at h3;omega
 refine ⟨?_,h2,h1⟩
 rw [Int.tmod_eq_emod_of_nonneg (by omega),Int.add_emod_right];have e:a % (n:Int)=(Int.tmod a n+(n:Int)*Int.tdiv a n) % (n:Int):=by rw [Int.tmod_add_mul_tdiv]
 rw [e,Int.add_mul_emod_self_left]
set_option maxRecDepth 8000 in
set_option maxHeartbeats 1000000 in
theorem chosen_any (w:World) (ca:Option Addr) (cc:Nat) (ch:List Int) (k n:Nat) (h:SrcAt w (.slice ca ch.length cc) ch.length (ints ch)) (hn:0 < n) (hn8:n <= 1000) :
 Calls Tryz.prog 70 #[.slice ca ch.length cc, .int .i64 k, .int .i64 n] w fun e w'=>e=.returned (.int .i64 (chN ch k n:Nat)) /\ w=w':=by
 have n0:(n:Int) ≠ 0:=by omega
 have n1:((n:Int)==0)=false:=beq_false_of_ne n0;by_cases hk:k < ch.length
 ·obtain ⟨ad,cap,e,hc⟩:=h.ints
  cases e;obtain ⟨g,o,rfl,c⟩:=hc k hk
  have HC:Hid (((chN ch k n:Nat):Int)=ch.getD k 0 % (n:Int)):=by
   show _=_
   unfold chN;rw [if_pos hk];have:=Int.emod_nonneg (ch.getD k 0) n0
   omega
  generalize ch.getD k 0=a at c HC;obtain ⟨t1,t2,t3⟩:=tmod_twice a hn;generalize hr:Int.tmod a n=r at t1 t2 t3;have e2:IntKind.i64.wrap (r+(n:Int))=r+n:=wrap_small _ (by omega) (by omega);rw [<- HC.out] at t1;generalize chN ch k n=v at t1 ⊢;have i1:(0:Int) <= k:=by omega
  have i2:(k:Int) < (ch.length:Int):=by omega
  have i3:decide ((ch.length:Int) <= (k:Int))=false:=decide_eq_false (by omega);clear h hc hn hn8 t2 t3 HC;generalize ch.length=nc at i2 i3 hk ⊢;clear hk;go_enter Tryz.func70,Tryz.ntmps70
  go_wp2_with fail
  go_ret
  exact ⟨rfl,rfl⟩
 ·have e:chN ch k n=0:=by unfold chN;rw [if_neg hk]
  rw [e];have i3:decide ((ch.length:Int) <= (k:Int))=true:=decide_eq_true (by omega);have i4:(ch.length <= k)=True:=eq_true (by omega);clear h e;generalize ch.length=nc at i3 i4 hk ⊢;clear hk;go_enter Tryz.func70,Tryz.ntmps70
  go_wp2_with fail
  go_ret
  exact ⟨rfl,rfl⟩
def evC (x:Evt):List Value:=[.int .i64 x.thread, .int .i64 x.kind, .int .i64 x.obj, .int .i64 x.value, .int .i64 x.bad]
theorem evC_len (x:Evt):(evC x).length=5:=rfl
theorem infoEv:(Tryz.prog.info? 40).map (fun i=>(i.zero,i.size,i.bytes))=some (some (.agg #[.int .i64 0, .int .i64 0, .int .i64 0, .int .i64 0, .int .i64 0]),5,40):=by kernel_rfl
set_option maxRecDepth 8000 in
set_option maxHeartbeats 1000000 in
theorem clipE_some (w:World) (g n cap:Nat) (hn:n <= cap) (hm:cap <= maxLen) :
 Calls Tryz.prog 71 #[.slice (some ⟨g,0,none⟩) n cap] w fun e w'=>e=.returned (.slice (some ⟨g,0,none⟩) n n) /\ w'=w:=by
 have h1:(0:Int) <= n:=by omega
 have h2:(n:Int) <= cap:=by omega
 have h3:(cap:Int) <= 9223372036854775807:=by unfold maxLen at hm;omega
 go_enter Tryz.func71,Tryz.ntmps71
 go_wp2
 go_ret
 exact ⟨by simp,rfl⟩
set_option maxRecDepth 8000 in
set_option maxHeartbeats 1000000 in
theorem clipE_none (w:World) :
 Calls Tryz.prog 71 #[.slice none 0 0] w fun e w'=>e=.returned (.slice none 0 0) /\ w'=w:=by
 go_enter Tryz.func71,Tryz.ntmps71
 go_wp2
 go_ret
 exact ⟨by simp,rfl⟩
theorem clipE_any (w:World) (ad:Option Addr) (n cap:Nat) (xs:List Evt) (h:w.ownsRow 0 40 5 (.slice ad n cap) n (xs.flatMap evC)) :
 Calls Tryz.prog 71 #[.slice ad n cap] w fun e w'=>e=.returned (.slice ad n n) /\ w'=w:=by
 rcases h.2 with ⟨e,rfl⟩ | ⟨g,cap',cur,e,_,_,h1,h2,_⟩
 ·cases e;exact clipE_none w
 ·cases e;exact clipE_some w g n cap h1 h2
theorem FrameR.at {w:World} {F:Nat -> Prop} {f:WFr} {cs:List Value} (h:FrameR w F f cs):∃ (ad:Option Addr) (ac at_:Nat),cs=[.slice ad f.all.length ac, .int .i64 at_, .int .i64 f.left] /\ AcsAt w F f.all ad /\ f.rest=f.all.drop at_ /\ at_ <= f.all.length /\ Ac.cntL f.all <= 1000:=h
abbrev RM (w:World) (T:WTags) (F:Nat -> Prop) (id b:Nat) (u:Un) (p:MPar) (m:WMa) (H:List HTh):Prop:=MaP FrameR 3 141 BdsAt w T F id b u p m H
def AcCells (W:World) (g o:Nat) (a:Ac) (xa:Option Addr) (xc:Nat) (ta:Option Addr) (tc:Nat) (ea:Option Addr) (ec:Nat):Prop:=W.cell? ⟨g,o,none⟩=some (.int .i64 a.kind) /\ W.cell? ⟨g,o+1,none⟩=some (.int .i64 a.reg) /\ W.cell? ⟨g,o+2,none⟩=some (.int .i64 a.obj) /\ W.cell? ⟨g,o+3,none⟩=some (.int .i64 a.ex.kind) /\ W.cell? ⟨g,o+4,none⟩=some (.int .i64 a.ex.num) /\ W.cell? ⟨g,o+5,none⟩=some (.string a.ex.nm) /\ W.cell? ⟨g,o+6,none⟩=some (.slice xa a.ex.args.length xc) /\ W.cell? ⟨g,o+7,none⟩=some (.int .i64 a.count) /\ W.cell? ⟨g,o+8,none⟩=some (.slice ta a.thn.length tc) /\ W.cell? ⟨g,o+9,none⟩=some (.slice ea a.els.length ec)
theorem AcsAt.cells {w:World} {F:Nat -> Prop} {l:List Ac} {ad:Option Addr} (h:AcsAt w F l ad) {i:Nat} (hi:i < l.length):∃ g o xa xc ta tc ea ec,ad=some ⟨g,o,none⟩ /\ F g /\ (∀ W,Keeps NoBlk w W -> AcCells W g (o+i*10) l[i] xa xc ta tc ea ec) /\ ExsAt w F l[i].ex.args xa /\ AcsAt w F l[i].thn ta /\ AcsAt w F l[i].els ea:=by
 obtain ⟨g,o,xa,xc,ta,tc,ea,ec,e,hg,c0,c1,c2,c3,c4,c5,c6,c7,c8,c9,h1,h2,h3⟩:=h.at hi;exact ⟨g,o,xa,xc,ta,tc,ea,ec,e,hg,fun W q=>⟨q.cell (fun h=>h) c0,q.cell (fun h=>h) c1,q.cell (fun h=>h) c2,q.cell (fun h=>h) c3,q.cell (fun h=>h) c4,q.cell (fun h=>h) c5,q.cell (fun h=>h) c6,q.cell (fun h=>h) c7,q.cell (fun h=>h) c8,q.cell (fun h=>h) c9⟩,h1,h2,h3⟩
section
variable {w w' W:World} {T:WTags} {F:Nat -> Prop} {id b i:Nat} {u:Un} {p:MPar} {m:WMa} {H:List HTh}
theorem MaP.thc {R:Lies WFr} {sz:Nat} {ty:TypeId} {B:LiesB} (h:MaP R sz ty B w T F id b u p m H) (hi:i < m.ths.length):∃ rv fv,H[i]?=some ⟨(m.get i).st,rv,fv⟩ /\ (∀ W,Keeps NoBlk w W -> W.cell? ⟨p.gt,i*3,none⟩=some (.int .i64 (m.get i).st) /\ W.cell? ⟨p.gt,i*3+1,none⟩=some rv /\ W.cell? ⟨p.gt,i*3+2,none⟩=some fv) ∧
 (∀ j,j < 3 -> ∀ W,Keeps NoBlk w W -> W.frozen? ⟨p.gt,i*3+j,none⟩=false):=by
 obtain ⟨rv,fv,hH,_⟩:=h.ths.get (WMa.get_some hi);have th:=th_three h.ths.row hH;refine ⟨rv,fv,hH,fun W q=>⟨q.cell (fun h=>h) th.1,q.cell (fun h=>h) th.2.1,q.cell (fun h=>h) th.2.2⟩,fun j hj=>frozenAll (th_free h.ths.row (by rw [h.ths.len];exact hi) j hj) ?_⟩
 rcases (show j=0 \/ j=1 \/ j=2 by omega) with rfl | rfl | rfl
 ·exact ⟨_,th.1⟩
 ·exact ⟨_,th.2.1⟩
 ·exact ⟨_,th.2.2⟩
end
end Go.Proofs.YtnmifekgdkgknaaGreatDoor
