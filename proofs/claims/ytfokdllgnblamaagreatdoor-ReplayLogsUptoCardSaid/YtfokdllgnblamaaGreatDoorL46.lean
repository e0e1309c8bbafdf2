/- Layer L: texts joined. -/
import Derived.Test.YtfokdllgnblamaaGreatDoorL44
import Derived.Test.YtfokdllgnblamaaGreatDoorL45
set_option linter.all false
set_option maxHeartbeats 4000000
set_option maxRecDepth 8000
namespace Go.Proofs.YtfokdllgnblamaaGreatDoor
open Go.RowKit
theorem J53 (P:Prop) (h:P:=by
 go_wp2_with (go_at_call 62;refine (zC6 _ _ HI.out).mono ?_;rintro e w5 ⟨rfl,rfl⟩)
 first | go_quiet (fail) | skip
 go_wp2_with fail
 go_ret
 exact ⟨rfl,(by repeat' first | exact yB _ _ | apply Keeps.drewN | apply Keeps.alloc)⟩):P:=h
theorem J201 (P:Prop) (h:P:=by rw [zw zBe 2 zBV];omega):P:=h
structure zC7 (w:World) (F:Nat -> Prop) (cs:List Int) (bs:List Bd) (uca uta:Option Addr):Prop where
 nums:zAz w F cs uca
 bds:zBZ w F bs uta
 low:∀ k,F k -> k < w.heap.size
 kinds:∀ b,b ∈ bs -> Ac.zBi b.acts
 sz:zAi bs < 900000000
 l1:cs.length < 1000000000
 l2:bs.length < 1000000000
theorem zC7.keeps {S F:Nat -> Prop} {w w':World} {cs:List Int} {bs:List Bd} {uca uta:Option Addr} (h:zC7 w F cs bs uca uta) (hk:Keeps S w w') (hS:∀ k,F k -> ¬ S k):zC7 w' F cs bs uca uta :=
 ⟨h.nums.keeps hk hS,h.bds.keeps hk hS,fun k e=>yI (h.low k e) hk.size,h.kinds,h.sz,h.l1,h.l2⟩
theorem zC7.zG {F:Nat -> Prop} {w w':World} {cs:List Int} {bs:List Bd} {uca uta:Option Addr} (h:zC7 w F cs bs uca uta) (hk:Keeps zA w w'):zC7 w' F cs bs uca uta:=h.keeps hk (fun _ _ h=>h)
structure zAr (R:zA0 zx) (sz:Nat) (ty:TypeId) (B:zCY) (D N:Nat -> Prop) (w:World) (b:Nat) (u:Un) (m:ze):Prop where
 L:zAN R sz
 LB:BOk B
 low:∀ q,N q -> q < w.heap.size
 right:zV u=true
 ok:m.ok u
 idle:m.idle
 ex:∃ T F p H,MaP R sz ty B w T F 0 b u p m H /\ (∀ q,zAk T 0 q -> ¬ N q) /\ ∀ q,F q -> D q \/ ¬ N q
abbrev zCb:=zAr zi 1 103 zBW (fun _=>False)
section
variable {R:zA0 zx} {sz:Nat} {ty:TypeId} {B:zCY} {D N N' S:Nat -> Prop} {w w':World} {b:Nat} {u:Un} {m:ze}
theorem zAr.mono (h:zAr R sz ty B D N w b u m) (hN:∀ q,N' q -> N q):zAr R sz ty B D N' w b u m:=by
 obtain ⟨T,F,p,H,h1,h2,h3⟩:=h.ex;exact ⟨h.L,h.LB,fun q hq=>h.low q (hN q hq),h.right,h.ok,h.idle,T,F,p,H,h1,fun q hq e=>h2 q hq (hN q e),fun q hq=>(h3 q hq).imp (fun h=>h) fun h e=>h (hN q e)⟩
theorem zAr.lt (h:zAr R sz ty B D N w b u m) {T:zS} {F:Nat -> Prop} {p:zBE} {H:List HTh} (h1:MaP R sz ty B w T F 0 b u p m H) {q:Nat} (hq:zAk T 0 q \/ F q):q < w.heap.size:=by
 rcases hq with hq | hq
 ·obtain ⟨t,e⟩:=hq
  exact h1.zL.sep.ok q _ e
 ·exact h1.zL.sep.low q hq
theorem zAr.zId (h:zAr R sz ty B D N w b u m) (hk:Keeps S w w') (hS:∀ q,S q -> N q /\ ¬ D q):zAr R sz ty B D (fun q=>N q \/ (w.heap.size <= q /\ q < w'.heap.size)) w' b u m:=by
 obtain ⟨T,F,p,H,h1,h2,h3⟩:=h.ex;refine ⟨h.L,h.LB,fun q hq=>?_,h.right,h.ok,h.idle,T,F,p,H,MaP.keeps h.L h.LB h1 hk (fun q hq e=>hq.elim (fun g=>h2 q g (hS q e).1) fun g=>(h3 q g).elim (hS q e).2 fun g=>g (hS q e).1),fun q hq e=>?_,fun q hq=>(h3 q hq).imp (fun h=>h) fun g e=>?_⟩
 ·rcases hq with hq | hq
  ·exact yI (h.low q hq) hk.size
  ·exact hq.2
 ·have:=h.lt h1 (.inl hq)
  exact e.elim (h2 q hq) (fun e=>by omega)
 ·have:=h.lt h1 (.inr hq)
  exact e.elim g (fun e=>by omega)
theorem zAr.zLS (h:zAr R sz ty B D N w b u m) (hk:Keeps S w w') (hS:∀ q,S q -> N q /\ ¬ D q):zAr R sz ty B D N w' b u m:=(h.zId hk hS).mono fun _ h=>.inl h
theorem zAr.zG (h:zAr R sz ty B D N w b u m) (hk:Keeps zA w w'):zAr R sz ty B D N w' b u m:=h.zLS hk fun _ h=>h.elim
theorem zAr.fresh (h:zAr R sz ty B D N w b u m) (hk:Keeps zA w w'):zAr R sz ty B D (fun q=>N q \/ (w.heap.size <= q /\ q < w'.heap.size)) w' b u m:=h.zId hk fun _ h=>h.elim
theorem zCb.zLc (h:zCb N w b u m) (hk:Keeps N w w'):zCb N w' b u m:=zAr.zLS h hk (fun _ h=>⟨h,fun e=>e⟩)
theorem zAr.stepped {i:Int} {P:Program} {f:FuncId} {vs:Array Value} (h:zAr R sz ty B D N w b u m) (hc:∀ T F p H,MaP R sz ty B w T F 0 b u p m H -> Calls P f vs w (zFO R sz ty B w T F 0 b u p (stepM u m i))):Calls P f vs w fun e w'=>e=.returned (.tuple #[evV (stepM u m i).2.1, .int .i64 (stepM u m i).2.2]) /\ zAr R sz ty B D N w' b u (stepM u m i).1 /\ Keeps (fun q=>¬ N q) w w':=by
 obtain ⟨T,F,p,H,h1,h2,h3⟩:=h.ex;refine (hc T F p H h1).mono ?_
 rintro e w' ⟨rfl,T',H',g1,g2,g3⟩
 refine ⟨rfl,⟨h.L,h.LB,fun q hq=>yI (h.low q hq) g3.size,h.right,(zFk h.right h.ok i).1,zIu h.right h.ok h.idle i,T',F,p,H',g1,fun q hq e=>?_,h3⟩,g3.mono (fun q _ hq=>h2 q hq)⟩
 obtain ⟨t,et⟩:=hq;rcases g2.2 q _ et with g4 | g4
 ·exact h2 q ⟨t,g4⟩ e
 ·have:=h.low q e;omega
theorem zAr.new {T':zS} {F:Nat -> Prop} {p:zBE} {H:List HTh} (L:zAN R sz) (LB:BOk B) (hr:zV u=true) (h1:MaP R sz ty B w' T' F 0 b u p (zAU u) H) (h2:zAQ (fun _=>none) T' 0 w) (hk:Keeps zA w w') (h4:∀ q,F q -> D q \/ w.heap.size <= q):zAr R sz ty B D (fun q=>q < w.heap.size) w' b u (zAU u):=by
 refine ⟨L,LB,fun q hq=>yI hq hk.size,hr,zEW hr,zJu hr,T',F,p,H,h1,fun q hq e=>?_,fun q hq=>(h4 q hq).imp (fun h=>h) fun g e=>by have e:q < w.heap.size:=e;omega⟩
 have e:q < w.heap.size:=e;obtain ⟨t,et⟩:=hq;rcases h2.2 q _ et with g | g
 ·cases g
 ·omega
theorem zCb.step (h:zCb N w b u m) (i:Int):Calls Tryz.prog 15 #[.pointer (some ⟨b,0,none⟩), .int .i64 i] w fun e w'=>e=.returned (.tuple #[evV (stepM u m i).2.1, .int .i64 (stepM u m i).2.2]) /\ zCb N w' b u (stepM u m i).1 /\ Keeps (fun q=>¬ N q) w w' :=
 h.stepped fun _ _ _ _ h1=>zL1 h1 h.right h.ok i
theorem zCb.state (h:zCb N w b u m):Calls Tryz.prog 27 #[.pointer (some ⟨b,0,none⟩)] w (zL8 w m):=by
 obtain ⟨T,F,p,H,h1,h2⟩:=h.ex;exact zKH h1 h.right h.ok
theorem zCb.enabled (h:zCb N w b u m):Calls Tryz.prog 36 #[.pointer (some ⟨b,0,none⟩)] w (zG9 w (zBD m)):=by
 obtain ⟨T,F,p,H,h1,h2⟩:=h.ex;exact zHX h1 h.right h.ok
end
def newR (u:Un):Int:=zB5 (zV u) (unS u.threads) (unW u.threads)
theorem zDD {u:Un} (h:newR u=0):zV u=true:=by
 cases hr:zV u with
 | true=>rfl
 | false=>unfold newR at h;rw [hr] at h;revert h;unfold zB5;simp
section
variable {cs:List Int} {mu:Int} {bs:List Bd} {w:World} {F:Nat -> Prop} {uca uta:Option Addr} {ucc utc:Nat}
theorem zC7.within (h:zC7 w F cs bs uca uta):Calls Tryz.prog 31 #[.agg #[.slice uca cs.length ucc, .int .i64 mu, .slice uta bs.length utc]] w fun e w'=>e=.returned (.int .i64 (newR ⟨cs,mu,bs⟩)) /\ Keeps zA w w' :=
 zFN cs mu bs w F uca uta ucc utc h.nums h.bds h.low h.kinds h.sz h.l1 h.l2
theorem zC7.zNT (h:zC7 w F cs bs uca uta) (hr:newR ⟨cs,mu,bs⟩=0):Calls Tryz.prog 9 #[.agg #[.slice uca cs.length ucc, .int .i64 mu, .slice uta bs.length utc]] w fun e w'=>∃ b,e=.returned (.tuple #[.pointer (some ⟨b,0,none⟩), .int .i64 0]) /\ zCb (fun q=>q < w.heap.size) w' b ⟨cs,mu,bs⟩ (zAU ⟨cs,mu,bs⟩) /\ Keeps zA w w':=by
 have hR:=zDD hr;refine (zNs (T:=fun _=>none) (id:=0) h.nums h.bds (fun k x e=>by cases e) (fun k t e=>by cases e) h.sz hR (yA fun W hk=>by have g:=(h.zG hk).within (mu:=mu) (ucc:=ucc) (utc:=utc);rw [hr] at g;exact g)).mono ?_
 rintro e w' ⟨b,T',F',p,H,rfl,h1,h2,h3,h4⟩
 exact ⟨b,rfl,zAr.new zR zAD hR h1 h2 h3 (fun q e=>.inr (h4 q e)),h3⟩
end
theorem zl.ints {w:World} {v:Value} {xs:List Int} (h:zl w v xs.length (ints xs)):∃ ad cap,v=.slice ad xs.length cap /\ ∀ k,k < xs.length -> ∃ g o,ad=some ⟨g,o,none⟩ /\ w.cell? ⟨g,o+k,none⟩=some (.int .i64 (xs.getD k 0)):=by
 obtain ⟨ad,cap,e,h1⟩:=h;refine ⟨ad,cap,e,fun k hk=>?_⟩
 obtain ⟨g,o,e1,h2⟩:=h1 (by omega);exact ⟨g,o,e1,h2 k _ (zAA xs k hk)⟩
theorem zl.zG {w w':World} {v:Value} {n:Nat} {cs:List Value} (h:zl w v n cs) (hk:Keeps zA w w'):zl w' v n cs:=h.keeps hk (fun _ _ h=>h)
theorem zl.acts {w:World} {v:Value} {ps:List (Int × Int)} (h:zl w v ps.length (ps.flatMap zBe)):∃ ad cap,v=.slice ad ps.length cap /\ ∀ k p,ps[k]?=some p -> ∃ g o,ad=some ⟨g,o,none⟩ /\ w.cell? ⟨g,o+k*2,none⟩=some (.int .i64 p.1) /\ w.cell? ⟨g,o+k*2+1,none⟩=some (.int .i64 p.2):=by
 obtain ⟨ad,cap,e,h1⟩:=h;refine ⟨ad,cap,e,fun k p hk=>?_⟩
 have hlt:=(yO.1 hk).1;obtain ⟨g,o,e1,h2⟩:=h1 (by omega);refine ⟨g,o,e1,?_,?_⟩
 ·exact h2 (k*2) _ (by have:=zBL zBe 2 (fun _=>rfl) ps k 0 (by decide);rw [hk] at this;simpa [zBe] using this)
 ·have:=h2 (k*2+1) (.int .i64 p.2) (by have:=zBL zBe 2 (fun _=>rfl) ps k 1 (by decide);rw [hk] at this;simpa [zBe] using this)
  rw [uD];exact this
structure zDU (w:World) (c1 c2 c3 c4:Value) (xs ys ss:List Int) (ps:List (Int × Int)):Prop where
 cells:zl w c1 xs.length (ints xs)
 owners:zl w c2 ys.length (ints ys)
 sts:zl w c3 ss.length (ints ss)
 next:zl w c4 ps.length (ps.flatMap zBe)
theorem zDU.keeps {w w':World} {c1 c2 c3 c4:Value} {xs ys ss:List Int} {ps:List (Int × Int)} (h:zDU w c1 c2 c3 c4 xs ys ss ps) (hk:Keeps zA w w'):zDU w' c1 c2 c3 c4 xs ys ss ps :=
 ⟨h.cells.zG hk,h.owners.zG hk,h.sts.zG hk,h.next.zG hk⟩
theorem zIi (a:Int) {n:Nat} (h:0 < n):Int.tmod (Int.tmod a n+n) n=a % (n:Int) /\ -(n:Int) < Int.tmod a n /\ Int.tmod a n < n:=by
 have h1:Int.tmod a n < n:=Int.tmod_lt_of_pos a (by omega)
 have h2:-(n:Int) < Int.tmod a n:=by
  have h3:=Int.tmod_lt_of_pos (-a) (b:=(n:Int)) (by omega);rw [Int.neg_tmod] at h3;omega
 refine ⟨?_,h2,h1⟩
 rw [Int.tmod_eq_emod_of_nonneg (by omega),Int.add_emod_right];have e:a % (n:Int)=(Int.tmod a n+(n:Int)*Int.tdiv a n) % (n:Int):=by rw [Int.tmod_add_mul_tdiv]
 rw [e,Int.add_mul_emod_self_left]
theorem zI3 (w:World) (ca:Option Addr) (cc:Nat) (ch:List Int) (k n:Nat) (h:zl w (.slice ca ch.length cc) ch.length (ints ch)) (hn:0 < n) (hn8:n <= 1000) :
 Calls Tryz.prog 80 #[.slice ca ch.length cc, .int .i64 k, .int .i64 n] w fun e w'=>e=.returned (.int .i64 (chN ch k n:Nat)) /\ w=w':=by
 have n0:(n:Int) ≠ 0:=by omega
 have n1:((n:Int)==0)=false:=xG n0;by_cases hk:k < ch.length
 ·obtain ⟨ad,cap,e,hc⟩:=h.ints
  cases e;obtain ⟨g,o,rfl,c⟩:=hc k hk
  have HC:Hid (((chN ch k n:Nat):Int)=ch.getD k 0 % (n:Int)):=by
   show _=_
   unfold chN;rw [if_pos hk];have:=Int.emod_nonneg (ch.getD k 0) n0
   omega
  generalize ch.getD k 0=a at c HC;obtain ⟨t1,t2,t3⟩:=zIi a hn;generalize hr:Int.tmod a n=r at t1 t2 t3;have e2:IntKind.i64.wrap (r+(n:Int))=r+n:=vR _ (by omega) (by omega);rw [<- HC.out] at t1;generalize chN ch k n=v at t1 ⊢;have i1:(0:Int) <= k:=by omega
  have i2:(k:Int) < (ch.length:Int):=by omega
  have i3:decide ((ch.length:Int) <= (k:Int))=false:=xY (by omega);clear h hc hn hn8 t2 t3 HC;generalize ch.length=nc at i2 i3 hk ⊢;clear hk;go_enter Tryz.func80,Tryz.ntmps80
  exact J70 _
 ·have e:chN ch k n=0:=by unfold chN;rw [if_neg hk]
  rw [e];have i3:decide ((ch.length:Int) <= (k:Int))=true:=xZ (by omega);have i4:(ch.length <= k)=True:=eq_true (by omega);clear h e;generalize ch.length=nc at i3 i4 hk ⊢;clear hk;go_enter Tryz.func80,Tryz.ntmps80
  exact J70 _
def evC (x:Evt):List Value:=[.int .i64 x.thread, .int .i64 x.kind, .int .i64 x.obj, .int .i64 x.value, .int .i64 x.bad]
theorem zJH (x:Evt):(evC x).length=5:=rfl
theorem zIM:(Tryz.prog.info? 40).map (fun i=>(i.zero,i.size,i.bytes))=some (some (.agg #[.int .i64 0, .int .i64 0, .int .i64 0, .int .i64 0, .int .i64 0]),5,40):=by kernel_rfl
theorem zIX (w:World) (g n cap:Nat) (hn:n <= cap) (hm:cap <= maxLen) :
 Calls Tryz.prog 81 #[.slice (some ⟨g,0,none⟩) n cap] w fun e w'=>e=.returned (.slice (some ⟨g,0,none⟩) n n) /\ w'=w:=by
 have h1:(0:Int) <= n:=by omega
 have h2:(n:Int) <= cap:=by omega
 have h3:(cap:Int) <= 9223372036854775807:=by unfold maxLen at hm;omega
 go_enter Tryz.func81,Tryz.ntmps81
 go_wp2
 go_ret
 exact ⟨by simp,rfl⟩
theorem zIy (w:World) :
 Calls Tryz.prog 81 #[.slice none 0 0] w fun e w'=>e=.returned (.slice none 0 0) /\ w'=w:=by
 go_enter Tryz.func81,Tryz.ntmps81
 go_wp2
 go_ret
 exact ⟨by simp,rfl⟩
theorem zKQ (w:World) (ad:Option Addr) (n cap:Nat) (xs:List Evt) (h:w.ownsRow 0 40 5 (.slice ad n cap) n (xs.flatMap evC)) :
 Calls Tryz.prog 81 #[.slice ad n cap] w fun e w'=>e=.returned (.slice ad n n) /\ w'=w:=by
 rcases h.2 with ⟨e,rfl⟩ | ⟨g,cap',cur,e,_,_,h1,h2,_⟩
 ·cases e;exact zIy w
 ·cases e;exact zIX w g n cap h1 h2
theorem zC6 (n:Int) (w:World) (h:0 <= n /\ n < 8):Calls Tryz.prog 62 #[.int .i64 n] w fun e w'=>e=.returned (.bool true) /\ w=w':=by
 have h0:decide (0 <= n)=true:=xZ h.1;have h1:decide (n < 8)=true:=xZ h.2;go_enter Tryz.func62,Tryz.ntmps62
 exact J70 _
def okE (x:Evt):Prop:=(0 <= x.thread /\ x.thread < 8) /\ (0 <= x.obj /\ x.obj < 8) ∧
 (((x.kind=1 \/ x.kind=2 \/ x.kind=3) /\ x.bad=0) \/ (x.kind=4 /\ x.value=0 /\ x.bad=0) \/ (x.kind=5 /\ x.value=0 /\ (x.bad=0 \/ x.bad=2)) \/ (x.kind=6 /\ x.value=0 /\ (x.bad=0 \/ x.bad=4)) \/ (x.kind=7 /\ x.value=0 /\ (x.bad=0 \/ x.bad=3)) ∨
  (x.kind=8 /\ x.obj=0 /\ ((x.value=0 /\ x.bad=1) \/ (x.value ≠ 0 /\ x.bad=0))) \/ (x.kind=9 /\ x.obj=x.thread /\ x.value=0 /\ x.bad=0))
theorem zDi (x:Evt) (h:okE x) (w:World):Calls Tryz.prog 89 #[evV x] w fun e w'=>e=.returned (.bool true) /\ Keeps zA w w':=by
 obtain ⟨xt,xk,xo,xv,xb⟩:=x;obtain ⟨h1,h2,h3⟩:=h;unfold evV;simp only at h1 h2 h3 ⊢;have HT:=yA h1;have HO:=yA h2;obtain ⟨b1,w1,e1,e2,R1,K1,_⟩:=newRow w [.int .i64 xt, .int .i64 xk, .int .i64 xo, .int .i64 xv, .int .i64 xb] 40;have y1:=R1.five;have k1:=zI w1;have HK:=yA K1;clear h1 h2 R1 K1;by_cases hv:xv=0
 ·subst hv
  rcases h3 with ⟨rfl | rfl | rfl,rfl⟩ | ⟨rfl,_,rfl⟩ | ⟨rfl,_,rfl | rfl⟩ | ⟨rfl,_,rfl | rfl⟩ | ⟨rfl,_,rfl | rfl⟩ | ⟨rfl,rfl,⟨_,rfl⟩ | ⟨h,_⟩⟩ | ⟨rfl,rfl,_,rfl⟩
  all_goals first
   | exact absurd rfl h
   | (go_enter Tryz.func89,Tryz.ntmps89
      go_upto_region 1 with fail
      try rw [e1]
      try rw [e2]
      clear e1 e2;go_wp2_with (go_at_call 62;refine (zC6 _ _ (by first | exact HT.out | exact HO.out)).mono ?_;rintro e w5 ⟨rfl,rfl⟩)
      go_ret
      exact ⟨rfl,HK.out⟩)
 ·have hb:(xv==0)=false:=xG hv
  have hn:(xv != 0)=true:=bne_iff_ne.2 hv;rcases h3 with ⟨rfl | rfl | rfl,rfl⟩ | ⟨rfl,h,_⟩ | ⟨rfl,h,_⟩ | ⟨rfl,h,_⟩ | ⟨rfl,h,_⟩ | ⟨rfl,rfl,⟨h,_⟩ | ⟨_,rfl⟩⟩ | ⟨rfl,_,h,_⟩
  all_goals first
   | exact absurd h hv
   | (clear hv
      go_enter Tryz.func89,Tryz.ntmps89
      go_upto_region 1 with fail
      try rw [e1]
      try rw [e2]
      clear e1 e2;go_wp2_with (go_at_call 62;refine (zC6 _ _ (by first | exact HT.out | exact HO.out)).mono ?_;rintro e w5 ⟨rfl,rfl⟩)
      go_ret
      exact ⟨rfl,HK.out⟩)
def zA4 (la:Option Addr) (lc:Nat) (ba:Option Addr) (bc n:Nat) (T:List (Int × Int)) (O:List Int):List Value:=.slice la n lc :: .slice ba n bc :: (T.flatMap zBe++ints O)
theorem zBV (p:Int × Int):(zBe p).length=2:=rfl
theorem zCW {la ba:Option Addr} {lc bc n:Nat} {T:List (Int × Int)} {O:List Int} (hT:T.length=8) (hO:O.length=8):(zA4 la lc ba bc n T O).length=26:=by
 unfold zA4;simp only [xQ,xE,zw zBe 2 zBV,hT,zAq,hO]
section
variable {w:World} {b n lc bc:Nat} {la ba:Option Addr} {T:List (Int × Int)} {O:List Int}
theorem zC2 (h:zC w b (zA4 la lc ba bc n T O)) {t:Nat} (ht:t < T.length):w.cell? ⟨b,2+t*2,none⟩=some (.int .i64 (T.getD t (0,0)).1) /\ w.cell? ⟨b,2+t*2+1,none⟩=some (.int .i64 (T.getD t (0,0)).2):=by
 have key:∀ j,j < 2 -> (zA4 la lc ba bc n T O)[2+t*2+j]?=(zBe (T.getD t (0,0)))[j]?:=fun j hj=>by
  unfold zA4;rw [show 2+t*2+j=(t*2+j)+1+1 by omega,yD,yD,xK (J201 _),zBL zBe 2 zBV T t j hj,List.getD,yJ ht];rfl
 exact ⟨h.cell (key 0 (by decide)),h.cell (key 1 (by decide))⟩
theorem zFh (h:zC w b (zA4 la lc ba bc n T O)) (hT:T.length=8) {k:Nat} (hk:k < O.length):w.cell? ⟨b,18+k,none⟩=some (.int .i64 (O.getD k 0)):=by
 refine h.cell ?_
 unfold zA4;rw [show 18+k=(16+k)+1+1 by omega,yD,yD,yY (J201 _),zw zBe 2 zBV,show 16+k - T.length*2=k by omega];exact zAA O k hk
theorem zFT (h:zC w b (zA4 la lc ba bc n T O)) {t:Nat} (ht:t < T.length) (v:Int):zC (w.setCell ⟨b,2+t*2,none⟩ (.int .i64 v)) b (zA4 la lc ba bc n (T.set t (v,(T.getD t (0,0)).2)) O):=by
 have hx:T[t]?=some (T.getD t (0,0)):=by rw [List.getD,yJ ht];rfl
 have hl:t*2 < (T.flatMap zBe).length:=J201 _;have:=h.set (2+t*2) (by unfold zA4;simp only [xQ,xE];omega) (.int .i64 v)
 have e:(zA4 la lc ba bc n T O).set (2+t*2) (.int .i64 v)=zA4 la lc ba bc n (T.set t (v,(T.getD t (0,0)).2)) O:=by
  unfold zA4;rw [show 2+t*2=(t*2)+1+1 by omega,yF,yF,List.set_append_left _ _ hl];rw [show t*2=t*2+0 by rfl,zDh zBe 2 zBV T t 0 (by decide) (.int .i64 v) (T.getD t (0,0)) (v,(T.getD t (0,0)).2) hx rfl]
 rwa [e] at this
theorem zJG (h:zC w b (zA4 la lc ba bc n T O)) {t:Nat} (ht:t < T.length) (v:Int):zC (w.setCell ⟨b,2+t*2+1,none⟩ (.int .i64 v)) b (zA4 la lc ba bc n (T.set t ((T.getD t (0,0)).1,v)) O):=by
 have hx:T[t]?=some (T.getD t (0,0)):=by rw [List.getD,yJ ht];rfl
 have hl:t*2+1 < (T.flatMap zBe).length:=J201 _;have:=h.set (2+t*2+1) (by unfold zA4;simp only [xQ,xE];omega) (.int .i64 v)
 have e:(zA4 la lc ba bc n T O).set (2+t*2+1) (.int .i64 v)=zA4 la lc ba bc n (T.set t ((T.getD t (0,0)).1,v)) O:=by
  unfold zA4;rw [show 2+t*2+1=(t*2+1)+1+1 by omega,yF,yF,List.set_append_left _ _ hl];rw [zDh zBe 2 zBV T t 1 (by decide) (.int .i64 v) (T.getD t (0,0)) ((T.getD t (0,0)).1,v) hx rfl]
 rwa [e] at this
theorem zJP (h:zC w b (zA4 la lc ba bc n T O)) (hT:T.length=8) {k:Nat} (hk:k < O.length) (v:Int):zC (w.setCell ⟨b,18+k,none⟩ (.int .i64 v)) b (zA4 la lc ba bc n T (O.set k v)):=by
 have hl:(T.flatMap zBe).length=16:=by rw [zw zBe 2 zBV,hT]
 have:=h.set (18+k) (by unfold zA4;simp only [xQ,xE,zAq];omega) (.int .i64 v)
 have e:(zA4 la lc ba bc n T O).set (18+k) (.int .i64 v)=zA4 la lc ba bc n T (O.set k v):=by
  unfold zA4;rw [show 18+k=(16+k)+1+1 by omega,yF,yF,uP _ _ (by omega),hl,show 16+k - 16=k by omega];unfold ints;rw [<- List.map_set]
 rwa [e] at this
end
structure zBt (B:Nat) (w:World) (b n:Nat) (T:List (Int × Int)) (O:List Int):Prop where
 tl:T.length=8
 ol:O.length=8
 low:B <= b
 ex:∃ la lc ba bc xs ys,zC w b (zA4 la lc ba bc n T O) /\ w.ownsRow 0 40 5 (.slice la n lc) n xs /\ w.ownsRow 0 163 1 (.slice ba n bc) n ys /\ (∀ g,(Value.slice la n lc).ownBlock=some g -> B <= g /\ g ≠ b /\ (Value.slice ba n bc).ownBlock ≠ some g) /\ ∀ g,(Value.slice ba n bc).ownBlock=some g -> B <= g /\ g ≠ b
theorem zBt.keeps {B b n:Nat} {w w':World} {T:List (Int × Int)} {O:List Int} (h:zBt B w b n T O) {S:Nat -> Prop} (hk:Keeps S w w') (hS:∀ q,B <= q -> ¬ S q):zBt B w' b n T O:=by
 obtain ⟨la,lc,ba,bc,xs,ys,h1,h2,h3,h4,h5⟩:=h.ex;exact ⟨h.tl,h.ol,h.low,la,lc,ba,bc,xs,ys,h1.keeps hk (hS b h.low),zF h2 hk (fun q e=>hS q (h4 q e).1),zF h3 hk (fun q e=>hS q (h5 q e).1),h4,h5⟩
theorem zBt.row {B b n:Nat} {w:World} {T:List (Int × Int)} {O:List Int} (h:zBt B w b n T O):∃ la lc ba bc,zC w b (zA4 la lc ba bc n T O):=by
 obtain ⟨la,lc,ba,bc,xs,ys,h1,_⟩:=h.ex;exact ⟨la,lc,ba,bc,h1⟩
def zCM (k:Int) (t o:Nat) (T:List (Int × Int)) (O:List Int):Int :=
 if k=5 then (if O.getD o 0=t then 0 else 2) else if k=6 then (if (T.getD o (0,0)).1=1 then 0 else 4) else if k=7 then (if (T.getD o (0,0)).1=1 then 3 else 0) else 0
section
variable {B b n:Nat} {w:World} {T:List (Int × Int)} {O:List Int}
theorem zIz (h:zBt B w b n T O) (t:Nat) (ht:t < 8):Calls Tryz.prog 25 #[.pointer (some ⟨b,0,none⟩), .int .i64 t] w fun e w'=>e=.returned (.int .i64 (T.getD t (0,0)).1) /\ Keeps zA w w':=by
 obtain ⟨la,lc,ba,bc,hr⟩:=h.row;have c:=(zC2 hr (t:=t) (by rw [h.tl];exact ht)).1;generalize (T.getD t (0,0)).1=s at c ⊢;have i1:(0:Int) <= t:=by omega
 have i2:(t:Int) < 8:=by omega
 have HI:Hid ((0:Int) <= t /\ (t:Int) < 8):=⟨i1,i2⟩;clear h hr ht;go_enter Tryz.func25,Tryz.ntmps25
 exact J53 _
theorem zKJ (h:zBt B w b n T O) (t:Nat) (ht:t < 8):Calls Tryz.prog 26 #[.pointer (some ⟨b,0,none⟩), .int .i64 t] w fun e w'=>e=.returned (.int .i64 (O.getD t 0)) /\ Keeps zA w w':=by
 obtain ⟨la,lc,ba,bc,hr⟩:=h.row;have c:=zFh hr h.tl (k:=t) (by rw [h.ol];exact ht);generalize (O.getD t 0)=s at c ⊢;have i1:(0:Int) <= t:=by omega
 have i2:(t:Int) < 8:=by omega
 have HI:Hid ((0:Int) <= t /\ (t:Int) < 8):=⟨i1,i2⟩;clear h hr ht;go_enter Tryz.func26,Tryz.ntmps26
 exact J53 _
theorem zMr (h:zBt B w b n T O) (t o:Nat) (k:Int) (ho:o < 8) (hk:1 <= k /\ k <= 9):Calls Tryz.prog 91 #[.pointer (some ⟨b,0,none⟩), .int .i64 t, .agg #[.int .i64 k, .int .i64 o]] w fun e w'=>e=.returned (.int .i64 (zCM k t o T O)) /\ Keeps zA w w':=by
 obtain ⟨b1,w1,e1,e2,R1,K1,_⟩:=newRow w [.int .i64 k, .int .i64 o] 91;obtain ⟨la,lc,ba,bc,hr⟩:=h.row;have hr:=hr.keeps K1 (fun h=>h);have c:=(zC2 hr (t:=o) (by rw [h.tl];exact ho)).1;have d:=zFh hr h.tl (k:=o) (by rw [h.ol];exact ho);obtain ⟨bv,hbv⟩:∃ z,z=zCM k t o T O:=⟨_,rfl⟩
 rw [<- hbv];unfold zCM at hbv;generalize (T.getD o (0,0)).1=s at c hbv;generalize O.getD o 0=r at d hbv;have y0:=R1.cell (k:=0) rfl;have y1:=R1.cell (k:=1) rfl;have HK:=yA K1;have i1:(0:Int) <= o:=by omega
 have i2:(o:Int) < 8:=by omega
 clear h hr ho K1 R1;rcases (show k=1 \/ k=2 \/ k=3 \/ k=4 \/ k=5 \/ k=6 \/ k=7 \/ k=8 \/ k=9 by omega) with rfl | rfl | rfl | rfl | rfl | rfl | rfl | rfl | rfl
 all_goals (
  simp only [Int.reduceEq,kG,uU] at hbv;try (by_cases hs:s=1)
  all_goals try (by_cases hq:r=(t:Int))
  all_goals (
   try simp only [hs,hq,kG,uU] at hbv
   have HBV:=yA hbv;try have hs1:(s==1)=false:=xG hs
   try have hs2:(s != 1)=true:=bne_iff_ne.2 hs
   try have hq2:(r != (t:Int))=true:=bne_iff_ne.2 hq
   clear hbv;try subst hs
   try subst hq
   go_enter Tryz.func91,Tryz.ntmps91
   go_upto_region 1 with fail
   try rw [e1]
   try rw [e2]
   go_quiet (fail)
   go_wp2_with fail
   try (go_quiet (fail);go_wp2_with fail)
   try (go_quiet (fail);go_wp2_with fail)
   go_ret
   exact ⟨by rw [HBV.out];rfl,HK.out.zB (by repeat' first | exact yB _ _ | apply Keeps.drewN | apply Keeps.alloc)⟩))
end
end Go.Proofs.YtfokdllgnblamaaGreatDoor
