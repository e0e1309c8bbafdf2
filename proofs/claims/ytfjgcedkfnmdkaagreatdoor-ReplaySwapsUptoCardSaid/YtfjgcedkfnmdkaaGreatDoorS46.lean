/- Layer S: texts joined. -/
import Derived.Test.YtfjgcedkfnmdkaaGreatDoorS44
import Derived.Test.YtfjgcedkfnmdkaaGreatDoorS45
set_option linter.all false
set_option maxHeartbeats 8000000
set_option maxRecDepth 8000
namespace Go.Proofs.YtfjgcedkfnmdkaaGreatDoor
open Go.RowKit
theorem J87 (P:Prop) (h:P:=by
 go_wp2_with fail
 go_quiet (fail)
 go_wp2_with fail
 exact ⟨⟨k+1,by omega,by go_num,hkp.out.drewN nq⟩,by simp [intOf];omega⟩):P:=h
theorem J172 (P:Prop) (h:P:=by simp [results,Tryz.results52,go_sem,R5.cell (k:=0) rfl,R5.cell (k:=1) rfl,R5.cell (k:=2) rfl,R5.cell (k:=3) rfl,R5.cell (k:=4) rfl,R5.cell (k:=5) rfl,R5.cell (k:=6) rfl,R5.cell (k:=7) rfl,R5.cell (k:=8) rfl,R5.cell (k:=9) rfl]):P:=h
structure zCu (w:World) (F:Nat -> Prop) (cs:List Int) (bs:List Bd) (uca uta:Option Addr):Prop where
 nums:zA1 w F cs uca
 bds:zBF w F bs uta
 low:∀ k,F k -> k < w.heap.size
 kinds:∀ b,b ∈ bs -> Ac.zBh b.acts
 sz:zAl bs < 900000000
 l1:cs.length < 1000000000
 l2:bs.length < 1000000000
theorem zCu.keeps {S F:Nat -> Prop} {w w':World} {cs:List Int} {bs:List Bd} {uca uta:Option Addr} (h:zCu w F cs bs uca uta) (hk:Keeps S w w') (hS:∀ k,F k -> ¬ S k):zCu w' F cs bs uca uta :=
 ⟨h.nums.keeps hk hS,h.bds.keeps hk hS,fun k e=>yH (h.low k e) hk.size,h.kinds,h.sz,h.l1,h.l2⟩
theorem zCu.zF {F:Nat -> Prop} {w w':World} {cs:List Int} {bs:List Bd} {uca uta:Option Addr} (h:zCu w F cs bs uca uta) (hk:Keeps zA w w'):zCu w' F cs bs uca uta:=h.keeps hk (fun _ _ h=>h)
structure zAq (R:zAz zx) (sz:Nat) (ty:TypeId) (B:zCX) (D N:Nat -> Prop) (w:World) (b:Nat) (u:Un) (m:zW):Prop where
 L:zAQ R sz
 LB:BOk B
 low:∀ q,N q -> q < w.heap.size
 right:zV u=true
 ok:m.ok u
 idle:m.idle
 ex:∃ T F p H,MaP R sz ty B w T F 0 b u p m H /\ (∀ q,zAf T 0 q -> ¬ N q) /\ ∀ q,F q -> D q \/ ¬ N q
abbrev zCV:=zAq zk 1 109 zBW (fun _=>False)
section
variable {R:zAz zx} {sz:Nat} {ty:TypeId} {B:zCX} {D N N' S:Nat -> Prop} {w w':World} {b:Nat} {u:Un} {m:zW}
theorem zAq.mono (h:zAq R sz ty B D N w b u m) (hN:∀ q,N' q -> N q):zAq R sz ty B D N' w b u m:=by
 obtain ⟨T,F,p,H,h1,h2,h3⟩:=h.ex;exact ⟨h.L,h.LB,fun q hq=>h.low q (hN q hq),h.right,h.ok,h.idle,T,F,p,H,h1,fun q hq e=>h2 q hq (hN q e),fun q hq=>(h3 q hq).imp (fun h=>h) fun h e=>h (hN q e)⟩
theorem zAq.lt (h:zAq R sz ty B D N w b u m) {T:zT} {F:Nat -> Prop} {p:zA2} {H:List HTh} (h1:MaP R sz ty B w T F 0 b u p m H) {q:Nat} (hq:zAf T 0 q \/ F q):q < w.heap.size:=by
 rcases hq with hq | hq
 ·obtain ⟨t,e⟩:=hq
  exact h1.zL.sep.ok q _ e
 ·exact h1.zL.sep.low q hq
theorem zAq.zI7 (h:zAq R sz ty B D N w b u m) (hk:Keeps S w w') (hS:∀ q,S q -> N q /\ ¬ D q):zAq R sz ty B D (fun q=>N q \/ (w.heap.size <= q /\ q < w'.heap.size)) w' b u m:=by
 obtain ⟨T,F,p,H,h1,h2,h3⟩:=h.ex;refine ⟨h.L,h.LB,fun q hq=>?_,h.right,h.ok,h.idle,T,F,p,H,MaP.keeps h.L h.LB h1 hk (fun q hq e=>hq.elim (fun g=>h2 q g (hS q e).1) fun g=>(h3 q g).elim (hS q e).2 fun g=>g (hS q e).1),fun q hq e=>?_,fun q hq=>(h3 q hq).imp (fun h=>h) fun g e=>?_⟩
 ·rcases hq with hq | hq
  ·exact yH (h.low q hq) hk.size
  ·exact hq.2
 ·have:=h.lt h1 (.inl hq)
  exact e.elim (h2 q hq) (fun e=>by omega)
 ·have:=h.lt h1 (.inr hq)
  exact e.elim g (fun e=>by omega)
theorem zAq.zLy (h:zAq R sz ty B D N w b u m) (hk:Keeps S w w') (hS:∀ q,S q -> N q /\ ¬ D q):zAq R sz ty B D N w' b u m:=(h.zI7 hk hS).mono fun _ h=>.inl h
theorem zAq.zF (h:zAq R sz ty B D N w b u m) (hk:Keeps zA w w'):zAq R sz ty B D N w' b u m:=h.zLy hk fun _ h=>h.elim
theorem zAq.fresh (h:zAq R sz ty B D N w b u m) (hk:Keeps zA w w'):zAq R sz ty B D (fun q=>N q \/ (w.heap.size <= q /\ q < w'.heap.size)) w' b u m:=h.zI7 hk fun _ h=>h.elim
theorem zCV.zLE (h:zCV N w b u m) (hk:Keeps N w w'):zCV N w' b u m:=zAq.zLy h hk (fun _ h=>⟨h,fun e=>e⟩)
theorem zAq.stepped {i:Int} {P:Program} {f:FuncId} {vs:Array Value} (h:zAq R sz ty B D N w b u m) (hc:∀ T F p H,MaP R sz ty B w T F 0 b u p m H -> Calls P f vs w (zFS R sz ty B w T F 0 b u p (stepM u m i))):Calls P f vs w fun e w'=>e=.returned (.tuple #[evV (stepM u m i).2.1, .int .i64 (stepM u m i).2.2]) /\ zAq R sz ty B D N w' b u (stepM u m i).1 /\ Keeps (fun q=>¬ N q) w w':=by
 obtain ⟨T,F,p,H,h1,h2,h3⟩:=h.ex;refine (hc T F p H h1).mono ?_
 rintro e w' ⟨rfl,T',H',g1,g2,g3⟩
 refine ⟨rfl,⟨h.L,h.LB,fun q hq=>yH (h.low q hq) g3.size,h.right,(zDN h.right h.ok i).1,zI0 h.right h.ok h.idle i,T',F,p,H',g1,fun q hq e=>?_,h3⟩,g3.mono (fun q _ hq=>h2 q hq)⟩
 obtain ⟨t,et⟩:=hq;rcases g2.2 q _ et with g4 | g4
 ·exact h2 q ⟨t,g4⟩ e
 ·have:=h.low q e;omega
theorem zAq.new {T':zT} {F:Nat -> Prop} {p:zA2} {H:List HTh} (L:zAQ R sz) (LB:BOk B) (hr:zV u=true) (h1:MaP R sz ty B w' T' F 0 b u p (zAk u) H) (h2:zAR (fun _=>none) T' 0 w) (hk:Keeps zA w w') (h4:∀ q,F q -> D q \/ w.heap.size <= q):zAq R sz ty B D (fun q=>q < w.heap.size) w' b u (zAk u):=by
 refine ⟨L,LB,fun q hq=>yH hq hk.size,hr,zFU hr,zJu hr,T',F,p,H,h1,fun q hq e=>?_,fun q hq=>(h4 q hq).imp (fun h=>h) fun g e=>by have e:q < w.heap.size:=e;omega⟩
 have e:q < w.heap.size:=e;obtain ⟨t,et⟩:=hq;rcases h2.2 q _ et with g | g
 ·cases g
 ·omega
theorem zCV.step (h:zCV N w b u m) (i:Int):Calls Tryz.prog 18 #[.pointer (some ⟨b,0,none⟩), .int .i64 i] w fun e w'=>e=.returned (.tuple #[evV (stepM u m i).2.1, .int .i64 (stepM u m i).2.2]) /\ zCV N w' b u (stepM u m i).1 /\ Keeps (fun q=>¬ N q) w w' :=
 h.stepped fun _ _ _ _ h1=>zMS h1 h.right h.ok i
theorem zCV.state (h:zCV N w b u m):Calls Tryz.prog 37 #[.pointer (some ⟨b,0,none⟩)] w (zLu w m):=by
 obtain ⟨T,F,p,H,h1,h2⟩:=h.ex;exact zJt h1 h.right h.ok
theorem zCV.enabled (h:zCV N w b u m):Calls Tryz.prog 46 #[.pointer (some ⟨b,0,none⟩)] w (zHI w (zAy m)):=by
 obtain ⟨T,F,p,H,h1,h2⟩:=h.ex;exact zH0 h1 h.right h.ok
end
def newR (u:Un):Int:=zB7 (zV u) (unS u.threads) (unW u.threads)
theorem zCT {u:Un} (h:newR u=0):zV u=true:=by
 cases hr:zV u with
 | true=>rfl
 | false=>unfold newR at h;rw [hr] at h;revert h;unfold zB7;simp
section
variable {cs:List Int} {mu:Int} {bs:List Bd} {w:World} {F:Nat -> Prop} {uca uta:Option Addr} {ucc utc:Nat}
theorem zCu.within (h:zCu w F cs bs uca uta):Calls Tryz.prog 41 #[.agg #[.slice uca cs.length ucc, .int .i64 mu, .slice uta bs.length utc]] w fun e w'=>e=.returned (.int .i64 (newR ⟨cs,mu,bs⟩)) /\ Keeps zA w w' :=
 zFM cs mu bs w F uca uta ucc utc h.nums h.bds h.low h.kinds h.sz h.l1 h.l2
theorem zCu.zNV (h:zCu w F cs bs uca uta) (hr:newR ⟨cs,mu,bs⟩=0):Calls Tryz.prog 12 #[.agg #[.slice uca cs.length ucc, .int .i64 mu, .slice uta bs.length utc]] w fun e w'=>∃ b,e=.returned (.tuple #[.pointer (some ⟨b,0,none⟩), .int .i64 0]) /\ zCV (fun q=>q < w.heap.size) w' b ⟨cs,mu,bs⟩ (zAk ⟨cs,mu,bs⟩) /\ Keeps zA w w':=by
 have hR:=zCT hr;refine (zNn (T:=fun _=>none) (id:=0) h.nums h.bds (fun k x e=>by cases e) (fun k t e=>by cases e) h.sz hR (yA fun W hk=>by have g:=(h.zF hk).within (mu:=mu) (ucc:=ucc) (utc:=utc);rw [hr] at g;exact g)).mono ?_
 rintro e w' ⟨b,T',F',p,H,rfl,h1,h2,h3,h4⟩
 exact ⟨b,rfl,zAq.new zS zAB hR h1 h2 h3 (fun q e=>.inr (h4 q e)),h3⟩
end
theorem zo.ints {w:World} {v:Value} {xs:List Int} (h:zo w v xs.length (ints xs)):∃ ad cap,v=.slice ad xs.length cap /\ ∀ k,k < xs.length -> ∃ g o,ad=some ⟨g,o,none⟩ /\ w.cell? ⟨g,o+k,none⟩=some (.int .i64 (xs.getD k 0)):=by
 obtain ⟨ad,cap,e,h1⟩:=h;refine ⟨ad,cap,e,fun k hk=>?_⟩
 obtain ⟨g,o,e1,h2⟩:=h1 (by omega);exact ⟨g,o,e1,h2 k _ (zAD xs k hk)⟩
theorem zo.zF {w w':World} {v:Value} {n:Nat} {cs:List Value} (h:zo w v n cs) (hk:Keeps zA w w'):zo w' v n cs:=h.keeps hk (fun _ _ h=>h)
theorem zMJ {xs ys:List Int} (hl:xs.length=ys.length) (h:∀ j,j < xs.length -> xs.getD j 0=ys.getD j 0):xs=ys:=by
 apply List.ext_getElem hl
 intro j h1 h2
 have:=h j h1
 simpa [List.getD,h1,h2] using this
theorem zCx (w:World) (v1 v2:Value) (xs ys:List Int) (h1:zo w v1 xs.length (ints xs)) (h2:zo w v2 ys.length (ints ys)) (hm:xs.length <= 1000) :
 Calls Tryz.prog 65 #[v1,v2] w fun e w'=>e=.returned (.bool (decide (xs=ys))) /\ Keeps zA w w':=by
 have H1:=yA h1;have H2:=yA h2;obtain ⟨a1,c1,rfl,k1⟩:=h1.ints;obtain ⟨a2,c2,rfl,k2⟩:=h2.ints;clear h1 h2;by_cases hl:xs.length=ys.length
 ·have HL:=yA hl
  rw [<- hl];have hb:((xs.length:Int) != xs.length)=false:=by simp
  obtain ⟨n,hn⟩:∃ n,n=xs.length:=⟨_,rfl⟩
  have HN:=yA hn;rw [<- hn] at hm ⊢;clear k1 k2 hl hn hb;go_enter Tryz.func65,Tryz.ntmps65
  go_wp2_with fail
  go_loopw [5] (fun i wr=>∃ k:Nat,k <= n /\ i=.int .i64 k /\ Hid (∀ j,j < k -> xs.getD j 0=ys.getD j 0) /\ Hid (Keeps zA w wr)) (fun i _=>n - (intOf i).toNat)
  case atStart=>exact ⟨0,yG _,rfl,fun j hj=>absurd hj (vY _),yB _ _⟩
  case round =>
   obtain ⟨k,hk,rfl,hag,hkp⟩:=hrel;by_cases hlt:k < n
   ·obtain ⟨ad,cap,e1,q1⟩:=(H1.out.zF hkp.out).ints
    obtain ⟨ad',cap',e2,q2⟩:=(H2.out.zF hkp.out).ints;obtain ⟨g1,o1,e3,d1⟩:=q1 k (by rw [<- HN.out];exact hlt);obtain ⟨g2,o2,e4,d2⟩:=q2 k (by rw [<- HL.out,<- HN.out];exact hlt);cases e1;cases e2;subst e3 e4;have i1:(0:Int) <= k:=by omega
    have i2:(k:Int) < n:=by omega
    clear q1 q2 hk;by_cases he:xs.getD k 0=ys.getD k 0
    ·have hb:(xs.getD k 0 != ys.getD k 0)=false:=by rw [he];simp
     have HA:Hid (∀ j,j < k+1 -> xs.getD j 0=ys.getD j 0):=fun j hj=>by
      by_cases e:j=k
      ·subst e;exact he
      ·exact hag.out j (by omega)
     generalize xs.getD k 0=u1 at d1 he hb;generalize ys.getD k 0=u2 at d2 he hb;clear he hag;go_wp2_with fail
     go_region
     all_goals (
      go_wp2_with fail
      first
      | exact ⟨⟨k+1,by omega,by go_num,HA,hkp.out.drew⟩,by simp [intOf];omega⟩
      | trace_state)
    ·have hb:(xs.getD k 0 != ys.getD k 0)=true:=uW.2 he
     have HNE:Hid (decide (xs=ys)=false):=xH (fun e=>he (by rw [e]));generalize xs.getD k 0=u1 at d1 he hb;generalize ys.getD k 0=u2 at d2 he hb;clear he hag;go_wp2_with fail
     go_region
     all_goals (
      go_wp2_with fail
      go_ret
      exact ⟨kK (fun b=>Ending.returned (.bool b)) HNE.out.symm,hkp.out.drew⟩)
   ·have hkn:k=n:=by omega
    subst hkn;clear hlt;have HE:Hid (decide (xs=ys)=true):=xV (zMJ HL.out (fun j hj=>hag.out j (by rw [HN.out];exact hj)));go_wp2_with fail
    go_ret
    exact ⟨kK (fun b=>Ending.returned (.bool b)) HE.out.symm,hkp.out⟩
 ·have hb:((xs.length:Int) != ys.length)=true:=by rw [uW];omega
  have HNE:Hid (decide (xs=ys)=false):=xH (fun e=>hl (by rw [e]));clear k1 k2;generalize xs.length=n1 at hb hl;generalize ys.length=n2 at hb hl;clear hl;go_enter Tryz.func65,Tryz.ntmps65
  go_wp2_with fail
  go_ret
  exact ⟨kK (fun b=>Ending.returned (.bool b)) HNE.out.symm,yB _ _⟩
theorem zo.acts {w:World} {v:Value} {ps:List (Int × Int)} (h:zo w v ps.length (ps.flatMap zEb)):∃ ad cap,v=.slice ad ps.length cap /\ ∀ k p,ps[k]?=some p -> ∃ g o,ad=some ⟨g,o,none⟩ /\ w.cell? ⟨g,o+k*2,none⟩=some (.int .i64 p.1) /\ w.cell? ⟨g,o+k*2+1,none⟩=some (.int .i64 p.2):=by
 obtain ⟨ad,cap,e,h1⟩:=h;refine ⟨ad,cap,e,fun k p hk=>?_⟩
 have hlt:=(yI.1 hk).1;obtain ⟨g,o,e1,h2⟩:=h1 (by omega);refine ⟨g,o,e1,?_,?_⟩
 ·exact h2 (k*2) _ (by have:=zAS zEb 2 (fun _=>rfl) ps k 0 (by decide);rw [hk] at this;simpa [zEb] using this)
 ·have:=h2 (k*2+1) (.int .i64 p.2) (by have:=zAS zEb 2 (fun _=>rfl) ps k 1 (by decide);rw [hk] at this;simpa [zEb] using this)
  rw [uE];exact this
structure zBf (w:World) (c1 c2 c3 c4:Value) (xs ys ss:List Int) (ps:List (Int × Int)):Prop where
 cells:zo w c1 xs.length (ints xs)
 owners:zo w c2 ys.length (ints ys)
 sts:zo w c3 ss.length (ints ss)
 next:zo w c4 ps.length (ps.flatMap zEb)
theorem zBf.keeps {w w':World} {c1 c2 c3 c4:Value} {xs ys ss:List Int} {ps:List (Int × Int)} (h:zBf w c1 c2 c3 c4 xs ys ss ps) (hk:Keeps zA w w'):zBf w' c1 c2 c3 c4 xs ys ss ps :=
 ⟨h.cells.zF hk,h.owners.zF hk,h.sts.zF hk,h.next.zF hk⟩
theorem zF8 (w:World) (c1 c2 c3 c4 d1 d2 d3 d4:Value) (xs ys ss:List Int) (ps:List (Int × Int)) (hc:zBf w c1 c2 c3 c4 xs ys ss ps) (hd:zBf w d1 d2 d3 d4 xs ys ss ps) (hx:xs.length <= 1000) (hy:ys.length <= 1000) (hs:ss.length <= 1000) (hp:ps.length <= 1000) :
 Calls Tryz.prog 25 #[.agg #[c1,c2,c3,c4], .agg #[d1,d2,d3,d4]] w fun e w'=>e=.returned (.bool true) /\ Keeps zA w w':=by
 have HC:=yA hc;have HD:=yA hd
 have H1:Hid (∀ W,Keeps zA w W -> Calls Tryz.prog 65 #[c1,d1] W fun e w'=>e=.returned (.bool true) /\ Keeps zA W w'):=fun W hk=>by
  have:=zCx W c1 d1 xs xs (hc.keeps hk).cells (hd.keeps hk).cells hx
  rwa [xV rfl] at this
 have H2:Hid (∀ W,Keeps zA w W -> Calls Tryz.prog 65 #[c2,d2] W fun e w'=>e=.returned (.bool true) /\ Keeps zA W w'):=fun W hk=>by
  have:=zCx W c2 d2 ys ys (hc.keeps hk).owners (hd.keeps hk).owners hy
  rwa [xV rfl] at this
 have H3:Hid (∀ W,Keeps zA w W -> Calls Tryz.prog 65 #[c3,d3] W fun e w'=>e=.returned (.bool true) /\ Keeps zA W w'):=fun W hk=>by
  have:=zCx W c3 d3 ss ss (hc.keeps hk).sts (hd.keeps hk).sts hs
  rwa [xV rfl] at this
 obtain ⟨p4,q4,rfl,_⟩:=hc.next.acts;obtain ⟨r4,s4,rfl,_⟩:=hd.next.acts;obtain ⟨p1,n1,q1,rfl⟩:∃ a n c,c1=.slice a n c:=by obtain ⟨a,c,e,_⟩:=hc.cells;exact ⟨a,_,c,e⟩
 obtain ⟨p2,n2,q2,rfl⟩:∃ a n c,c2=.slice a n c:=by obtain ⟨a,c,e,_⟩:=hc.owners;exact ⟨a,_,c,e⟩
 obtain ⟨p3,n3,q3,rfl⟩:∃ a n c,c3=.slice a n c:=by obtain ⟨a,c,e,_⟩:=hc.sts;exact ⟨a,_,c,e⟩
 obtain ⟨r1,m1,s1,rfl⟩:∃ a n c,d1=.slice a n c:=by obtain ⟨a,c,e,_⟩:=hd.cells;exact ⟨a,_,c,e⟩
 obtain ⟨r2,m2,s2,rfl⟩:∃ a n c,d2=.slice a n c:=by obtain ⟨a,c,e,_⟩:=hd.owners;exact ⟨a,_,c,e⟩
 obtain ⟨r3,m3,s3,rfl⟩:∃ a n c,d3=.slice a n c:=by obtain ⟨a,c,e,_⟩:=hd.sts;exact ⟨a,_,c,e⟩
 obtain ⟨n,hn⟩:∃ n,n=ps.length:=⟨_,rfl⟩
 have HN:=yA hn;rw [<- hn] at hp HC HD ⊢;clear hc hd hx hy hs hn;go_enter Tryz.func25,Tryz.ntmps25
 go_upto_region 1 with fail
 obtain ⟨ba,hba⟩:∃ y,y=w.heap.size:=⟨_,rfl⟩
 obtain ⟨bb,hbb⟩:∃ y,y=w.heap.size+1:=⟨_,rfl⟩
 have hra:zC ((w.alloc (.cells #[.slice p1 n1 q1, .slice p2 n2 q2, .slice p3 n3 q3, .slice p4 n q4] 50)).alloc (.cells #[.slice r1 m1 s1, .slice r2 m2 s2, .slice r3 m3 s3, .slice r4 n s4] 50)) ba [.slice p1 n1 q1, .slice p2 n2 q2, .slice p3 n3 q3, .slice p4 n q4]:=by rw [hba];exact (yN (yF w _)).alloc _
 have hrb:zC ((w.alloc (.cells #[.slice p1 n1 q1, .slice p2 n2 q2, .slice p3 n3 q3, .slice p4 n q4] 50)).alloc (.cells #[.slice r1 m1 s1, .slice r2 m2 s2, .slice r3 m3 s3, .slice r4 n s4] 50)) bb [.slice r1 m1 s1, .slice r2 m2 s2, .slice r3 m3 s3, .slice r4 n s4]:=by rw [hbb];exact yN (zf w _ _)
 have hk0:Keeps zA w ((w.alloc (.cells #[.slice p1 n1 q1, .slice p2 n2 q2, .slice p3 n3 q3, .slice p4 n q4] 50)).alloc (.cells #[.slice r1 m1 s1, .slice r2 m2 s2, .slice r3 m3 s3, .slice r4 n s4] 50)):=((yB _ _).alloc _).alloc _;rw [<- hbb,<- hba];generalize ((w.alloc (.cells #[.slice p1 n1 q1, .slice p2 n2 q2, .slice p3 n3 q3, .slice p4 n q4] 50)).alloc (.cells #[.slice r1 m1 s1, .slice r2 m2 s2, .slice r3 m3 s3, .slice r4 n s4] 50))=w0 at hra hrb hk0 ⊢;have HRA:=yA hra;have HRB:=yA hrb;have HK0:=yA hk0;have x0:=hra.cell (k:=0) (v:=.slice p1 n1 q1) rfl;have y0:=hrb.cell (k:=0) (v:=.slice r1 m1 s1) rfl;clear hra hrb hk0 hba hbb;go_upto_region 2 with (go_at_call 65;refine (H1.out _ HK0.out).mono ?_;rintro e w1 ⟨rfl,g1⟩;have K1:Hid (Keeps zA w0 w1):=g1;have x1:=(HRA.out.keeps g1 (fun h=>h)).cell (k:=1) (v:=.slice p2 n2 q2) rfl;have y1:=(HRB.out.keeps g1 (fun h=>h)).cell (k:=1) (v:=.slice r2 m2 s2) rfl;clear g1)
 go_upto_region 3 with (go_at_call 65;refine (H2.out _ (HK0.out.zB K1.out)).mono ?_;rintro e w2 ⟨rfl,g1⟩;have K2:Hid (Keeps zA w0 w2):=K1.out.zB g1;have x2:=(HRA.out.keeps K2.out (fun h=>h)).cell (k:=2) (v:=.slice p3 n3 q3) rfl;have y2:=(HRB.out.keeps K2.out (fun h=>h)).cell (k:=2) (v:=.slice r3 m3 s3) rfl;clear g1)
 go_upto_region 4 with (go_at_call 65;refine (H3.out _ (HK0.out.zB K2.out)).mono ?_;rintro e w3 ⟨rfl,g1⟩;have K3:Hid (Keeps zA w0 w3):=K2.out.zB g1;have x3:=(HRA.out.keeps K3.out (fun h=>h)).cell (k:=3) (v:=.slice p4 n q4) rfl;have y3:=(HRB.out.keeps K3.out (fun h=>h)).cell (k:=3) (v:=.slice r4 n s4) rfl;clear g1)
 clear x0 y0 x1 y1 x2 y2 H1 H2 H3;go_wp2_with fail
 go_loopw [8] (fun i wr=>∃ k:Nat,k <= n /\ i=.int .i64 k /\ Hid (Keeps zA w3 wr)) (fun i _=>n - (intOf i).toNat)
 case atStart=>exact ⟨0,yG _,rfl,yB _ _⟩
 case round =>
  obtain ⟨k,hk,rfl,hkp⟩:=hrel;have KR:Hid (Keeps zA w wr):=(HK0.out.zB K3.out).zB hkp.out;have x3':=hkp.out.cell (p:=⟨ba,3,none⟩) (fun h=>h) x3;have y3':=hkp.out.cell (p:=⟨bb,3,none⟩) (fun h=>h) y3;by_cases hlt:k < n
  ·obtain ⟨p,hp⟩:∃ p,ps[k]?=some p:=⟨_,yM (by rw [<- HN.out];exact hlt)⟩
   have hcn:=(HC.out.keeps KR.out).next;have hdn:=(HD.out.keeps KR.out).next;rw [HN.out] at hcn hdn;obtain ⟨ad,cap,e1,f1⟩:=hcn.acts;obtain ⟨ad',cap',e2,f2⟩:=hdn.acts;obtain ⟨g1,o1,e3,d1,d1'⟩:=f1 k p hp;obtain ⟨g2,o2,e4,d2,d2'⟩:=f2 k p hp;cases e1;cases e2;subst e3 e4;have i1:(0:Int) <= k:=by omega
   have i2:(k:Int) < n:=by omega
   clear f1 f2 hk hcn hdn hp;exact J87 _
  ·have hkn:k=n:=by omega
   subst hkn;clear hlt;go_wp2_with fail
   go_ret
   exact ⟨rfl,KR.out⟩
theorem zIf (a:Int) {n:Nat} (h:0 < n):Int.tmod (Int.tmod a n+n) n=a % (n:Int) /\ -(n:Int) < Int.tmod a n /\ Int.tmod a n < n:=by
 have h1:Int.tmod a n < n:=Int.tmod_lt_of_pos a (by omega)
 have h2:-(n:Int) < Int.tmod a n:=by
  have h3:=Int.tmod_lt_of_pos (-a) (b:=(n:Int)) (by omega);rw [Int.neg_tmod] at h3;omega
 refine ⟨?_,h2,h1⟩
 rw [Int.tmod_eq_emod_of_nonneg (by omega),Int.add_emod_right];have e:a % (n:Int)=(Int.tmod a n+(n:Int)*Int.tdiv a n) % (n:Int):=by rw [Int.tmod_add_mul_tdiv]
 rw [e,Int.add_mul_emod_self_left]
theorem zJB (w:World) (ca:Option Addr) (cc:Nat) (ch:List Int) (k n:Nat) (h:zo w (.slice ca ch.length cc) ch.length (ints ch)) (hn:0 < n) (hn8:n <= 1000) :
 Calls Tryz.prog 63 #[.slice ca ch.length cc, .int .i64 k, .int .i64 n] w fun e w'=>e=.returned (.int .i64 (chN ch k n:Nat)) /\ w=w':=by
 have n0:(n:Int) ≠ 0:=by omega
 have n1:((n:Int)==0)=false:=xE n0;by_cases hk:k < ch.length
 ·obtain ⟨ad,cap,e,hc⟩:=h.ints
  cases e;obtain ⟨g,o,rfl,c⟩:=hc k hk
  have HC:Hid (((chN ch k n:Nat):Int)=ch.getD k 0 % (n:Int)):=by
   show _=_
   unfold chN;rw [if_pos hk];have:=Int.emod_nonneg (ch.getD k 0) n0
   omega
  generalize ch.getD k 0=a at c HC;obtain ⟨t1,t2,t3⟩:=zIf a hn;generalize hr:Int.tmod a n=r at t1 t2 t3;have e2:IntKind.i64.wrap (r+(n:Int))=r+n:=uZ _ (by omega) (by omega);rw [<- HC.out] at t1;generalize chN ch k n=v at t1 ⊢;have i1:(0:Int) <= k:=by omega
  have i2:(k:Int) < (ch.length:Int):=by omega
  have i3:decide ((ch.length:Int) <= (k:Int))=false:=xH (by omega);clear h hc hn hn8 t2 t3 HC;generalize ch.length=nc at i2 i3 hk ⊢;clear hk;go_enter Tryz.func63,Tryz.ntmps63
  exact J86 _
 ·have e:chN ch k n=0:=by unfold chN;rw [if_neg hk]
  rw [e];have i3:decide ((ch.length:Int) <= (k:Int))=true:=xV (by omega);have i4:(ch.length <= k)=True:=eq_true (by omega);clear h e;generalize ch.length=nc at i3 i4 hk ⊢;clear hk;go_enter Tryz.func63,Tryz.ntmps63
  exact J86 _
def evC (x:Evt):List Value:=[.int .i64 x.thread, .int .i64 x.kind, .int .i64 x.obj, .int .i64 x.value, .int .i64 x.bad]
theorem zBN (x:Evt):(evC x).length=5:=rfl
theorem zIz:(Tryz.prog.info? 40).map (fun i=>(i.zero,i.size,i.bytes))=some (some (.agg #[.int .i64 0, .int .i64 0, .int .i64 0, .int .i64 0, .int .i64 0]),5,40):=by kernel_rfl
theorem zIq (w:World) (g n cap:Nat) (hn:n <= cap) (hm:cap <= maxLen) :
 Calls Tryz.prog 64 #[.slice (some ⟨g,0,none⟩) n cap] w fun e w'=>e=.returned (.slice (some ⟨g,0,none⟩) n n) /\ w'=w:=by
 have h1:(0:Int) <= n:=by omega
 have h2:(n:Int) <= cap:=by omega
 have h3:(cap:Int) <= 9223372036854775807:=by unfold maxLen at hm;omega
 go_enter Tryz.func64,Tryz.ntmps64
 go_wp2
 go_ret
 exact ⟨by simp,rfl⟩
theorem zIe (w:World) :
 Calls Tryz.prog 64 #[.slice none 0 0] w fun e w'=>e=.returned (.slice none 0 0) /\ w'=w:=by
 go_enter Tryz.func64,Tryz.ntmps64
 go_wp2
 go_ret
 exact ⟨by simp,rfl⟩
theorem zKh (w:World) (ad:Option Addr) (n cap:Nat) (xs:List Evt) (h:w.ownsRow 0 40 5 (.slice ad n cap) n (xs.flatMap evC)) :
 Calls Tryz.prog 64 #[.slice ad n cap] w fun e w'=>e=.returned (.slice ad n n) /\ w'=w:=by
 rcases h.2 with ⟨e,rfl⟩ | ⟨g,cap',cur,e,_,_,h1,h2,_⟩
 ·cases e;exact zIe w
 ·cases e;exact zIq w g n cap h1 h2
theorem zEu.at {w:World} {F:Nat -> Prop} {f:zx} {cs:List Value} (h:zEu w F f cs):∃ (ad:Option Addr) (ac at_:Nat),cs=[.slice ad f.all.length ac, .int .i64 at_, .int .i64 f.left] /\ zAT w F f.all ad /\ f.rest=f.all.drop at_ /\ at_ <= f.all.length /\ Ac.zY f.all <= 1000:=h
abbrev RM (w:World) (T:zT) (F:Nat -> Prop) (id b:Nat) (u:Un) (p:zA2) (m:zW) (H:List HTh):Prop:=MaP zEu 3 149 zBF w T F id b u p m H
abbrev RW (w:World) (T:zT) (F:Nat -> Prop) (id b:Nat) (u:Un) (p:zA2) (m:zW) (w':World):Prop:=zAc zEu 3 149 zBF w T F id b u p m w'
def zGp (W:World) (g o:Nat) (a:Ac) (xa:Option Addr) (xc:Nat) (ta:Option Addr) (tc:Nat) (ea:Option Addr) (ec:Nat):Prop:=W.cell? ⟨g,o,none⟩=some (.int .i64 a.kind) /\ W.cell? ⟨g,o+1,none⟩=some (.int .i64 a.reg) /\ W.cell? ⟨g,o+2,none⟩=some (.int .i64 a.obj) /\ W.cell? ⟨g,o+3,none⟩=some (.int .i64 a.ex.kind) /\ W.cell? ⟨g,o+4,none⟩=some (.int .i64 a.ex.num) /\ W.cell? ⟨g,o+5,none⟩=some (.string a.ex.nm) /\ W.cell? ⟨g,o+6,none⟩=some (.slice xa a.ex.args.length xc) /\ W.cell? ⟨g,o+7,none⟩=some (.int .i64 a.count) /\ W.cell? ⟨g,o+8,none⟩=some (.slice ta a.thn.length tc) /\ W.cell? ⟨g,o+9,none⟩=some (.slice ea a.els.length ec)
theorem zAT.cells {w:World} {F:Nat -> Prop} {l:List Ac} {ad:Option Addr} (h:zAT w F l ad) {i:Nat} (hi:i < l.length):∃ g o xa xc ta tc ea ec,ad=some ⟨g,o,none⟩ /\ F g /\ (∀ W,Keeps zA w W -> zGp W g (o+i*10) l[i] xa xc ta tc ea ec) /\ zR w F l[i].ex.args xa /\ zAT w F l[i].thn ta /\ zAT w F l[i].els ea:=by
 obtain ⟨g,o,xa,xc,ta,tc,ea,ec,e,hg,c0,c1,c2,c3,c4,c5,c6,c7,c8,c9,h1,h2,h3⟩:=h.at hi;exact ⟨g,o,xa,xc,ta,tc,ea,ec,e,hg,fun W q=>⟨q.cell (fun h=>h) c0,q.cell (fun h=>h) c1,q.cell (fun h=>h) c2,q.cell (fun h=>h) c3,q.cell (fun h=>h) c4,q.cell (fun h=>h) c5,q.cell (fun h=>h) c6,q.cell (fun h=>h) c7,q.cell (fun h=>h) c8,q.cell (fun h=>h) c9⟩,h1,h2,h3⟩
section
variable {w w' W:World} {T:zT} {F:Nat -> Prop} {id b i:Nat} {u:Un} {p:zA2} {m:zW} {H:List HTh}
theorem MaP.thc {R:zAz zx} {sz:Nat} {ty:TypeId} {B:zCX} (h:MaP R sz ty B w T F id b u p m H) (hi:i < m.zL.length):∃ rv fv,H[i]?=some ⟨(m.get i).st,rv,fv⟩ /\ (∀ W,Keeps zA w W -> W.cell? ⟨p.gt,i*3,none⟩=some (.int .i64 (m.get i).st) /\ W.cell? ⟨p.gt,i*3+1,none⟩=some rv /\ W.cell? ⟨p.gt,i*3+2,none⟩=some fv) ∧
 (∀ j,j < 3 -> ∀ W,Keeps zA w W -> W.frozen? ⟨p.gt,i*3+j,none⟩=false):=by
 obtain ⟨rv,fv,hH,_⟩:=h.zL.get (xU hi);have th:=zAF h.zL.row hH;refine ⟨rv,fv,hH,fun W q=>⟨q.cell (fun h=>h) th.1,q.cell (fun h=>h) th.2.1,q.cell (fun h=>h) th.2.2⟩,fun j hj=>zK (zCy h.zL.row (by rw [h.zL.len];exact hi) j hj) ?_⟩
 rcases (show j=0 \/ j=1 \/ j=2 by omega) with rfl | rfl | rfl
 ·exact ⟨_,th.1⟩
 ·exact ⟨_,th.2.1⟩
 ·exact ⟨_,th.2.2⟩
end
def zGG (w:World) (g:Nat):Nat -> List Value -> World
 | _,[]=>w
 | k,v :: r=>zGG (w.setCell ⟨g,k,none⟩ v) g (k+1) r
theorem zHo {g:Nat}:(vs:List Value) -> (k:Nat) -> (w:World) -> (cs:List Value) -> zC w g cs -> k+vs.length=cs.length -> zC (zGG w g k vs) g (cs.take k++vs)
 | [],k,w,cs,h,e=>by
   have e':cs.take k=cs:=List.take_of_length_le (by simp at e;omega);rw [e',List.append_nil];exact h
 | v :: r,k,w,cs,h,e=>by
   have hk:k < cs.length:=by simp at e;omega
   have:=zHo r (k+1) (w.setCell ⟨g,k,none⟩ v) (cs.set k v) (h.set k hk v) (by simp at e ⊢;omega)
   have e2:(cs.set k v).take (k+1)++r=cs.take k++v :: r:=by
    rw [kQ,List.take_set_of_le (yV k)];simp [hk]
   rw [e2] at this;exact this
theorem zC5 (g:Nat):(vs:List Value) -> (k:Nat) -> (w:World) -> Keeps (fun q=>q=g) w (zGG w g k vs)
 | [],_,w=>yB _ _
 | v :: r,k,w=>((yB (fun q=>q=g) w).setCell (p:=⟨g,k,none⟩) (fun _=>rfl) v).trans (zC5 g r (k+1) _) (fun _ _ h=>h)
theorem zDM {w w2:World} {g:Nat} {cs:List Value} (vs:List Value) (h:zC w2 g cs) (hl:vs.length=cs.length) (hk:Keeps zA w w2) (hg:w.heap.size <= g):zC (zGG w2 g 0 vs) g vs /\ Keeps zA w (zGG w2 g 0 vs) :=
 ⟨by simpa using zHo vs 0 w2 cs h (by omega),hk.trans (zC5 g vs 0 w2) (fun q hq e=>absurd hq (by have e':q=g:=e;omega))⟩
theorem zAL {w:World} {g:Nat} {cs:List Value} (r:zC w g cs):∀ j,j < cs.length -> ∀ W,Keeps zA w W -> W.frozen? ⟨g,j,none⟩=false:=fun j hj=>zK (r.free (k:=j) hj) ⟨_,r.cell (yM hj)⟩
abbrev zNc:Value:=.agg #[.int .i64 0, .int .i64 0, .int .i64 0, .int .i64 0, .int .i64 0, .string { data:=#[] }, .slice none 0 0, .int .i64 0, .slice none 0 0, .slice none 0 0]
theorem zKf {w:World} {g i cap:Nat} {ad:Option Addr} (c2:∀ W,Keeps zA w W -> W.cell? ⟨g,i*3+2,none⟩=some (.slice ad 0 cap)) :
 Calls Tryz.prog 52 #[.pointer (some ⟨g,i*3,none⟩)] w fun e w'=>e=.returned (.tuple #[zNc, .bool false]) /\ Keeps zA w w':=by
 obtain ⟨b4,w4,e3,e4,R4,K4,_⟩:=newRow w [.int .i64 0, .int .i64 0, .int .i64 0, .int .i64 0, .int .i64 0, .string { data:=#[] }, .slice none 0 0, .int .i64 0, .slice none 0 0, .slice none 0 0] 75;have fr:=zAL R4;have HR4:=yA R4;have HB4:Hid (w.heap.size <= b4 /\ Keeps zA w w4):=⟨by exact J178 _,K4⟩;replace c2:=fun W (q:Keeps zA w4 W)=>c2 W (K4.zB q)
 have y:=R4.zAw;have k4:=zJ w4;have f0:=fr 0 (by decide);have f1:=fr 1 (by decide);have f2:=fr 2 (by decide);have f3:=fr 3 (by decide);have f4:=fr 4 (by decide);have f5:=fr 5 (by decide);have f6:=fr 6 (by decide);have f7:=fr 7 (by decide);have f8:=fr 8 (by decide);have f9:=fr 9 (by decide);clear fr R4 K4;go_enter Tryz.func52,Tryz.ntmps52
 go_upto_region 1 with fail
 try rw [e3]
 try rw [e4]
 clear e3 e4;go_wp2_with fail
 obtain ⟨R5,K5⟩:=zDM (w:=w) [.int .i64 0, .int .i64 0, .int .i64 0, .int .i64 0, .int .i64 0, .string { data:=#[] }, .slice none 0 0, .int .i64 0, .slice none 0 0, .slice none 0 0] HR4.out rfl HB4.out.2 HB4.out.1;simp only [zGG,xA,Nat.reduceAdd] at R5 K5;refine xR (v:=.tuple #[.agg #[.int .i64 0, .int .i64 0, .int .i64 0, .int .i64 0, .int .i64 0, .string { data:=#[] }, .slice none 0 0, .int .i64 0, .slice none 0 0, .slice none 0 0], .bool false]) (J172 _) rfl ⟨rfl,K5⟩
theorem zLx {w:World} {g i m cap gp ga oa na ac at_ left:Nat} {a:Ac} {xa ta ea:Option Addr} {xc tc ec:Nat} (hm:m < 1000000) (hat:at_ < na)
 (c2:∀ W,Keeps zA w W -> W.cell? ⟨g,i*3+2,none⟩=some (.slice (some ⟨gp,0,none⟩) (m+1) cap))
 (p:∀ W,Keeps zA w W -> W.cell? ⟨gp,m*3,none⟩=some (.slice (some ⟨ga,oa,none⟩) na ac) /\ W.cell? ⟨gp,m*3+1,none⟩=some (.int .i64 at_) /\ W.cell? ⟨gp,m*3+2,none⟩=some (.int .i64 left))
 (d:∀ W,Keeps zA w W -> zGp W ga (oa+at_*10) a xa xc ta tc ea ec) :
 Calls Tryz.prog 52 #[.pointer (some ⟨g,i*3,none⟩)] w fun e w'=>e=.returned (.tuple #[.agg #[.int .i64 a.kind, .int .i64 a.reg, .int .i64 a.obj, .int .i64 a.ex.kind, .int .i64 a.ex.num, .string a.ex.nm, .slice xa a.ex.args.length xc, .int .i64 a.count, .slice ta a.thn.length tc, .slice ea a.els.length ec], .bool true]) /\ Keeps zA w w':=by
 unfold zGp at d;have e1:IntKind.i64.wrap (((m+1:Nat):Int) - 1)=(m:Int):=J167 _;have i1:(0:Int) <= m:=by omega
 have i2:(m:Int) < ((m+1:Nat):Int):=by omega
 have i3:¬ ((m+1:Nat):Int)=0:=by omega
 have i4:(((m+1:Nat):Int)==0)=false:=xE i3;have i5:(0:Int) <= at_:=by omega
 have i6:(at_:Int) < na:=by omega
 obtain ⟨b4,w4,e3,e4,R4,K4,_⟩:=newRow w [.int .i64 0, .int .i64 0, .int .i64 0, .int .i64 0, .int .i64 0, .string { data:=#[] }, .slice none 0 0, .int .i64 0, .slice none 0 0, .slice none 0 0] 75;have fr:=zAL R4;have HR4:=yA R4;have HB4:Hid (w.heap.size <= b4 /\ Keeps zA w w4):=⟨by exact J178 _,K4⟩;replace c2:=fun W (q:Keeps zA w4 W)=>c2 W (K4.zB q)
 replace p:=fun W (q:Keeps zA w4 W)=>p W (K4.zB q)
 replace d:=fun W (q:Keeps zA w4 W)=>d W (K4.zB q)
 have y:=R4.zAw;have k4:=zJ w4;have f0:=fr 0 (by decide);have f1:=fr 1 (by decide);have f2:=fr 2 (by decide);have f3:=fr 3 (by decide);have f4:=fr 4 (by decide);have f5:=fr 5 (by decide);have f6:=fr 6 (by decide);have f7:=fr 7 (by decide);have f8:=fr 8 (by decide);have f9:=fr 9 (by decide);clear fr R4 K4;go_enter Tryz.func52,Tryz.ntmps52
 go_upto_region 1 with fail
 try rw [e3]
 try rw [e4]
 clear e3 e4;go_upto_region 3 with fail
 refine zQ 13 (by kernel_rfl) (by kernel_rfl) (Keeps zA) (yB zA) (fun a b c h h'=>xJ h h') (zAo [some (.pointer (some ⟨g,i*3,none⟩)),some (.pointer (some ⟨g,i*3,none⟩)),some (.pointer (some ⟨g,i*3+2,none⟩)),some (.slice (some ⟨gp,0,none⟩) (m+1) cap),some (.pointer (some ⟨g,i*3,none⟩)),some (.pointer (some ⟨g,i*3,none⟩)),some (.pointer (some ⟨g,i*3+2,none⟩)),some (.slice (some ⟨gp,0,none⟩) (m+1) cap),some (.int .i64 ((m+1:Nat):Int)),some (.int .i64 (m:Int)),some (.pointer (some ⟨gp,m*3,none⟩)),some (.agg #[.slice (some ⟨ga,oa,none⟩) na ac, .int .i64 at_, .int .i64 left]),none] (fun _ v W=>∃ b8,v=.pointer (some ⟨b8,0,none⟩) /\ zC W b8 [.slice none 0 0, .int .i64 0, .int .i64 0] /\ w4.heap.size <= b8)) (vU (fun _ _ _ _ h hk=>by obtain ⟨b8,e,h1,h2⟩:=h;exact ⟨b8,e,h1.keeps hk (fun h=>h),h2⟩)) ?_ ?_
 ·intro q oo hq ho vs W Q' hR hd hK
  have HRW:Keeps zA w4 W:=((zJ w4).drew).zB hR;rcases (show q=0 \/ q=1 \/ q=2 \/ q=3 \/ q=4 \/ q=5 \/ q=6 \/ q=7 \/ q=8 \/ q=9 \/ q=10 \/ q=11 \/ q=12 by omega) with rfl | rfl | rfl | rfl | rfl | rfl | rfl | rfl | rfl | rfl | rfl | rfl | rfl
  all_goals (simp only [yC,yD,yP] at ho;subst ho;simp only [zI,yC,yD,yO,Option.bind,Act.put,yE,yK,yL] at hK ⊢;clear hq)
  all_goals try ((try (have e:vs 0=_:=hd 0 (by decide +kernel);rw [e] at hK ⊢;clear e));(try (have e:vs 1=_:=hd 1 (by decide +kernel);rw [e] at hK ⊢;clear e));(try (have e:vs 2=_:=hd 2 (by decide +kernel);rw [e] at hK ⊢;clear e));(try (have e:vs 3=_:=hd 3 (by decide +kernel);rw [e] at hK ⊢;clear e));(try (have e:vs 4=_:=hd 4 (by decide +kernel);rw [e] at hK ⊢;clear e));(try (have e:vs 5=_:=hd 5 (by decide +kernel);rw [e] at hK ⊢;clear e));(try (have e:vs 6=_:=hd 6 (by decide +kernel);rw [e] at hK ⊢;clear e));(try (have e:vs 7=_:=hd 7 (by decide +kernel);rw [e] at hK ⊢;clear e));(try (have e:vs 8=_:=hd 8 (by decide +kernel);rw [e] at hK ⊢;clear e));(try (have e:vs 9=_:=hd 9 (by decide +kernel);rw [e] at hK ⊢;clear e));(try (have e:vs 10=_:=hd 10 (by decide +kernel);rw [e] at hK ⊢;clear e));(try (have e:vs 11=_:=hd 11 (by decide +kernel);rw [e] at hK ⊢;clear e));clear hd;go_wp2_with (fail);first | exact hK _ _ (yB _ _) rfl)
  ·clear hd
   exact J96 _
 ·intro vs W hR hFF
  have HRW:Keeps zA w4 W:=((zJ w4).drew).zB hR;have e11:vs 11=_:=hFF 11 (by decide);obtain ⟨b8,e12,R8,l8⟩:=(hFF 12 (by decide):∃ b8,vs 12=.pointer (some ⟨b8,0,none⟩) /\ zC W b8 [.slice none 0 0, .int .i64 0, .int .i64 0] /\ w4.heap.size <= b8);simp only [zI,yC,yD,yO,Option.bind,Act.put,yE,yK,yL,yU,yQ];rw [e11,e12];have c8:=R8.zEH;have g0:=zAL R8 0 (by decide);have g1:=zAL R8 1 (by decide);have g2:=zAL R8 2 (by decide);have kWW:=zJ W;clear hFF e11 e12 hR c2;go_upto_region 4 with fail
  obtain ⟨R9,K9⟩:=zDM (w:=w4) [.slice (some ⟨ga,oa,none⟩) na ac, .int .i64 at_, .int .i64 left] R8 rfl HRW l8;simp only [zGG,xA,Nat.reduceAdd] at R9 K9;generalize ((W.setCell ⟨b8,0,none⟩ (.slice (some ⟨ga,oa,none⟩) na ac)).setCell ⟨b8,1,none⟩ (.int .i64 at_)).setCell ⟨b8,2,none⟩ (.int .i64 left)=w6 at R9 K9 ⊢;clear c8 g0 g1 g2 kWW R8;have c9:=R9.zEH;have k6:=zJ w6;replace f0:=fun W (q:Keeps zA w6 W)=>f0 W (K9.zB q)
  replace f1:=fun W (q:Keeps zA w6 W)=>f1 W (K9.zB q)
  replace f2:=fun W (q:Keeps zA w6 W)=>f2 W (K9.zB q)
  replace f3:=fun W (q:Keeps zA w6 W)=>f3 W (K9.zB q)
  replace f4:=fun W (q:Keeps zA w6 W)=>f4 W (K9.zB q)
  replace f5:=fun W (q:Keeps zA w6 W)=>f5 W (K9.zB q)
  replace f6:=fun W (q:Keeps zA w6 W)=>f6 W (K9.zB q)
  replace f7:=fun W (q:Keeps zA w6 W)=>f7 W (K9.zB q)
  replace f8:=fun W (q:Keeps zA w6 W)=>f8 W (K9.zB q)
  replace f9:=fun W (q:Keeps zA w6 W)=>f9 W (K9.zB q)
  replace d:=fun W (q:Keeps zA w6 W)=>d W (K9.zB q)
  replace y:=fun W (q:Keeps zA w6 W)=>y W (K9.zB q)
  have HR6:=yA (HR4.out.keeps K9 (fun h=>h));have HB6:Hid (w.heap.size <= b4 /\ Keeps zA w w6):=⟨HB4.out.1,HB4.out.2.zB K9⟩;clear K9 R9 HRW k4 p l8;go_wp2_with fail
  obtain ⟨R5,K5⟩:=zDM (w:=w) [.int .i64 a.kind, .int .i64 a.reg, .int .i64 a.obj, .int .i64 a.ex.kind, .int .i64 a.ex.num, .string a.ex.nm, .slice xa a.ex.args.length xc, .int .i64 a.count, .slice ta a.thn.length tc, .slice ea a.els.length ec] HR6.out rfl HB6.out.2 HB6.out.1;simp only [zGG,xA,Nat.reduceAdd] at R5 K5;refine xR (v:=.tuple #[.agg #[.int .i64 a.kind, .int .i64 a.reg, .int .i64 a.obj, .int .i64 a.ex.kind, .int .i64 a.ex.num, .string a.ex.nm, .slice xa a.ex.args.length xc, .int .i64 a.count, .slice ta a.thn.length tc, .slice ea a.els.length ec], .bool true]) (J172 _) rfl ⟨rfl,K5⟩
end Go.Proofs.YtfjgcedkfnmdkaaGreatDoor
