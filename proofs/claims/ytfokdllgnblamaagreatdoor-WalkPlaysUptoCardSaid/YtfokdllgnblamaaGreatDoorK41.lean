/- Layer K: texts joined. -/
import Derived.Test.YtfokdllgnblamaaGreatDoorK39
import Derived.Test.YtfokdllgnblamaaGreatDoorK40
set_option linter.all false
set_option maxHeartbeats 4000000
set_option maxRecDepth 8000
namespace Go.Proofs.YtfokdllgnblamaaGreatDoor
open Go.RowKit
theorem J60 (P:Prop) (h:P:=by
 go_enter Tryz.func12,Tryz.ntmps12
 go_wp2_with fail
 go_ret
 exact ⟨kJ (fun b=>Ending.returned (.int .i64 b)) HP.out.symm,yC _ _⟩):P:=h
theorem J96 (P:Prop) (h:P:=by
 rcases (show k=8 \/ k=9 by omega) with rfl | rfl
 all_goals (
  go_enter Tryz.func100,Tryz.ntmps100
  go_wp2_with fail
  go_ret
  exact ⟨by simp [zDA,w64],rfl⟩)):P:=h
theorem J117 (P:Prop) (h:P:=by rwa [uB rfl] at this):P:=h
theorem J144 (P:Prop) (h:P:=by
 have:=kJ List.length hrest
 rw [hr,xZ,List.length_drop] at this;omega):P:=h
theorem J148 (P:Prop) (h:P:=by
 rcases hq with hq | hq
 ·exact yI (h.low q hq) hk.size
 ·exact hq.2):P:=h
structure zBp (w:World) (F:Nat -> Prop) (cs:List Int) (bs:List Bd) (uca uta:Option Addr):Prop where
 nums:zAf w F cs uca
 bds:zAk w F bs uta
 low:∀ k,F k -> k < w.heap.size
 kinds:∀ b,b ∈ bs -> Ac.zBl b.acts
 sz:zAy bs < 900000000
 l1:cs.length < 1000000000
 l2:bs.length < 1000000000
theorem zBp.keeps {S F:Nat -> Prop} {w w':World} {cs:List Int} {bs:List Bd} {uca uta:Option Addr} (h:zBp w F cs bs uca uta) (hk:Keeps S w w') (hS:∀ k,F k -> ¬ S k):zBp w' F cs bs uca uta :=
 ⟨h.nums.keeps hk hS,h.bds.keeps hk hS,fun k e=>yI (h.low k e) hk.size,h.kinds,h.sz,h.l1,h.l2⟩
theorem zBp.zD {F:Nat -> Prop} {w w':World} {cs:List Int} {bs:List Bd} {uca uta:Option Addr} (h:zBp w F cs bs uca uta) (hk:Keeps zA w w'):zBp w' F cs bs uca uta:=h.keeps hk (fun _ _ h=>h)
structure zAm (R:zBA WFr) (sz:Nat) (ty:TypeId) (B:zCf) (D N:Nat -> Prop) (w:World) (b:Nat) (u:Un) (m:zm):Prop where
 L:zAX R sz
 LB:BOk B
 low:∀ q,N q -> q < w.heap.size
 right:zX u=true
 ok:m.ok u
 idle:m.idle
 ex:∃ T F p H,MaP R sz ty B w T F 0 b u p m H /\ (∀ q,zAh T 0 q -> ¬ N q) /\ ∀ q,F q -> D q \/ ¬ N q
abbrev zCn:=zAm zi 1 103 zBX (fun _=>False)
section
variable {R:zBA WFr} {sz:Nat} {ty:TypeId} {B:zCf} {D N N' S:Nat -> Prop} {w w':World} {b:Nat} {u:Un} {m:zm}
theorem zAm.mono (h:zAm R sz ty B D N w b u m) (hN:∀ q,N' q -> N q):zAm R sz ty B D N' w b u m:=by
 obtain ⟨T,F,p,H,h1,h2,h3⟩:=h.ex;exact ⟨h.L,h.LB,fun q hq=>h.low q (hN q hq),h.right,h.ok,h.idle,T,F,p,H,h1,fun q hq e=>h2 q hq (hN q e),fun q hq=>(h3 q hq).imp (fun h=>h) fun h e=>h (hN q e)⟩
theorem zAm.lt (h:zAm R sz ty B D N w b u m) {T:zS} {F:Nat -> Prop} {p:zAn} {H:List HTh} (h1:MaP R sz ty B w T F 0 b u p m H) {q:Nat} (hq:zAh T 0 q \/ F q):q < w.heap.size:=by
 rcases hq with hq | hq
 ·obtain ⟨t,e⟩:=hq
  exact h1.zM.sep.ok q _ e
 ·exact h1.zM.sep.low q hq
theorem zAm.zGF (h:zAm R sz ty B D N w b u m) (hk:Keeps S w w') (hS:∀ q,S q -> N q /\ ¬ D q):zAm R sz ty B D (fun q=>N q \/ (w.heap.size <= q /\ q < w'.heap.size)) w' b u m:=by
 obtain ⟨T,F,p,H,h1,h2,h3⟩:=h.ex;refine ⟨h.L,h.LB,fun q hq=>?_,h.right,h.ok,h.idle,T,F,p,H,MaP.keeps h.L h.LB h1 hk (fun q hq e=>hq.elim (fun g=>h2 q g (hS q e).1) fun g=>(h3 q g).elim (hS q e).2 fun g=>g (hS q e).1),fun q hq e=>?_,fun q hq=>(h3 q hq).imp (fun h=>h) fun g e=>?_⟩
 ·exact J148 _
 ·have:=h.lt h1 (.inl hq)
  exact e.elim (h2 q hq) (fun e=>by omega)
 ·have:=h.lt h1 (.inr hq)
  exact e.elim g (fun e=>by omega)
theorem zAm.zOE (h:zAm R sz ty B D N w b u m) (hk:Keeps S w w') (hS:∀ q,S q -> N q /\ ¬ D q):zAm R sz ty B D N w' b u m:=(h.zGF hk hS).mono fun _ h=>.inl h
theorem zAm.zD (h:zAm R sz ty B D N w b u m) (hk:Keeps zA w w'):zAm R sz ty B D N w' b u m:=h.zOE hk fun _ h=>h.elim
theorem zAm.fresh (h:zAm R sz ty B D N w b u m) (hk:Keeps zA w w'):zAm R sz ty B D (fun q=>N q \/ (w.heap.size <= q /\ q < w'.heap.size)) w' b u m:=h.zGF hk fun _ h=>h.elim
theorem zAm.stepped {i:Int} {P:Program} {f:FuncId} {vs:Array Value} (h:zAm R sz ty B D N w b u m) (hc:∀ T F p H,MaP R sz ty B w T F 0 b u p m H -> Calls P f vs w (zEk R sz ty B w T F 0 b u p (stepM u m i))):Calls P f vs w fun e w'=>e=.returned (.tuple #[evV (stepM u m i).2.1, .int .i64 (stepM u m i).2.2]) /\ zAm R sz ty B D N w' b u (stepM u m i).1 /\ Keeps (fun q=>¬ N q) w w':=by
 obtain ⟨T,F,p,H,h1,h2,h3⟩:=h.ex;refine (hc T F p H h1).mono ?_
 rintro e w' ⟨rfl,T',H',g1,g2,g3⟩
 refine ⟨rfl,⟨h.L,h.LB,fun q hq=>yI (h.low q hq) g3.size,h.right,(zLq h.right h.ok i).1,zJT h.right h.ok h.idle i,T',F,p,H',g1,fun q hq e=>?_,h3⟩,g3.mono (fun q _ hq=>h2 q hq)⟩
 obtain ⟨t,et⟩:=hq;rcases g2.2 q _ et with g4 | g4
 ·exact h2 q ⟨t,g4⟩ e
 ·have:=h.low q e;omega
theorem zAm.new {T':zS} {F:Nat -> Prop} {p:zAn} {H:List HTh} (L:zAX R sz) (LB:BOk B) (hr:zX u=true) (h1:MaP R sz ty B w' T' F 0 b u p (zCY u) H) (h2:zAG (fun _=>none) T' 0 w) (hk:Keeps zA w w') (h4:∀ q,F q -> D q \/ w.heap.size <= q):zAm R sz ty B D (fun q=>q < w.heap.size) w' b u (zCY u):=by
 refine ⟨L,LB,fun q hq=>yI hq hk.size,hr,zJj hr,zKM hr,T',F,p,H,h1,fun q hq e=>?_,fun q hq=>(h4 q hq).imp (fun h=>h) fun g e=>by have e:q < w.heap.size:=e;omega⟩
 have e:q < w.heap.size:=e;obtain ⟨t,et⟩:=hq;rcases h2.2 q _ et with g | g
 ·cases g
 ·omega
theorem zCn.step (h:zCn N w b u m) (i:Int):Calls Tryz.prog 15 #[.pointer (some ⟨b,0,none⟩), .int .i64 i] w fun e w'=>e=.returned (.tuple #[evV (stepM u m i).2.1, .int .i64 (stepM u m i).2.2]) /\ zCn N w' b u (stepM u m i).1 /\ Keeps (fun q=>¬ N q) w w' :=
 h.stepped fun _ _ _ _ h1=>zIf h1 h.right h.ok i
theorem zCn.state (h:zCn N w b u m):Calls Tryz.prog 27 #[.pointer (some ⟨b,0,none⟩)] w (zHK w m):=by
 obtain ⟨T,F,p,H,h1,h2⟩:=h.ex;exact zGz h1 h.right h.ok
theorem zCn.over (h:zCn N w b u m):Calls Tryz.prog 28 #[.pointer (some ⟨b,0,none⟩)] w fun e w'=>e=.returned (.bool (decide ((zBu m).length=0))) /\ Keeps zA w w':=by
 obtain ⟨T,F,p,H,h1,h2⟩:=h.ex;exact zHl h1 h.right h.ok
end
def newR (u:Un):Int:=zCq (zX u) (unS u.threads) (unW u.threads)
theorem zF2 {u:Un} (h:newR u=0):zX u=true:=by
 cases hr:zX u with
 | true=>rfl
 | false=>unfold newR at h;rw [hr] at h;revert h;unfold zCq;simp
section
variable {cs:List Int} {mu:Int} {bs:List Bd} {w:World} {F:Nat -> Prop} {uca uta:Option Addr} {ucc utc:Nat}
theorem zBp.within (h:zBp w F cs bs uca uta):Calls Tryz.prog 31 #[.agg #[.slice uca cs.length ucc, .int .i64 mu, .slice uta bs.length utc]] w fun e w'=>e=.returned (.int .i64 (newR ⟨cs,mu,bs⟩)) /\ Keeps zA w w' :=
 zFe cs mu bs w F uca uta ucc utc h.nums h.bds h.low h.kinds h.sz h.l1 h.l2
theorem zBp.zOs (h:zBp w F cs bs uca uta) (hr:newR ⟨cs,mu,bs⟩ ≠ 0):Calls Tryz.prog 9 #[.agg #[.slice uca cs.length ucc, .int .i64 mu, .slice uta bs.length utc]] w fun e w'=>e=.returned (.tuple #[.pointer none, .int .i64 (newR ⟨cs,mu,bs⟩)]) /\ Keeps zA w w' :=
 zON _ hr (yB fun W hk=>(h.zD hk).within)
theorem zBp.zNq (h:zBp w F cs bs uca uta) (hr:newR ⟨cs,mu,bs⟩=0):Calls Tryz.prog 9 #[.agg #[.slice uca cs.length ucc, .int .i64 mu, .slice uta bs.length utc]] w fun e w'=>∃ b,e=.returned (.tuple #[.pointer (some ⟨b,0,none⟩), .int .i64 0]) /\ zCn (fun q=>q < w.heap.size) w' b ⟨cs,mu,bs⟩ (zCY ⟨cs,mu,bs⟩) /\ Keeps zA w w':=by
 have hR:=zF2 hr;refine (zNx (T:=fun _=>none) (id:=0) h.nums h.bds (fun k x e=>by cases e) (fun k t e=>by cases e) h.sz hR (yB fun W hk=>by have g:=(h.zD hk).within (mu:=mu) (ucc:=ucc) (utc:=utc);rw [hr] at g;exact g)).mono ?_
 rintro e w' ⟨b,T',F',p,H,rfl,h1,h2,h3,h4⟩
 exact ⟨b,rfl,zAm.new zU zAP hR h1 h2 h3 (fun q e=>.inr (h4 q e)),h3⟩
end
theorem zAD.ints {w:World} {v:Value} {xs:List Int} (h:zAD w v xs.length (ints xs)):∃ ad cap,v=.slice ad xs.length cap /\ ∀ k,k < xs.length -> ∃ g o,ad=some ⟨g,o,none⟩ /\ w.cell? ⟨g,o+k,none⟩=some (.int .i64 (xs.getD k 0)):=by
 obtain ⟨ad,cap,e,h1⟩:=h;refine ⟨ad,cap,e,fun k hk=>?_⟩
 obtain ⟨g,o,e1,h2⟩:=h1 (by omega);exact ⟨g,o,e1,h2 k _ (zu xs k hk)⟩
theorem zAD.zD {w w':World} {v:Value} {n:Nat} {cs:List Value} (h:zAD w v n cs) (hk:Keeps zA w w'):zAD w' v n cs:=h.keeps hk (fun _ _ h=>h)
theorem zMh {xs ys:List Int} (hl:xs.length=ys.length) (h:∀ j,j < xs.length -> xs.getD j 0=ys.getD j 0):xs=ys:=by
 apply List.ext_getElem hl
 intro j h1 h2
 have:=h j h1
 simpa [List.getD,h1,h2] using this
theorem zCS (w:World) (v1 v2:Value) (xs ys:List Int) (h1:zAD w v1 xs.length (ints xs)) (h2:zAD w v2 ys.length (ints ys)) (hm:xs.length <= 1000) :
 Calls Tryz.prog 74 #[v1,v2] w fun e w'=>e=.returned (.bool (decide (xs=ys))) /\ Keeps zA w w':=by
 have H1:=yB h1;have H2:=yB h2;obtain ⟨a1,c1,rfl,k1⟩:=h1.ints;obtain ⟨a2,c2,rfl,k2⟩:=h2.ints;clear h1 h2;by_cases hl:xs.length=ys.length
 ·have HL:=yB hl
  rw [<- hl];have hb:((xs.length:Int) != xs.length)=false:=by simp
  obtain ⟨n,hn⟩:=eX xs.length;have HN:=yB hn;rw [<- hn] at hm ⊢;clear k1 k2 hl hn hb;go_enter Tryz.func74,Tryz.ntmps74
  go_wp2_with fail
  go_loopw [5] (fun i wr=>∃ k:Nat,k <= n /\ i=.int .i64 k /\ Hid (∀ j,j < k -> xs.getD j 0=ys.getD j 0) /\ Hid (Keeps zA w wr)) (fun i _=>n - (intOf i).toNat)
  case atStart=>exact ⟨0,yJ _,rfl,fun j hj=>absurd hj (kQ _),yC _ _⟩
  case round =>
   obtain ⟨k,hk,rfl,hag,hkp⟩:=hrel;by_cases hlt:k < n
   ·obtain ⟨ad,cap,e1,q1⟩:=(H1.out.zD hkp.out).ints
    obtain ⟨ad',cap',e2,q2⟩:=(H2.out.zD hkp.out).ints;obtain ⟨g1,o1,e3,d1⟩:=q1 k (by rw [<- HN.out];exact hlt);obtain ⟨g2,o2,e4,d2⟩:=q2 k (by rw [<- HL.out,<- HN.out];exact hlt);cases e1;cases e2;subst e3 e4;have i1:(0:Int) <= k:=by omega
    have i2:(k:Int) < n:=by omega
    clear q1 q2 hk;by_cases he:xs.getD k 0=ys.getD k 0
    ·have hb:(xs.getD k 0 != ys.getD k 0)=false:=by rw [he];simp
     have HA:Hid (∀ j,j < k+1 -> xs.getD j 0=ys.getD j 0):=fun j hj=>by
      by_cases e:j=k
      ·subst e;exact he
      ·exact hag.out j (by omega)
     generalize xs.getD k 0=u1 at d1 he hb;generalize ys.getD k 0=u2 at d2 he hb;clear he hag;go_wp2_with fail
     go_region
     all_goals (
      go_wp2_with fail
      first
      | exact ⟨⟨k+1,by omega,by go_num,HA,hkp.out.drew⟩,by simp [intOf];omega⟩
      | trace_state)
    ·have hb:(xs.getD k 0 != ys.getD k 0)=true:=uE.2 he
     have HNE:Hid (decide (xs=ys)=false):=xK (fun e=>he (by rw [e]));generalize xs.getD k 0=u1 at d1 he hb;generalize ys.getD k 0=u2 at d2 he hb;clear he hag;go_wp2_with fail
     go_region
     all_goals (
      go_wp2_with fail
      go_ret
      exact ⟨kJ (fun b=>Ending.returned (.bool b)) HNE.out.symm,hkp.out.drew⟩)
   ·have hkn:k=n:=by omega
    subst hkn;clear hlt;have HE:Hid (decide (xs=ys)=true):=uB (zMh HL.out (fun j hj=>hag.out j (by rw [HN.out];exact hj)));go_wp2_with fail
    go_ret
    exact ⟨kJ (fun b=>Ending.returned (.bool b)) HE.out.symm,hkp.out⟩
 ·have hb:((xs.length:Int) != ys.length)=true:=by rw [uE];omega
  have HNE:Hid (decide (xs=ys)=false):=xK (fun e=>hl (by rw [e]));clear k1 k2;generalize xs.length=n1 at hb hl;generalize ys.length=n2 at hb hl;clear hl;go_enter Tryz.func74,Tryz.ntmps74
  go_wp2_with fail
  go_ret
  exact ⟨kJ (fun b=>Ending.returned (.bool b)) HNE.out.symm,yC _ _⟩
theorem zG9 (w:World) (v1 v2:Value) (xs ys:List Int) (h1:zAD w v1 xs.length (ints xs)) (h2:zAD w v2 ys.length (ints ys)) (hm:xs.length <= 1000) :
 Calls Tryz.prog 73 #[v1,v2] w fun e w'=>e=.returned (.bool (decide (xs=ys))) /\ Keeps zA w w':=by
 have HC:=yB (zCS w v1 v2 xs ys h1 h2 hm);clear h1 h2;go_enter Tryz.func73,Tryz.ntmps73
 go_wp2_with (go_at_call 74;refine HC.out.mono ?_;rintro e w1 ⟨rfl,g1⟩;have G1:=yB g1;clear g1)
 go_ret
 exact ⟨rfl,G1.out⟩
theorem zAD.acts {w:World} {v:Value} {ps:List (Int × Int)} (h:zAD w v ps.length (ps.flatMap zDl)):∃ ad cap,v=.slice ad ps.length cap /\ ∀ k p,ps[k]?=some p -> ∃ g o,ad=some ⟨g,o,none⟩ /\ w.cell? ⟨g,o+k*2,none⟩=some (.int .i64 p.1) /\ w.cell? ⟨g,o+k*2+1,none⟩=some (.int .i64 p.2):=by
 obtain ⟨ad,cap,e,h1⟩:=h;refine ⟨ad,cap,e,fun k p hk=>?_⟩
 have hlt:=(yP.1 hk).1;obtain ⟨g,o,e1,h2⟩:=h1 (by omega);refine ⟨g,o,e1,?_,?_⟩
 ·exact h2 (k*2) _ (by have:=zDz zDl 2 (fun _=>rfl) ps k 0 (by decide);rw [hk] at this;simpa [zDl] using this)
 ·have:=h2 (k*2+1) (.int .i64 p.2) (by have:=zDz zDl 2 (fun _=>rfl) ps k 1 (by decide);rw [hk] at this;simpa [zDl] using this)
  rw [uK];exact this
structure zC1 (w:World) (c1 c2 c3 c4:Value) (xs ys ss:List Int) (ps:List (Int × Int)):Prop where
 cells:zAD w c1 xs.length (ints xs)
 owners:zAD w c2 ys.length (ints ys)
 sts:zAD w c3 ss.length (ints ss)
 next:zAD w c4 ps.length (ps.flatMap zDl)
theorem zC1.keeps {w w':World} {c1 c2 c3 c4:Value} {xs ys ss:List Int} {ps:List (Int × Int)} (h:zC1 w c1 c2 c3 c4 xs ys ss ps) (hk:Keeps zA w w'):zC1 w' c1 c2 c3 c4 xs ys ss ps :=
 ⟨h.cells.zD hk,h.owners.zD hk,h.sts.zD hk,h.next.zD hk⟩
theorem zED (w:World) (c1 c2 c3 c4 d1 d2 d3 d4:Value) (xs ys ss:List Int) (ps:List (Int × Int)) (hc:zC1 w c1 c2 c3 c4 xs ys ss ps) (hd:zC1 w d1 d2 d3 d4 xs ys ss ps) (hx:xs.length <= 1000) (hy:ys.length <= 1000) (hs:ss.length <= 1000) (hp:ps.length <= 1000) :
 Calls Tryz.prog 39 #[.agg #[c1,c2,c3,c4], .agg #[d1,d2,d3,d4]] w fun e w'=>e=.returned (.bool true) /\ Keeps zA w w':=by
 have HC:=yB hc;have HD:=yB hd
 have H1:Hid (∀ W,Keeps zA w W -> Calls Tryz.prog 74 #[c1,d1] W fun e w'=>e=.returned (.bool true) /\ Keeps zA W w'):=fun W hk=>by
  have:=zCS W c1 d1 xs xs (hc.keeps hk).cells (hd.keeps hk).cells hx
  exact J117 _
 have H2:Hid (∀ W,Keeps zA w W -> Calls Tryz.prog 74 #[c2,d2] W fun e w'=>e=.returned (.bool true) /\ Keeps zA W w'):=fun W hk=>by
  have:=zCS W c2 d2 ys ys (hc.keeps hk).owners (hd.keeps hk).owners hy
  exact J117 _
 have H3:Hid (∀ W,Keeps zA w W -> Calls Tryz.prog 74 #[c3,d3] W fun e w'=>e=.returned (.bool true) /\ Keeps zA W w'):=fun W hk=>by
  have:=zCS W c3 d3 ss ss (hc.keeps hk).sts (hd.keeps hk).sts hs
  exact J117 _
 obtain ⟨p4,q4,rfl,_⟩:=hc.next.acts;obtain ⟨r4,s4,rfl,_⟩:=hd.next.acts;obtain ⟨p1,n1,q1,rfl⟩:∃ a n c,c1=.slice a n c:=by obtain ⟨a,c,e,_⟩:=hc.cells;exact ⟨a,_,c,e⟩
 obtain ⟨p2,n2,q2,rfl⟩:∃ a n c,c2=.slice a n c:=by obtain ⟨a,c,e,_⟩:=hc.owners;exact ⟨a,_,c,e⟩
 obtain ⟨p3,n3,q3,rfl⟩:∃ a n c,c3=.slice a n c:=by obtain ⟨a,c,e,_⟩:=hc.sts;exact ⟨a,_,c,e⟩
 obtain ⟨r1,m1,s1,rfl⟩:∃ a n c,d1=.slice a n c:=by obtain ⟨a,c,e,_⟩:=hd.cells;exact ⟨a,_,c,e⟩
 obtain ⟨r2,m2,s2,rfl⟩:∃ a n c,d2=.slice a n c:=by obtain ⟨a,c,e,_⟩:=hd.owners;exact ⟨a,_,c,e⟩
 obtain ⟨r3,m3,s3,rfl⟩:∃ a n c,d3=.slice a n c:=by obtain ⟨a,c,e,_⟩:=hd.sts;exact ⟨a,_,c,e⟩
 obtain ⟨n,hn⟩:=eX ps.length;have HN:=yB hn;rw [<- hn] at hp HC HD ⊢;clear hc hd hx hy hs hn;go_enter Tryz.func39,Tryz.ntmps39
 go_upto_region 1 with fail
 obtain ⟨ba,hba⟩:=eX w.heap.size;obtain ⟨bb,hbb⟩:=eX (w.heap.size+1);have hra:zC ((w.alloc (.cells #[.slice p1 n1 q1, .slice p2 n2 q2, .slice p3 n3 q3, .slice p4 n q4] 51)).alloc (.cells #[.slice r1 m1 s1, .slice r2 m2 s2, .slice r3 m3 s3, .slice r4 n s4] 51)) ba [.slice p1 n1 q1, .slice p2 n2 q2, .slice p3 n3 q3, .slice p4 n q4]:=by rw [hba];exact (yN (yK w _)).alloc _
 have hrb:zC ((w.alloc (.cells #[.slice p1 n1 q1, .slice p2 n2 q2, .slice p3 n3 q3, .slice p4 n q4] 51)).alloc (.cells #[.slice r1 m1 s1, .slice r2 m2 s2, .slice r3 m3 s3, .slice r4 n s4] 51)) bb [.slice r1 m1 s1, .slice r2 m2 s2, .slice r3 m3 s3, .slice r4 n s4]:=by rw [hbb];exact yN (ze w _ _)
 have hk0:Keeps zA w ((w.alloc (.cells #[.slice p1 n1 q1, .slice p2 n2 q2, .slice p3 n3 q3, .slice p4 n q4] 51)).alloc (.cells #[.slice r1 m1 s1, .slice r2 m2 s2, .slice r3 m3 s3, .slice r4 n s4] 51)):=((yC _ _).alloc _).alloc _;rw [<- hbb,<- hba];generalize ((w.alloc (.cells #[.slice p1 n1 q1, .slice p2 n2 q2, .slice p3 n3 q3, .slice p4 n q4] 51)).alloc (.cells #[.slice r1 m1 s1, .slice r2 m2 s2, .slice r3 m3 s3, .slice r4 n s4] 51))=w0 at hra hrb hk0 ⊢;have HRA:=yB hra;have HRB:=yB hrb;have HK0:=yB hk0;have x0:=hra.cell (k:=0) (v:=.slice p1 n1 q1) rfl;have y0:=hrb.cell (k:=0) (v:=.slice r1 m1 s1) rfl;clear hra hrb hk0 hba hbb;go_upto_region 2 with (go_at_call 74;refine (H1.out _ HK0.out).mono ?_;rintro e w1 ⟨rfl,g1⟩;have K1:Hid (Keeps zA w0 w1):=g1;have x1:=(HRA.out.keeps g1 (fun h=>h)).cell (k:=1) (v:=.slice p2 n2 q2) rfl;have y1:=(HRB.out.keeps g1 (fun h=>h)).cell (k:=1) (v:=.slice r2 m2 s2) rfl;clear g1)
 go_upto_region 3 with (go_at_call 74;refine (H2.out _ (HK0.out.zB K1.out)).mono ?_;rintro e w2 ⟨rfl,g1⟩;have K2:Hid (Keeps zA w0 w2):=K1.out.zB g1;have x2:=(HRA.out.keeps K2.out (fun h=>h)).cell (k:=2) (v:=.slice p3 n3 q3) rfl;have y2:=(HRB.out.keeps K2.out (fun h=>h)).cell (k:=2) (v:=.slice r3 m3 s3) rfl;clear g1)
 go_upto_region 4 with (go_at_call 74;refine (H3.out _ (HK0.out.zB K2.out)).mono ?_;rintro e w3 ⟨rfl,g1⟩;have K3:Hid (Keeps zA w0 w3):=K2.out.zB g1;have x3:=(HRA.out.keeps K3.out (fun h=>h)).cell (k:=3) (v:=.slice p4 n q4) rfl;have y3:=(HRB.out.keeps K3.out (fun h=>h)).cell (k:=3) (v:=.slice r4 n s4) rfl;clear g1)
 clear x0 y0 x1 y1 x2 y2 H1 H2 H3;go_wp2_with fail
 go_loopw [8] (fun i wr=>∃ k:Nat,k <= n /\ i=.int .i64 k /\ Hid (Keeps zA w3 wr)) (fun i _=>n - (intOf i).toNat)
 case atStart=>exact ⟨0,yJ _,rfl,yC _ _⟩
 case round =>
  obtain ⟨k,hk,rfl,hkp⟩:=hrel;have KR:Hid (Keeps zA w wr):=(HK0.out.zB K3.out).zB hkp.out;have x3':=hkp.out.cell (p:=⟨ba,3,none⟩) (fun h=>h) x3;have y3':=hkp.out.cell (p:=⟨bb,3,none⟩) (fun h=>h) y3;by_cases hlt:k < n
  ·obtain ⟨p,hp⟩:∃ p,ps[k]?=some p:=⟨_,yQ (by rw [<- HN.out];exact hlt)⟩
   have hcn:=(HC.out.keeps KR.out).next;have hdn:=(HD.out.keeps KR.out).next;rw [HN.out] at hcn hdn;obtain ⟨ad,cap,e1,f1⟩:=hcn.acts;obtain ⟨ad',cap',e2,f2⟩:=hdn.acts;obtain ⟨g1,o1,e3,d1,d1'⟩:=f1 k p hp;obtain ⟨g2,o2,e4,d2,d2'⟩:=f2 k p hp;cases e1;cases e2;subst e3 e4;have i1:(0:Int) <= k:=by omega
   have i2:(k:Int) < n:=by omega
   clear f1 f2 hk hcn hdn hp;go_wp2_with fail
   go_quiet (fail)
   go_wp2_with fail
   exact ⟨⟨k+1,by omega,by go_num,hkp.out.drewN nq⟩,by simp [intOf];omega⟩
  ·have hkn:k=n:=by omega
   subst hkn;clear hlt;go_wp2_with fail
   go_ret
   exact ⟨rfl,KR.out⟩
def zEx (n:Int) (l:List Int):Int:=if 100 <= n /\ l ≠ [] then l.getD (n.toNat % l.length) 0 else n
theorem zMQ (w:World) (n:Int) (v:Value) (l:List Int) (h:zAD w v l.length (ints l)) (hl:l.length <= 1000) :
 Calls Tryz.prog 12 #[.int .i64 n,v] w fun e w'=>e=.returned (.int .i64 (zEx n l)) /\ Keeps zA w w':=by
 obtain ⟨ad,cap,rfl,hc⟩:=h.ints;clear h;by_cases h1:100 <= n
 ·have q1:decide (100 <= n)=true:=uB h1
  by_cases h2:l.length=0
  ·have HP:Hid (zEx n l=n):=by
    show _=_
    unfold zEx;rw [if_neg (fun h=>h.2 (List.eq_nil_of_length_eq_zero h2))]
   rw [h2];clear h1 h2 hc hl;exact J60 _
  ·have hlt:n.toNat % l.length < l.length:=Nat.mod_lt _ (by omega)
   obtain ⟨g,o,rfl,c0⟩:=hc _ hlt
   have HP:Hid (zEx n l=l.getD (n.toNat % l.length) 0):=by
    show _=_
    unfold zEx;rw [if_pos ⟨h1,fun e=>h2 (by rw [e];rfl)⟩]
   obtain ⟨r,hr⟩:=eX (n.toNat % l.length)
   have hrem:Int.tmod n (l.length:Int)=(r:Int):=by
    obtain ⟨k,rfl⟩:∃ k:Nat,n=k:=⟨n.toNat,by omega⟩
    rw [hr,Int.toNat_natCast];exact Int.ofNat_tmod k l.length
   rw [<- hr] at hlt c0 HP;generalize l.getD r 0=u at c0 HP;obtain ⟨m,hm⟩:=eX l.length;rw [<- hm] at hlt hrem h2 hl ⊢;have q2:decide (0 < (m:Int))=true:=uB (by omega);have i1:(0:Int) <= r:=by omega
   have i2:(r:Int) < m:=by omega
   have i3:(m:Int) ≠ 0:=by omega
   have i4:((m:Int)==0)=false:=yY i3;clear hr hm h1 h2 hc;exact J60 _
 ·have q1:decide (100 <= n)=false:=xK h1
  have HP:Hid (zEx n l=n):=by
   show _=_
   unfold zEx;rw [if_neg (fun h=>h1 h.1)]
  clear h1 hc;exact J60 _
theorem zFI (b:Bool) (w:World):Calls Tryz.prog 119 #[.bool b] w fun e w'=>e=.returned (.int .i64 (zD7 b)) /\ w=w':=by
 cases b
 all_goals (
  go_enter Tryz.func119,Tryz.ntmps119
  go_wp2_with fail
  go_ret
  exact ⟨rfl,rfl⟩)
theorem zKi (k a:Int) (hk:k=3 \/ k=4) (w:World):Calls Tryz.prog 99 #[.int .i64 k, .int .i64 a] w fun e w'=>e=.returned (.int .i64 (zEB k a)) /\ w=w':=by
 rcases hk with rfl | rfl
 all_goals (
  go_enter Tryz.func99,Tryz.ntmps99
  go_wp2_with (go_at_call 119;refine (zFI _ _).mono ?_;rintro e w6 ⟨rfl,rfl⟩)
  go_ret
  exact ⟨rfl,rfl⟩)
theorem zIx (k a b:Int) (hk:5 <= k /\ k <= 17) (w:World):Calls Tryz.prog 100 #[.int .i64 k, .int .i64 a, .int .i64 b] w fun e w'=>e=.returned (.int .i64 (zDA k a b)) /\ w=w':=by
 by_cases h10:10 <= k
 ·by_cases h16:16 <= k
  ·rcases (show k=16 \/ k=17 by omega) with rfl | rfl
   all_goals (
    go_enter Tryz.func100,Tryz.ntmps100
    go_wp2_with (go_at_call 119;refine (zFI _ _).mono ?_;rintro e w6 ⟨rfl,rfl⟩)
    all_goals go_ret
    all_goals first | exact ⟨by rw [zCB _ _ (by decide)];rfl,rfl⟩ | (rename_i h;subst h;refine ⟨?_,rfl⟩;rw [zCB _ _ (by decide)];rfl) | (rename_i h;subst h;refine ⟨?_,rfl⟩;rw [zCB _ _ (by decide)];simp [holdB];done) | (rename_i h;have hb:=uE.2 h;refine ⟨?_,rfl⟩;rw [zCB _ _ (by decide)];simp only [holdB];simp [hb,h];done) | (rename_i h;have hb:=uE.2 h;refine ⟨?_,rfl⟩;rw [zCB _ _ (by decide)];simp only [holdB,hb];rfl))
  ·rcases (show k=10 \/ k=11 \/ k=12 \/ k=13 \/ k=14 \/ k=15 by omega) with rfl | rfl | rfl | rfl | rfl | rfl
   all_goals (
    go_enter Tryz.func100,Tryz.ntmps100
    go_wp2_with (go_at_call 119;refine (zFI _ _).mono ?_;rintro e w6 ⟨rfl,rfl⟩)
    go_ret
    exact ⟨by rw [zCB _ _ (by decide)];rfl,rfl⟩)
 ·by_cases h8:8 <= k
  ·by_cases hz:b=0
   ·subst hz
    exact J96 _
   ·by_cases hm:b=-1
    ·subst hm
     exact J96 _
    ·have nz:(b==0)=false:=yY hz
     have nm:(b==-1)=false:=yY hm;rcases (show k=8 \/ k=9 by omega) with rfl | rfl
     all_goals (
      go_enter Tryz.func100,Tryz.ntmps100
      go_wp2_with fail
      go_ret
      exact ⟨by simp [zDA,w64,hz],rfl⟩)
  ·rcases (show k=5 \/ k=6 \/ k=7 by omega) with rfl | rfl | rfl
   all_goals (
    go_enter Tryz.func100,Tryz.ntmps100
    go_wp2_with fail
    go_ret
    exact ⟨by simp [zDA,w64],rfl⟩)
theorem zGX (k num:Int) (nm:ByteArray) (regs:List Int) (n:Int) (w:World) (ad:Option Addr) (cap:Nat) (rv:Value) (hr:zAD w rv regs.length (ints regs)) (hl:regs.length=n.toNat) (hk:k=1 \/ (k=2 /\ 0 <= num /\ num < n)) :
 Calls Tryz.prog 76 #[.agg #[.int .i64 k, .int .i64 num, .string nm, .slice ad 0 cap],rv] w fun e w'=>e=.returned (.int .i64 (if k=1 then num else regs.getD num.toNat 0)) /\ Keeps zA w w':=by
 rcases hk with rfl | ⟨rfl,h1,h2⟩
 ·rw [if_pos rfl]
  clear hr hl;go_enter Tryz.func76,Tryz.ntmps76
  exact J91 _
 ·rw [if_neg (by decide)]
  obtain ⟨g,o,rc,rfl,hc⟩:=zJv hr (k:=num.toNat) (by omega);have i1:num < (regs.length:Int):=by omega
  have e:((num.toNat:Nat):Int)=num:=by omega
  have hg:g < w.heap.size:=xP w _ hc;have hn1:g ≠ w.heap.size:=by omega
  generalize regs.getD num.toNat 0=v at hc ⊢;generalize regs.length=z at i1 ⊢;clear hr hl;go_enter Tryz.func76,Tryz.ntmps76
  exact J91 _
theorem zMR (k num:Int) (nm:ByteArray) (x0:Ex) (w:World) (F:Nat -> Prop) (ad:Option Addr) (cap:Nat) (rv:Value) (v0:Int) (hx:zN w F [x0] ad)
 (hv0:∀ W xa xc,Keeps zA w W -> zN W F x0.args xa -> Calls Tryz.prog 76 #[exV x0 xa xc,rv] W fun e w'=>e=.returned (.int .i64 v0) /\ Keeps zA W w')
 (hk:k=3 \/ k=4) :
 Calls Tryz.prog 76 #[.agg #[.int .i64 k, .int .i64 num, .string nm, .slice ad 1 cap],rv] w fun e w'=>e=.returned (.int .i64 (zEB k v0)) /\ Keeps zA w w':=by
 have HK:=yB hk;obtain ⟨res,hres⟩:=eX (zEB k v0);rw [<- hres];have HRES:=yB hres;clear hres;have n34:(k==3)=true \/ ((k==3)=false /\ (k==4)=true):=by rcases hk with rfl | rfl;exact .inl rfl;exact .inr ⟨rfl,rfl⟩
 have n1:(k==1)=false:=yY (by omega);have n2:(k==2)=false:=yY (by omega);clear hk;obtain ⟨g,o,xa0,xc0,rfl,hg0,c0,c1,c2,c3,hxx⟩:=hx.at (i:=0) (Nat.succ_pos _);have H0:Ret w 76 #[.agg #[.int .i64 x0.kind, .int .i64 x0.num, .string x0.nm, .slice xa0 x0.args.length xc0],rv] (.int .i64 v0):=fun W hk=>hv0 W xa0 xc0 hk (xY hxx hk (fun _ _ h=>h))
 have d0:∀ W,Keeps zA w W -> W.cell? ⟨g,o+0,none⟩=some (.int .i64 x0.kind) /\ W.cell? ⟨g,o+1,none⟩=some (.int .i64 x0.num) /\ W.cell? ⟨g,o+2,none⟩=some (.string x0.nm) /\ W.cell? ⟨g,o+3,none⟩=some (.slice xa0 x0.args.length xc0):=fun W q=>⟨q.cell (fun h=>h) c0,q.cell (fun h=>h) c1,q.cell (fun h=>h) c2,q.cell (fun h=>h) c3⟩
 generalize x0.kind=p0 at H0 d0;generalize x0.num=m0 at H0 d0;generalize x0.nm=s0 at H0 d0;generalize x0.args.length=z0 at H0 d0;clear c0 c1 c2 c3 hxx hv0 hg0;rw [vF] at d0;clear hx;go_enter Tryz.func76,Tryz.ntmps76
 go_upto_region 1 with fail
 obtain ⟨b1,w1,e1,e2,R1,K1,S1⟩:=newRow w [.int .i64 k, .int .i64 num, .string nm, .slice (some ⟨g,o,none⟩) 1 cap] 65;rw [e1,e2];have y:=R1.zB0;have k1:=zH w1;have HK1:=yB K1;replace d0:=fun W q=>d0 W (HK1.out.zB q)
 clear e1 e2 S1 K1 R1;rcases n34 with n3 | ⟨n3,n4⟩
 all_goals (
  go_wp2_with (first | (go_at_call 76;refine H0.call HK1.out ?_;intro w2 K02 k2;have HK2:=yB K02;clear K02) | (go_at_call 99;refine (zKi _ _ HK.out _).mono ?_;rintro e w3 ⟨rfl,rfl⟩))
  go_ret
  exact ⟨by rw [HRES.out];rfl,HK2.out⟩)
theorem zMU (k num:Int) (nm:ByteArray) (x0 x1:Ex) (w:World) (F:Nat -> Prop) (ad:Option Addr) (cap:Nat) (rv:Value) (v0 v1:Int) (hx:zN w F [x0,x1] ad)
 (hv0:∀ W xa xc,Keeps zA w W -> zN W F x0.args xa -> Calls Tryz.prog 76 #[exV x0 xa xc,rv] W fun e w'=>e=.returned (.int .i64 v0) /\ Keeps zA W w')
 (hv1:∀ W xa xc,Keeps zA w W -> zN W F x1.args xa -> Calls Tryz.prog 76 #[exV x1 xa xc,rv] W fun e w'=>e=.returned (.int .i64 v1) /\ Keeps zA W w')
 (hk:5 <= k /\ k <= 17) :
 Calls Tryz.prog 76 #[.agg #[.int .i64 k, .int .i64 num, .string nm, .slice ad 2 cap],rv] w fun e w'=>e=.returned (.int .i64 (zDA k v0 v1)) /\ Keeps zA w w':=by
 have HK:=yB hk;obtain ⟨res,hres⟩:=eX (zDA k v0 v1);rw [<- hres];have HRES:=yB hres;clear hres;have n1:(k==1)=false:=yY (by omega);have n2:(k==2)=false:=yY (by omega);have n3:(k==3)=false:=yY (by omega);have n4:(k==4)=false:=yY (by omega);clear hk;obtain ⟨g,o,xa0,xc0,rfl,hg0,c0,c1,c2,c3,hxx⟩:=hx.at (i:=0) (Nat.succ_pos _);have H0:Ret w 76 #[.agg #[.int .i64 x0.kind, .int .i64 x0.num, .string x0.nm, .slice xa0 x0.args.length xc0],rv] (.int .i64 v0):=fun W hk=>hv0 W xa0 xc0 hk (xY hxx hk (fun _ _ h=>h))
 have d0:∀ W,Keeps zA w W -> W.cell? ⟨g,o+0,none⟩=some (.int .i64 x0.kind) /\ W.cell? ⟨g,o+1,none⟩=some (.int .i64 x0.num) /\ W.cell? ⟨g,o+2,none⟩=some (.string x0.nm) /\ W.cell? ⟨g,o+3,none⟩=some (.slice xa0 x0.args.length xc0):=fun W q=>⟨q.cell (fun h=>h) c0,q.cell (fun h=>h) c1,q.cell (fun h=>h) c2,q.cell (fun h=>h) c3⟩
 generalize x0.kind=p0 at H0 d0;generalize x0.num=m0 at H0 d0;generalize x0.nm=s0 at H0 d0;generalize x0.args.length=z0 at H0 d0;clear c0 c1 c2 c3 hxx hv0 hg0;rw [vF] at d0;obtain ⟨g,o,xa1,xc1,q1,hg1,c0,c1,c2,c3,hxx⟩:=hx.at (i:=1) (Nat.lt_succ_self 1);cases q1;have H1:Ret w 76 #[.agg #[.int .i64 x1.kind, .int .i64 x1.num, .string x1.nm, .slice xa1 x1.args.length xc1],rv] (.int .i64 v1):=fun W hk=>hv1 W xa1 xc1 hk (xY hxx hk (fun _ _ h=>h))
 have d1:∀ W,Keeps zA w W -> W.cell? ⟨g,o+4,none⟩=some (.int .i64 x1.kind) /\ W.cell? ⟨g,o+5,none⟩=some (.int .i64 x1.num) /\ W.cell? ⟨g,o+6,none⟩=some (.string x1.nm) /\ W.cell? ⟨g,o+7,none⟩=some (.slice xa1 x1.args.length xc1):=fun W q=>⟨q.cell (fun h=>h) c0,q.cell (fun h=>h) c1,q.cell (fun h=>h) c2,q.cell (fun h=>h) c3⟩
 generalize x1.kind=p1 at H1 d1;generalize x1.num=m1 at H1 d1;generalize x1.nm=s1 at H1 d1;generalize x1.args.length=z1 at H1 d1;clear c0 c1 c2 c3 hxx hv1 hg1;clear hx;go_enter Tryz.func76,Tryz.ntmps76
 go_upto_region 1 with fail
 obtain ⟨b1,w1,e1,e2,R1,K1,S1⟩:=newRow w [.int .i64 k, .int .i64 num, .string nm, .slice (some ⟨g,o,none⟩) 2 cap] 65;rw [e1,e2];have y:=R1.zB0;have k1:=zH w1;have HK1:=yB K1;replace d0:=fun W q=>d0 W (HK1.out.zB q)
 replace d1:=fun W q=>d1 W (HK1.out.zB q)
 clear e1 e2 S1 K1 R1;go_upto_region 11 with (go_at_call 76;refine H0.call HK1.out ?_;intro w2 K02 k2;have HK2:=yB K02;clear K02)
 go_upto_region 12 with (go_at_call 76;refine H1.call HK2.out ?_;intro w3 K03 k3';have HK3:=yB K03;have k3:=k2.zB k3';clear K03)
 go_wp2_with (go_at_call 100;refine (zIx _ _ _ HK.out _).mono ?_;rintro e w4 ⟨rfl,rfl⟩)
 go_ret
 exact ⟨by rw [HRES.out];rfl,HK3.out⟩
theorem zIA (regs:List Int) (n:Int) (rv:Value) (hl:regs.length=n.toNat):∀ (x:Ex) (w:World) (F:Nat -> Prop) (ad:Option Addr) (cap:Nat),zN w F x.args ad -> zAD w rv regs.length (ints regs) -> x.may n=true →
 Calls Tryz.prog 76 #[exV x ad cap,rv] w fun e w'=>e=.returned (.int .i64 (x.val regs)) /\ Keeps zA w w':=by
 refine Ex.ind (fun k num nm l ih w F ad cap h hr hm=>?_)
 obtain ⟨h1,h2⟩:=Ex.zDI hm;have hlf:zAK k num nm l.length n=true:=h1;have hml:Ex.zAM n l=true:=h2;have hL:zN w F l ad:=h;rw [Ex.zLe];show Calls _ _ #[.agg #[.int .i64 k, .int .i64 num, .string nm, .slice ad l.length cap],_] _ (fun e w'=>e=.returned (.int .i64 (if k=1 then num else if k=2 then regs.getD num.toNat 0 else if k=3 then w64 (-((Ex.zCg regs l).getD 0 0)) else if k=4 then zD7 (decide ((Ex.zCg regs l).getD 0 0=0)) else zDA k ((Ex.zCg regs l).getD 0 0) ((Ex.zCg regs l).getD 1 0))) /\ _)
 have hsub:∀ y,y ∈ l -> ∀ W xa xc,Keeps zA w W -> zN W F y.args xa -> Calls Tryz.prog 76 #[exV y xa xc,rv] W fun e w'=>e=.returned (.int .i64 (y.val regs)) /\ Keeps zA W w':=fun y hy W xa xc hk hx=>ih y hy W F xa xc hx (hr.keeps hk (fun _ _ h=>h)) (Ex.zId hml hy)
 rcases zEi hlf with ⟨rfl,h0⟩ | ⟨rfl,h0,h3,h4⟩ | ⟨hk,h0⟩ | ⟨k1,k2,h0⟩
 ·rw [h0]
  have:=zGX 1 num nm regs n w ad cap rv hr hl (.inl rfl)
  simpa using this
 ·rw [h0]
  have:=zGX 2 num nm regs n w ad cap rv hr hl (.inr ⟨rfl,h3,h4⟩)
  simpa using this
 ·match l,h0,hL,hsub with
  | [x0],_,hL,hsub =>
    have:=zMR k num nm x0 w F ad cap rv (x0.val regs) hL (hsub x0 (by simp)) hk
    rcases hk with rfl | rfl
    ·simpa [zEB,Ex.zCg] using this
    ·simpa [zEB,Ex.zCg] using this
 ·match l,h0,hL,hsub with
  | [x0,x1],_,hL,hsub =>
    have:=zMU k num nm x0 x1 w F ad cap rv (x0.val regs) (x1.val regs) hL (hsub x0 (by simp)) (hsub x1 (by simp)) ⟨k1,k2⟩
    rw [if_neg (by omega),if_neg (by omega),if_neg (by omega),if_neg (by omega)];simpa [Ex.zCg] using this
theorem zMC:(Tryz.prog.info? 138).map (fun i=>(i.zero,i.size,i.bytes))=some (some (.agg #[.slice none 0 0, .int .i64 0, .int .i64 0]),3,40):=by kernel_rfl
section
variable {w:World} {T:zS} {F:Nat -> Prop} {id g i gp cap:Nat} {H:List HTh} {zM:List WTh} {t:WTh} {fs:List WFr} {f:WFr} {rv:Value} {css:List (List Value)} {cs:List Value}
theorem zG5 (h:ThX zA8 3 138 w T F id g i H zM t fs f rv gp cap css cs) {a:Ac} {r:List Ac} (hr:f.rest=a :: r) (hb:fs.length < 1000000) :
 Calls Tryz.prog 45 #[.pointer (some ⟨g,i*3,none⟩)] w fun e w'=>e=.returned (.tuple #[]) /\ zAR zA8 3 138 w T F id g i zM { t with fs:=fs++[⟨r,f.all,f.left⟩] } w':=by
 obtain ⟨ad,ac,at_,hcs,hacs,hrest,hle,hcn⟩:=h.pl;have hlen:cs.length=3:=by rw [hcs];rfl
 have hdr:f.all.drop (at_+1)=r:=by
  have e:f.all.drop (at_+1)=(f.all.drop at_).drop 1:=by rw [List.drop_drop]
  rw [e,<- hrest,hr];rfl
 have hlt:at_+1 <= f.all.length:=by
  exact J144 _
 have hal:=Ac.zHv f.all;have HN:=yB (ThX.zN2 zR h 1 (.int .i64 ((at_+1:Nat):Int)) (by rw [hlen];decide) (f':=⟨r,f.all,f.left⟩) ⟨ad,ac,at_+1,by rw [hcs];rfl,hacs,hdr.symm,hlt,hcn⟩);have c2:=zV h.fv;have c1:=zV (h.cell 1 (v:=.int .i64 at_) (by rw [hcs];rfl));have f1:=zK (h.free (j:=1) (by rw [hlen];decide)) ⟨_,h.cell 1 (v:=.int .i64 at_) (by rw [hcs];rfl)⟩;have w1:IntKind.i64.wrap ((at_:Int)+1)=((at_+1:Nat):Int):=by rw [show (at_:Int)+1=((at_+1:Nat):Int) by omega];exact kK _ (by omega) (by omega)
 clear h hcs hacs hrest hle hlen hdr hlt hal hcn;generalize hm:fs.length=m at c1 c2 f1 HN hb;have e1:IntKind.i64.wrap (((m+1:Nat):Int) - 1)=(m:Int):=J194 _;have i1:(0:Int) <= m:=by omega
 have i2:(m:Int) < ((m+1:Nat):Int):=by omega
 have k0:=zH w;clear hm;go_enter Tryz.func45,Tryz.ntmps45
 go_wp2_with fail
 go_returns
 exact ⟨rfl,HN.out⟩
theorem zJB (n:Int) (hn:n <= 0) (v:Value) (a:Addr):Calls Tryz.prog 64 #[.pointer (some a),v, .int .i64 n] w fun e w'=>e=.returned (.tuple #[]) /\ w=w':=by
 have e1:decide (0 < n)=false:=xK (by omega);go_enter Tryz.func64,Tryz.ntmps64
 go_wp2_with fail
 go_returns
 exact ⟨rfl,rfl⟩
theorem zEW (h:zAV zA8 3 138 w T F id g H zM) (ht:zM[i]?=some t) (hb:t.fs.length < 1000001) {l:List Ac} {la:Option Addr} {lc:Nat} (hl:zAQ w F l la) (hc:Ac.zW l <= 1000) (n:Int) (hn:0 < n) :
 Calls Tryz.prog 64 #[.pointer (some ⟨g,i*3,none⟩), .slice la l.length lc, .int .i64 n] w fun e w'=>e=.returned (.tuple #[]) /\ zAR zA8 3 138 w T F id g i zM { t with fs:=t.fs++[⟨l,l,n.toNat⟩] } w':=by
 obtain ⟨rv5,fv5,hH5,hr5,css5,q1,q2,q3,⟨ad5,cap5,rfl⟩,q5⟩:=h.get ht;have e1:decide (0 < n)=true:=uB hn;have hnn:((n.toNat:Nat):Int)=n:=by omega
 have HFR:Hid (zA8 w F ⟨l,l,n.toNat⟩ [.slice la l.length lc, .int .i64 0, .int .i64 n]):=⟨la,lc,0,by rw [hnn];rfl,hl,rfl,yJ _,hc⟩;have cf:=zV (zAA h.row hH5).2.2;obtain ⟨n5,hn5'⟩:=eX t.fs.length;rw [<- hn5'] at q1 q2 q3 cf hH5 hb;have H5A:=yB h;have H5B:=yB hH5;have H5C:=yB hr5;have H5D:Hid (css5.length=n5 /\ w.ownsRow 0 138 3 (.slice ad5 n5 cap5) n5 css5.flatten /\ (∀ kb,(Value.slice ad5 n5 cap5).ownBlock=some kb -> T kb=some (id, .fs i)) /\ n5=t.fs.length):=⟨q1,q2,q3,hn5'⟩;have H5E:=yB q5;obtain ⟨j0,hj0,hz0,hz1,hz2⟩:=info_parts zMC;clear h ht hH5 hr5 q1 q2 q3 q5 hn5' hl hc hnn;have k5':=zH w;generalize l.length=nl at HFR ⊢;obtain ⟨gb,wb,eb1,eb2,RB,KB,_⟩:=newRow w [.slice la nl lc, .int .i64 0, .int .i64 n] 138;have HGB:=yB RB;have HKB:=yB KB;have HEB:Hid (w.heap.size=gb /\ w.alloc (.cells [Value.slice la nl lc, .int .i64 0, .int .i64 n].toArray 138)=wb):=⟨eb1,eb2⟩;have HGW:=yB (vN zR H5A.out KB (fun _ _ h=>h));clear eb1 eb2 RB KB;go_enter Tryz.func64,Tryz.ntmps64
 go_wp2_with (at_builtin;rw [HEB.out.1,HEB.out.2];refine zI _ (by rfl) _ _ 75 (by rfl) 0 138 j0 _ 3 40 Tryz.underlying75 hj0 hz0 hz1 hz2 rfl (by decide) (.slice ad5 n5 cap5) n5 css5.flatten (by rfl) (zG H5D.out.2.1 HKB.out (fun _ _ h=>h)) (.slice (some ⟨gb,0,none⟩) 1 1) 1 [.slice la nl lc, .int .i64 0, .int .i64 n] (by rfl) (xN HGB.out) rfl (by intro q hq;simp only [xX,kF,or_false] at hq;rcases hq with rfl | rfl | rfl <;> rfl) (by unfold maxLen;omega) (by omega) (yJ _) ?_;intro ad6 cap6 w6 ha;have HA6:=yB ha;obtain ⟨_,_,c6,f6⟩:=zAV.app HGW.out H5B.out H5D.out.2.2.1 ha;clear ha cf)
 go_returns
 refine ⟨rfl,?_⟩
 obtain ⟨d1,d2,d3,d4⟩:=H5D.out;have h6:=HA6.out;have hb:=H5B.out;have hg:=HGW.out;have hr:=H5C.out.keeps HKB.out (fun _ _ h=>h);have hq:=H5E.out;have hp:=zR.keeps HFR.out HKB.out (fun _ _ h=>h);have hkb:=HKB.out;clear HGW H5D H5B HA6 H5C H5E HFR;subst d4;exact (zAV.zJh (t:=t) (f:=⟨l,l,n.toNat⟩) zR hg hb hr d1 d3 (fun j y ds e1 e2=>zR.keeps (hq j y ds e1 e2) hkb (fun _ _ h=>h)) hp h6).before hkb
end
end Go.Proofs.YtfokdllgnblamaaGreatDoor
