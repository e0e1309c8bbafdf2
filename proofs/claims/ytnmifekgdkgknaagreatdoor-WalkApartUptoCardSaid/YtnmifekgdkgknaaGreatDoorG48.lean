/- Layer G: texts joined. -/
import Derived.Test.YtnmifekgdkgknaaGreatDoorG46
import Derived.Test.YtnmifekgdkgknaaGreatDoorG47
import Derived.Test.YtnmifekgdkgknaaGreatDoorG38
set_option linter.unusedVariables false
set_option linter.unusedSimpArgs false
set_option linter.unnecessarySimpa false
namespace Go.Proofs.YtnmifekgdkgknaaGreatDoor
open Go.RowKit
structure UnIn (w:World) (F:Nat -> Prop) (cs:List Int) (bs:List Bd) (uca uta:Option Addr):Prop where
 nums:NumsAt w F cs uca
 bds:BdsAt w F bs uta
 low:∀ k,F k -> k < w.heap.size
 kinds:∀ b,b ∈ bs -> Ac.kindsL b.acts
 sz:bsSz bs < 900000000
 l1:cs.length < 1000000000
 l2:bs.length < 1000000000
theorem UnIn.keeps {S F:Nat -> Prop} {w w':World} {cs:List Int} {bs:List Bd} {uca uta:Option Addr} (h:UnIn w F cs bs uca uta) (hk:Keeps S w w') (hS:∀ k,F k -> ¬ S k):UnIn w' F cs bs uca uta :=
 ⟨h.nums.keeps hk hS,h.bds.keeps hk hS,fun k e=>Nat.lt_of_lt_of_le (h.low k e) hk.size,h.kinds,h.sz,h.l1,h.l2⟩
theorem UnIn.keeps0 {F:Nat -> Prop} {w w':World} {cs:List Int} {bs:List Bd} {uca uta:Option Addr} (h:UnIn w F cs bs uca uta) (hk:Keeps NoBlk w w'):UnIn w' F cs bs uca uta:=h.keeps hk (fun _ _ h=>h)
structure Mach (N:Nat -> Prop) (w:World) (b:Nat) (u:Un) (m:WMa):Prop where
 low:∀ q,N q -> q < w.heap.size
 right:rightU u=true
 ok:m.ok u
 ex:∃ T F p H,MaP PlaceR 1 106 BdsC w T F 0 b u p m H /\ ∀ q,WOwn T 0 q \/ F q -> ¬ N q
section
variable {N N':Nat -> Prop} {w w':World} {b:Nat} {u:Un} {m:WMa}
theorem Mach.keeps0 (h:Mach N w b u m) (hk:Keeps NoBlk w w'):Mach N w' b u m:=by
 obtain ⟨T,F,p,H,h1,h2⟩:=h.ex;exact ⟨fun q hq=>Nat.lt_of_lt_of_le (h.low q hq) hk.size,h.right,h.ok,T,F,p,H,MaP.keeps0 placeOk bdsCOk h1 hk,h2⟩
theorem Mach.mono (h:Mach N w b u m) (hN:∀ q,N' q -> N q):Mach N' w b u m:=by
 obtain ⟨T,F,p,H,h1,h2⟩:=h.ex;exact ⟨fun q hq=>h.low q (hN q hq),h.right,h.ok,T,F,p,H,h1,fun q hq e=>h2 q hq (hN q e)⟩
theorem Mach.fresh (h:Mach N w b u m) (hk:Keeps NoBlk w w'):Mach (fun q=>N q \/ (w.heap.size <= q /\ q < w'.heap.size)) w' b u m:=by
 obtain ⟨T,F,p,H,h1,h2⟩:=h.ex;refine ⟨fun q hq=>?_,h.right,h.ok,T,F,p,H,MaP.keeps0 placeOk bdsCOk h1 hk,fun q hq e=>?_⟩
 ·rcases hq with hq | hq
  ·exact Nat.lt_of_lt_of_le (h.low q hq) hk.size
  ·exact hq.2
 ·rcases e with e | e
  ·exact h2 q hq e
  ·have hlt:q < w.heap.size:=by
    rcases hq with hq | hq
    ·obtain ⟨t,e⟩:=hq
     exact h1.ths.sep.ok q _ e
    ·exact h1.ths.sep.low q hq
   omega
theorem Mach.step (h:Mach N w b u m) (i:Int):Calls Tryz.prog 19 #[.pointer (some ⟨b,0,none⟩), .int .i64 i] w fun e w'=>e=.returned (.tuple #[evV (stepM u m i).2.1, .int .i64 (stepM u m i).2.2]) /\ Mach N w' b u (stepM u m i).1 /\ Keeps (fun q=>¬ N q) w w':=by
 obtain ⟨T,F,p,H,h1,h2⟩:=h.ex;refine (step_any h1 h.right h.ok i).mono ?_
 rintro e w' ⟨rfl,T',H',g1,g2,g3⟩
 refine ⟨rfl,⟨fun q hq=>Nat.lt_of_lt_of_le (h.low q hq) g3.size,h.right,(stepM_ok h.right h.ok i).1,T',F,p,H',g1,fun q hq e=>?_⟩,g3.mono (fun q _ hq=>h2 q (.inl hq))⟩
 rcases hq with hq | hq
 ·obtain ⟨t,et⟩:=hq
  rcases g2.2 q _ et with g4 | g4
  ·exact h2 q (.inl ⟨t,g4⟩) e
  ·have:=h.low q e;omega
 ·exact h2 q (.inr hq) e
theorem Mach.state (h:Mach N w b u m):Calls Tryz.prog 24 #[.pointer (some ⟨b,0,none⟩)] w (StaEnd w m):=by
 obtain ⟨T,F,p,H,h1,h2⟩:=h.ex;exact state_any h1 h.right h.ok
theorem Mach.enabled (h:Mach N w b u m):Calls Tryz.prog 22 #[.pointer (some ⟨b,0,none⟩)] w (NewInts w (enabM m)):=by
 obtain ⟨T,F,p,H,h1,h2⟩:=h.ex;exact enabled_any h1 h.right h.ok
theorem Mach.over (h:Mach N w b u m):Calls Tryz.prog 23 #[.pointer (some ⟨b,0,none⟩)] w fun e w'=>e=.returned (.bool (decide ((enabM m).length=0))) /\ Keeps NoBlk w w':=by
 obtain ⟨T,F,p,H,h1,h2⟩:=h.ex;exact over_any h1 h.right h.ok
end
def newR (u:Un):Int:=withinU (rightU u) (unS u.threads) (unW u.threads)
theorem newR_right {u:Un} (h:newR u=0):rightU u=true:=by
 cases hr:rightU u with
 | true=>rfl
 | false=>unfold newR at h;rw [hr] at h;revert h;unfold withinU;simp
section
variable {cs:List Int} {mu:Int} {bs:List Bd} {w:World} {F:Nat -> Prop} {uca uta:Option Addr} {ucc utc:Nat}
theorem UnIn.within (h:UnIn w F cs bs uca uta):Calls Tryz.prog 40 #[.agg #[.slice uca cs.length ucc, .int .i64 mu, .slice uta bs.length utc]] w fun e w'=>e=.returned (.int .i64 (newR ⟨cs,mu,bs⟩)) /\ Keeps NoBlk w w' :=
 boundWithin_any cs mu bs w F uca uta ucc utc h.nums h.bds h.low h.kinds h.sz h.l1 h.l2
theorem UnIn.newNo (h:UnIn w F cs bs uca uta) (hr:newR ⟨cs,mu,bs⟩ ≠ 0):Calls Tryz.prog 13 #[.agg #[.slice uca cs.length ucc, .int .i64 mu, .slice uta bs.length utc]] w fun e w'=>e=.returned (.tuple #[.pointer none, .int .i64 (newR ⟨cs,mu,bs⟩)]) /\ Keeps NoBlk w w' :=
 new_no _ hr (Lib.hid fun W hk=>(h.keeps0 hk).within)
theorem UnIn.newOk (h:UnIn w F cs bs uca uta) (hr:newR ⟨cs,mu,bs⟩=0):Calls Tryz.prog 13 #[.agg #[.slice uca cs.length ucc, .int .i64 mu, .slice uta bs.length utc]] w fun e w'=>∃ b,e=.returned (.tuple #[.pointer (some ⟨b,0,none⟩), .int .i64 0]) /\ Mach (fun q=>q < w.heap.size) w' b ⟨cs,mu,bs⟩ (newM ⟨cs,mu,bs⟩) /\ Keeps NoBlk w w':=by
 have hR:=newR_right hr;refine (new_ok (T:=fun _=>none) (id:=0) h.nums h.bds (fun k x e=>by cases e) (fun k t e=>by cases e) h.sz hR (Lib.hid fun W hk=>by have g:=(h.keeps0 hk).within (mu:=mu) (ucc:=ucc) (utc:=utc);rw [hr] at g;exact g)).mono ?_
 rintro e w' ⟨b,T',F',p,H,rfl,h1,h2,h3,h4⟩
 refine ⟨b,rfl,⟨fun q hq=>Nat.lt_of_lt_of_le hq h3.size,hR,newM_ok hR,T',F',p,H,h1,fun q hq e=>?_⟩,h3⟩
 have e:q < w.heap.size:=e;rcases hq with hq | hq
 ·obtain ⟨t,et⟩:=hq
  rcases h2.2 q _ et with g | g
  ·cases g
  ·omega
 ·have:=h4 q hq;omega
end
def exReg:Ex:=.mk 2 0 noNm []
def exOne:Ex:=.mk 1 1 noNm []
def exSum:Ex:=.mk 5 0 noNm [exReg,exOne]
def shR:Ac:=.mk 2 0 0 (.mk 0 0 noNm []) 0 [] []
def shW:Ac:=.mk 3 0 0 exSum 0 [] []
def shU:Un:=⟨[3],0,[⟨1,[shR,shW]⟩]⟩
def sh0:WMa:=⟨[3],[],[⟨2,[0],[⟨[shR,shW],[shR,shW],1⟩]⟩]⟩
def sh1:WMa:=⟨[3],[],[⟨2,[3],[⟨[shW],[shR,shW],1⟩]⟩]⟩
def sh2:WMa:=⟨[4],[],[⟨2,[3],[]⟩]⟩
def sh3:WMa:=⟨[4],[],[⟨3,[3],[]⟩]⟩
theorem w64_four:w64 (3+1)=4:=by show RowKit.wrap64 (3+1)=4;rw [IntWalk.wrap64_in _ ⟨by decide,by decide⟩];rfl
theorem sh_sum:exSum.val [3]=4:=w64_four
theorem sh_new:newM shU=sh0:=by rfl
theorem sh_step0:stepM shU sh0 0=(sh1,⟨0,1,0,3,0⟩,0):=by rfl
theorem sh_step1:stepM shU sh1 0=(sh2,⟨0,2,0,4,0⟩,0):=by
 have e:stepM shU sh1 0=(⟨[exSum.val [3]],[],[⟨2,[3],[]⟩]⟩,⟨0,2,0,exSum.val [3],0⟩,0):=by rfl
 rw [e,sh_sum];rfl
theorem sh_step2:stepM shU sh2 0=(sh3,⟨0,9,0,0,0⟩,0):=by rfl
theorem sh_step3:stepM shU sh3 0=(sh3,⟨0,0,0,0,0⟩,81):=by rfl
theorem sh_over:enabM sh3=[]:=by rfl
theorem sh_R:newR shU=0:=by decide
theorem elems_two {w:World} {F:Nat -> Prop} {sz g:Nat} {c0 c1:List Value} (hg:F g) (h0:c0.length=sz) (h1:c1.length=sz) (hr:RowAt w g (c0++c1)):Elems w F sz 2 (some ⟨g,0,none⟩) (fun i=>if i=0 then c0 else c1):=by
 intro i hi
 rcases (show i=0 \/ i=1 by omega) with rfl | rfl
 ·refine ⟨g,0,rfl,hg,h0,fun j v hj=>?_⟩
  have hj:c0[j]?=some v:=hj;have hl:=(List.getElem?_eq_some_iff.1 hj).1;have:=hr.cell (k:=j) (v:=v) (by rw [List.getElem?_append_left hl];exact hj)
  simpa using this
 ·refine ⟨g,0,rfl,hg,h1,fun j v hj=>?_⟩
  have hj:c1[j]?=some v:=hj;have:=hr.cell (k:=sz+j) (v:=v) (by rw [List.getElem?_append_right (by omega),h0,Nat.add_sub_cancel_left];exact hj)
  simpa using this
def exRow:List Value:=[.int .i64 2, .int .i64 0, .string noNm, .slice none 0 0, .int .i64 1, .int .i64 1, .string noNm, .slice none 0 0]
theorem leafAt (w:World) (F:Nat -> Prop) (k n:Int):ExAt w F (.mk k n noNm []) [.int .i64 k, .int .i64 n, .string noNm, .slice none 0 0] :=
 ExAt.ofExs (x:=.mk k n noNm []) (ad:=none) (cap:=0) ⟨fun _=>[],fun i hi=>absurd hi (Nat.not_lt_zero _),fun i y e=>by simp [Ex.args] at e⟩
theorem noActs (w:World) (F:Nat -> Prop):AcsAt w F [] none:=⟨fun _=>[],fun i hi=>absurd hi (Nat.not_lt_zero _),fun i y e=>by simp at e⟩
theorem noExs (w:World) (F:Nat -> Prop):ExsAt w F [] none:=⟨fun _=>[],fun i hi=>absurd hi (Nat.not_lt_zero _),fun i y e=>by simp at e⟩
def acRow (xr:Nat):List Value:=[.int .i64 2, .int .i64 0, .int .i64 0, .int .i64 0, .int .i64 0, .string noNm, .slice none 0 0, .int .i64 0, .slice none 0 0, .slice none 0 0,
 .int .i64 3, .int .i64 0, .int .i64 0, .int .i64 5, .int .i64 0, .string noNm, .slice (some ⟨xr,0,none⟩) 2 2, .int .i64 0, .slice none 0 0, .slice none 0 0]
theorem shAt {w:World} {F:Nat -> Prop} {xr c0 a1 th:Nat} (hx:RowAt w xr exRow) (hc:RowAt w c0 [.int .i64 3]) (ha:RowAt w a1 (acRow xr)) (ht:RowAt w th [.int .i64 1, .slice (some ⟨a1,0,none⟩) 2 2])
 (f0:F xr) (f1:F c0) (f2:F a1) (f3:F th) (hF:∀ k,F k -> k < w.heap.size):UnIn w F [3] [⟨1,[shR,shW]⟩] (some ⟨c0,0,none⟩) (some ⟨th,0,none⟩):=by
 refine ⟨fun i hi=>?_,fun i hi=>?_,hF,fun b hb=>?_,by simp [bsSz,shR,shW,exSum,exReg,exOne,Ac.szL,Ac.sz,Ex.cnt,Ex.cntL],by decide,by simp⟩
 ·have hi0:i=0:=by simpa using hi
  subst hi0;exact ⟨c0,0,rfl,f1,hc.cell (k:=0) rfl⟩
 ·have hi0:i=0:=by simpa using hi
  subst hi0;refine ⟨th,0,some ⟨a1,0,none⟩,2,rfl,f3,ht.cell (k:=0) rfl,ht.cell (k:=1) rfl,_,elems_two (sz:=10) (c0:=(acRow xr).take 10) (c1:=(acRow xr).drop 10) f2 rfl rfl ha,fun i y e=>?_⟩
  rcases i with _ | _ | i
  ·obtain rfl:shR=y:=by simpa using e
   exact AcAt.ofCells shR (xa:=none) (ta:=none) (ea:=none) (xc:=0) (tc:=0) (ec:=0) (noExs _ _) (noActs _ _) (noActs _ _)
  ·obtain rfl:shW=y:=by simpa using e
   refine AcAt.ofCells shW (xa:=some ⟨xr,0,none⟩) (ta:=none) (ea:=none) (xc:=2) (tc:=0) (ec:=0) ⟨_,elems_two (sz:=4) (c0:=exRow.take 4) (c1:=exRow.drop 4) f0 rfl rfl hx,fun i y e=>?_⟩ (noActs _ _) (noActs _ _)
   rcases i with _ | _ | i
   ·obtain rfl:exReg=y:=by simpa [shW,Ac.ex,exSum,Ex.args] using e
    exact leafAt _ _ _ _
   ·obtain rfl:exOne=y:=by simpa [shW,Ac.ex,exSum,Ex.args] using e
    exact leafAt _ _ _ _
   ·simp [shW,Ac.ex,exSum,Ex.args] at e
  ·simp at e
 ·obtain rfl:b=⟨1,[shR,shW]⟩:=by simpa using hb
  simp [Ac.kindsL,Ac.kinds,kOk,shR,shW]
theorem frow_form {w:World} {B n:Nat} {v:Value} {cs:List Value} (h:FRow w B v n cs):∃ ad cap,v=.slice ad n cap:=by obtain ⟨ad,cap,e,_⟩:=h;exact ⟨ad,cap,e⟩
def NB (g:Nat) (l:List Nat) (q:Nat):Prop:=q < g \/ q ∈ l
theorem Mach.more {g y b:Nat} {l:List Nat} {w w':World} {u:Un} {m:WMa} (h:Mach (NB g l) w b u m) (hk:Keeps NoBlk w w') (h1:w.heap.size <= y) (h2:y < w'.heap.size):Mach (NB g (y :: l)) w' b u m :=
 (h.fresh hk).mono (fun q hq=>by
   rcases hq with hq | hq
   ·exact .inl (.inl hq)
   ·rcases List.mem_cons.1 hq with e | e
    ·exact .inr ⟨e ▸ h1,e ▸ h2⟩
    ·exact .inl (.inr e))
theorem Mach.stepIs {N:Nat -> Prop} {w:World} {b:Nat} {u:Un} {m m':WMa} {i r:Int} {x:Evt} (h:Mach N w b u m) (e:stepM u m i=(m',x,r)):Calls Tryz.prog 19 #[.pointer (some ⟨b,0,none⟩), .int .i64 i] w fun e w'=>e=.returned (.tuple #[.agg #[.int .i64 x.thread, .int .i64 x.kind, .int .i64 x.obj, .int .i64 x.value, .int .i64 x.bad], .int .i64 r]) /\ Mach N w' b u m' /\ Keeps (fun q=>¬ N q) w w':=by
 have g:=h.step i;rw [e] at g;exact g
set_option maxRecDepth 8000 in
set_option maxHeartbeats 4000000 in
theorem shown_any (w:World):Calls Tryz.prog 10 #[] w fun e w'=>e=.returned (.bool true) /\ Keeps NoBlk w w':=by
 go_enter Tryz.func10,Tryz.ntmps10
 go_upto_region 3 with fail
 obtain ⟨xr,hxr⟩:∃ z,z=w.heap.size:=⟨_,rfl⟩
 obtain ⟨sm,hsm⟩:∃ z,z=w.heap.size+1:=⟨_,rfl⟩
 obtain ⟨c0,hc0⟩:∃ z,z=w.heap.size+1+1:=⟨_,rfl⟩
 obtain ⟨a1,ha1⟩:∃ z,z=w.heap.size+1+1+1:=⟨_,rfl⟩
 obtain ⟨th,hth⟩:∃ z,z=w.heap.size+1+1+1+1:=⟨_,rfl⟩
 obtain ⟨bu,hbu⟩:∃ z,z=w.heap.size+1+1+1+1+1:=⟨_,rfl⟩
 rw [<- hbu,<- hth,<- ha1,<- hc0,<- hsm,<- hxr];obtain ⟨wq0,hw0⟩:∃ z,z=w.alloc (.cells #[.int .i64 2, .int .i64 0, .string { data:=#[] }, .slice none 0 0, .int .i64 1, .int .i64 1, .string { data:=#[] }, .slice none 0 0] 72):=⟨_,rfl⟩
 obtain ⟨wq1,hw1⟩:∃ z,z=wq0.alloc (.cells #[.int .i64 5, .int .i64 0, .string { data:=#[] }, .slice (some ⟨xr,0,none⟩) 2 2] 72):=⟨_,rfl⟩
 obtain ⟨wq2,hw2⟩:∃ z,z=wq1.alloc (.cells #[.int .i64 3] 3):=⟨_,rfl⟩
 obtain ⟨wq3,hw3⟩:∃ z,z=wq2.alloc (.cells #[.int .i64 2, .int .i64 0, .int .i64 0, .int .i64 0, .int .i64 0, .string { data:=#[] }, .slice none 0 0, .int .i64 0, .slice none 0 0, .slice none 0 0, .int .i64 3, .int .i64 0, .int .i64 0, .int .i64 5, .int .i64 0, .string { data:=#[] }, .slice (some ⟨xr,0,none⟩) 2 2, .int .i64 0, .slice none 0 0, .slice none 0 0] 75):=⟨_,rfl⟩
 obtain ⟨wq4,hw4⟩:∃ z,z=wq3.alloc (.cells #[.int .i64 1, .slice (some ⟨a1,0,none⟩) 2 2] 77):=⟨_,rfl⟩
 obtain ⟨G,hw5⟩:∃ z,z=wq4.alloc (.cells #[.slice (some ⟨c0,0,none⟩) 1 1, .int .i64 0, .slice (some ⟨th,0,none⟩) 1 1] 25):=⟨_,rfl⟩
 rw [<- hw0,<- hw1,<- hw2,<- hw3,<- hw4,<- hw5];have kq0:Keeps NoBlk w wq0:=by rw [hw0];exact (Keeps.refl _ _).alloc _
 have kq1:Keeps NoBlk wq0 wq1:=by rw [hw1];exact (Keeps.refl _ _).alloc _
 have kq2:Keeps NoBlk wq1 wq2:=by rw [hw2];exact (Keeps.refl _ _).alloc _
 have kq3:Keeps NoBlk wq2 wq3:=by rw [hw3];exact (Keeps.refl _ _).alloc _
 have kq4:Keeps NoBlk wq3 wq4:=by rw [hw4];exact (Keeps.refl _ _).alloc _
 have kq5:Keeps NoBlk wq4 G:=by rw [hw5];exact (Keeps.refl _ _).alloc _
 have sq0:wq0.heap.size=w.heap.size+1:=by rw [hw0];simp
 have sq1:wq1.heap.size=w.heap.size+1+1:=by rw [hw1];simp [sq0]
 have sq2:wq2.heap.size=w.heap.size+1+1+1:=by rw [hw2];simp [sq1]
 have sq3:wq3.heap.size=w.heap.size+1+1+1+1:=by rw [hw3];simp [sq2]
 have sq4:wq4.heap.size=w.heap.size+1+1+1+1+1:=by rw [hw4];simp [sq3]
 have sq5:G.heap.size=w.heap.size+1+1+1+1+1+1:=by rw [hw5];simp [sq4]
 have rq0:RowAt wq0 xr [.int .i64 2, .int .i64 0, .string { data:=#[] }, .slice none 0 0, .int .i64 1, .int .i64 1, .string { data:=#[] }, .slice none 0 0]:=by rw [hxr,hw0];exact RowAt.ofBlock (heap_alloc_new w _)
 have rq1:RowAt wq1 sm [.int .i64 5, .int .i64 0, .string { data:=#[] }, .slice (some ⟨xr,0,none⟩) 2 2]:=by rw [hsm,<- sq0,hw1];exact RowAt.ofBlock (heap_alloc_new wq0 _)
 have rq2:RowAt wq2 c0 [.int .i64 3]:=by rw [hc0,<- sq1,hw2];exact RowAt.ofBlock (heap_alloc_new wq1 _)
 have rq3:RowAt wq3 a1 [.int .i64 2, .int .i64 0, .int .i64 0, .int .i64 0, .int .i64 0, .string { data:=#[] }, .slice none 0 0, .int .i64 0, .slice none 0 0, .slice none 0 0, .int .i64 3, .int .i64 0, .int .i64 0, .int .i64 5, .int .i64 0, .string { data:=#[] }, .slice (some ⟨xr,0,none⟩) 2 2, .int .i64 0, .slice none 0 0, .slice none 0 0]:=by rw [ha1,<- sq2,hw3];exact RowAt.ofBlock (heap_alloc_new wq2 _)
 have rq4:RowAt wq4 th [.int .i64 1, .slice (some ⟨a1,0,none⟩) 2 2]:=by rw [hth,<- sq3,hw4];exact RowAt.ofBlock (heap_alloc_new wq3 _)
 have rq5:RowAt G bu [.slice (some ⟨c0,0,none⟩) 1 1, .int .i64 0, .slice (some ⟨th,0,none⟩) 1 1]:=by rw [hbu,<- sq4,hw5];exact RowAt.ofBlock (heap_alloc_new wq4 _)
 have Rxr:=Lib.hid (rq0.keeps ((((kq1.trans0 kq2).trans0 kq3).trans0 kq4).trans0 kq5) (fun h=>h));have Rsm:=Lib.hid (rq1.keeps (((kq2.trans0 kq3).trans0 kq4).trans0 kq5) (fun h=>h));have Rc0:=Lib.hid (rq2.keeps ((kq3.trans0 kq4).trans0 kq5) (fun h=>h));have Ra1:=Lib.hid (rq3.keeps (kq4.trans0 kq5) (fun h=>h));have Rth:=Lib.hid (rq4.keeps kq5 (fun h=>h));have Rbu:=Lib.hid rq5;have KG:Hid (Keeps NoBlk w G):=(((((kq0.trans0 kq1).trans0 kq2).trans0 kq3).trans0 kq4).trans0 kq5);have SG:Hid (xr=w.heap.size /\ sm=w.heap.size+1 /\ c0=w.heap.size+1+1 /\ a1=w.heap.size+1+1+1 /\ th=w.heap.size+1+1+1+1 /\ bu=w.heap.size+1+1+1+1+1 /\ G.heap.size=w.heap.size+1+1+1+1+1+1):=⟨hxr,hsm,hc0,ha1,hth,hbu,sq5⟩;clear hw0 kq0 sq0 rq0 hw1 kq1 sq1 rq1 hw2 kq2 sq2 rq2 hw3 kq3 sq3 rq3 hw4 kq4 sq4 rq4 hw5 kq5 sq5 rq5 hxr hsm hc0 ha1 hth hbu
 have HU:Hid (UnIn G (fun k=>k < G.heap.size) [3] [⟨1,[shR,shW]⟩] (some ⟨c0,0,none⟩) (some ⟨th,0,none⟩)):=by
  have h:=SG.out;exact shAt (F:=fun k=>k < G.heap.size) Rxr.out Rc0.out Ra1.out Rth.out (by show _ < _;omega) (by show _ < _;omega) (by show _ < _;omega) (by show _ < _;omega) (fun _ h=>h)
 have HNEW:=Lib.hid (HU.out.newOk (mu:=0) (ucc:=1) (utc:=1) sh_R);obtain ⟨y0,y1,y2⟩:=Rbu.out.three;clear Rxr Rsm Rc0 Ra1 Rth HU;go_upto_region 6 with (go_at_call 13;refine HNEW.out.mono ?_;rintro e w0 ⟨b,rfl,hm,hk⟩;have HM:=Lib.hid hm;have K0:=Lib.hid hk;clear hm hk)
 clear HNEW y0 y1 y2 Rbu SG;obtain ⟨g0,hg0⟩:∃ z,z=G.heap.size:=⟨_,rfl⟩
 have M0:Hid (Mach (NB g0 []) w0 b shU sh0):=by
  show Mach _ _ _ _ _
  rw [<- sh_new];refine HM.out.mono (fun q hq=>?_)
  rcases hq with h | h
  ·rw [<- hg0];exact h
  ·cases h
 have L0:Hid (Keeps (fun q=>g0 <= q) G w0):=K0.out.mono (fun _ _ h=>h.elim);have HG0:Hid (w.heap.size <= g0):=by show _ <= _;rw [hg0];exact KG.out.size
 clear HM K0 hg0;have NBO:Hid (∀ (l:List Nat) (W W':World),Keeps (fun q=>¬ NB g0 l q) W W' -> Keeps (fun q=>g0 <= q) W W'):=fun l W W' h=>h.mono (fun q _ hq=>Nat.le_of_not_lt (fun h=>hq (.inl h)))
 have ST:=Lib.hid (M0.out.stepIs sh_step0);go_upto_region 7 with (go_at_call 19;refine ST.out.mono ?_;rintro e v0 ⟨rfl,hm,hk⟩;have HM:=Lib.hid hm;have HK:=Lib.hid hk;clear hm hk)
 obtain ⟨y0,w1,e1,e2,r,q,s⟩:=newRow v0 [.int .i64 0, .int .i64 1, .int .i64 0, .int .i64 3, .int .i64 0] 40;try rw [e1]
 try rw [e2]
 have M1:Hid (Mach (NB g0 (y0 :: [])) w1 b shU sh1):=HM.out.more q (by omega) (by have:=s.out;omega);have L1:Hid (Keeps (fun q=>g0 <= q) G w1):=(L0.out.trans (NBO.out _ _ _ HK.out) (fun _ _ h=>h)).trans q (fun _ _ h=>h.elim);have R0:=Lib.hid r;clear ST HM HK r q s e1 e2 M0 L0;have ST:=Lib.hid (M1.out.stepIs sh_step1);go_upto_region 8 with (go_at_call 19;refine ST.out.mono ?_;rintro e v1 ⟨rfl,hm,hk⟩;have HM:=Lib.hid hm;have HK:=Lib.hid hk;clear hm hk)
 obtain ⟨y1,w2,e1,e2,r,q,s⟩:=newRow v1 [.int .i64 0, .int .i64 2, .int .i64 0, .int .i64 4, .int .i64 0] 40;try rw [e1]
 try rw [e2]
 have M2:Hid (Mach (NB g0 (y1 :: (y0 :: []))) w2 b shU sh2):=HM.out.more q (by omega) (by have:=s.out;omega);have L2:Hid (Keeps (fun q=>g0 <= q) G w2):=(L1.out.trans (NBO.out _ _ _ HK.out) (fun _ _ h=>h)).trans q (fun _ _ h=>h.elim);have R0:=Lib.hid ((R0.out.keeps HK.out (fun h=>h (.inr (by simp)))).keeps q (fun h=>h));have R1:=Lib.hid r;clear ST HM HK r q s e1 e2 M1 L1;have ST:=Lib.hid (M2.out.stepIs sh_step2);go_upto_region 9 with (go_at_call 19;refine ST.out.mono ?_;rintro e v2 ⟨rfl,hm,hk⟩;have HM:=Lib.hid hm;have HK:=Lib.hid hk;clear hm hk)
 obtain ⟨y2,w3,e1,e2,r,q,s⟩:=newRow v2 [.int .i64 0, .int .i64 9, .int .i64 0, .int .i64 0, .int .i64 0] 40;try rw [e1]
 try rw [e2]
 have M3:Hid (Mach (NB g0 (y2 :: (y1 :: (y0 :: [])))) w3 b shU sh3):=HM.out.more q (by omega) (by have:=s.out;omega);have L3:Hid (Keeps (fun q=>g0 <= q) G w3):=(L2.out.trans (NBO.out _ _ _ HK.out) (fun _ _ h=>h)).trans q (fun _ _ h=>h.elim);have R0:=Lib.hid ((R0.out.keeps HK.out (fun h=>h (.inr (by simp)))).keeps q (fun h=>h));have R1:=Lib.hid ((R1.out.keeps HK.out (fun h=>h (.inr (by simp)))).keeps q (fun h=>h));have R2:=Lib.hid r;clear ST HM HK r q s e1 e2 M2 L2;have ST:=Lib.hid (M3.out.stepIs sh_step3);go_upto_region 10 with (go_at_call 19;refine ST.out.mono ?_;rintro e v3 ⟨rfl,hm,hk⟩;have HM:=Lib.hid hm;have HK:=Lib.hid hk;clear hm hk)
 obtain ⟨y3,w4,e1,e2,r,q,s⟩:=newRow v3 [.int .i64 0, .int .i64 0, .int .i64 0, .int .i64 0, .int .i64 0] 40;try rw [e1]
 try rw [e2]
 have M4:Hid (Mach (NB g0 (y3 :: (y2 :: (y1 :: (y0 :: []))))) w4 b shU sh3):=HM.out.more q (by omega) (by have:=s.out;omega);have L4:Hid (Keeps (fun q=>g0 <= q) G w4):=(L3.out.trans (NBO.out _ _ _ HK.out) (fun _ _ h=>h)).trans q (fun _ _ h=>h.elim);have R0:=Lib.hid ((R0.out.keeps HK.out (fun h=>h (.inr (by simp)))).keeps q (fun h=>h));have R1:=Lib.hid ((R1.out.keeps HK.out (fun h=>h (.inr (by simp)))).keeps q (fun h=>h));have R2:=Lib.hid ((R2.out.keeps HK.out (fun h=>h (.inr (by simp)))).keeps q (fun h=>h));have R3:=Lib.hid r;clear ST HM HK r q s e1 e2 M3 L3;have SE:=Lib.hid M4.out.state;go_upto_region 11 with (go_at_call 24;refine SE.out.mono ?_;rintro e v4 ⟨t1,t2,d3,d4,rfl,hs⟩;have S4:=Lib.hid hs;obtain ⟨t3,u3,e3⟩:=frow_form hs.sts;obtain ⟨t4,u4,e4⟩:=frow_form hs.next;subst e3 e4;clear hs)
 obtain ⟨y4,w5,e1,e2,r,q,s⟩:=newRow v4 [.slice t1 1 1, .slice t2 0 0, .slice t3 1 u3, .slice t4 1 u4] 48
 have hc4:∃ g,t1=some ⟨g,0,none⟩ /\ v4.cell? ⟨g,0,none⟩=some (.int .i64 4):=by
  obtain ⟨ad,cap,e,_,_,h1⟩:=S4.out.cells;cases e;obtain ⟨g,e,h2,h3⟩:=h1 (by decide);exact ⟨g,e,h3.cell (k:=0) rfl⟩
 obtain ⟨g8,rfl,hc8⟩:=hc4;change Code.wp _ _ _ _ (v4.alloc (.cells #[.slice (some ⟨g8,0,none⟩) 1 1, .slice t2 0 0, .slice t3 1 u3, .slice t4 1 u4] 48))
 have e2':v4.alloc (.cells #[.slice (some ⟨g8,0,none⟩) 1 1, .slice t2 0 0, .slice t3 1 u3, .slice t4 1 u4] 48)=w5:=e2;try rw [e1]
 try rw [e2']
 have KS:Hid (Keeps NoBlk w4 w5):=S4.out.keeps.trans0 q;have C8:Hid (w5.cell? ⟨g8,0,none⟩=some (.int .i64 4)):=q.cell (p:=⟨g8,0,none⟩) (fun h=>h) hc8;have R4:=Lib.hid r
 have OV:Hid (Calls Tryz.prog 23 #[.pointer (some ⟨b,0,none⟩)] w5 fun e w'=>e=.returned (.bool true) /\ Keeps NoBlk w5 w'):=by
  have h:=(M4.out.keeps0 KS.out).over;rw [sh_over] at h;exact h
 clear SE S4 hc8 r q s e1 e2 e2';go_upto_region 12 with (go_at_call 23;refine OV.out.mono ?_;rintro e w6 ⟨rfl,hk⟩;have KO:=Lib.hid hk;clear hk)
 have K6:Keeps NoBlk w4 w6:=KS.out.trans0 KO.out;have hfin:Keeps NoBlk w w6:=KG.out.trans (L4.out.trans K6 (fun _ _ h=>h.elim)) (fun q hq e=>by have e':g0 <= q:=e;have:=HG0.out;omega);have HF:=Lib.hid hfin;obtain ⟨a0,a1,a2,a3,a4⟩:=(R0.out.keeps K6 (fun h=>h)).five w6 (Keeps.refl _ _);obtain ⟨b0,b1,b2,b3,b4⟩:=(R1.out.keeps K6 (fun h=>h)).five w6 (Keeps.refl _ _);obtain ⟨c0,c1,c2,c3,c4⟩:=(R2.out.keeps K6 (fun h=>h)).five w6 (Keeps.refl _ _);have s0:=(R4.out.keeps KO.out (fun h=>h)).cell (k:=0) (v:=.slice (some ⟨g8,0,none⟩) 1 1) rfl;have s1:=KO.out.cell (p:=⟨g8,0,none⟩) (fun h=>h) C8.out;clear hfin K6;go_wp2_with fail
 go_ret
 exact ⟨rfl,HF.out⟩
end Go.Proofs.YtnmifekgdkgknaaGreatDoor
