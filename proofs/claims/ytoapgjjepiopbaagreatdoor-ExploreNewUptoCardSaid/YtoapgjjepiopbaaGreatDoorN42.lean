/- Layer N: texts joined. -/
import Derived.Test.YtoapgjjepiopbaaGreatDoorN41
import Derived.Laws.CopyOwn
set_option linter.all false
set_option maxHeartbeats 4000000
set_option maxRecDepth 20000
namespace Go.Proofs.YtoapgjjepiopbaaGreatDoor
open Go.RowKit
theorem J101 (P:Prop) (h:P:=by
 intro t ht
 obtain ⟨j,hj,rfl⟩:=List.mem_iff_getElem.1 ht;have:=h j hj
 simp [List.getD,hj] at this
 simpa using this):P:=h
theorem J110 (P:Prop) (h:P:=by
 rcases h.shape with ⟨rfl,rfl⟩ | ⟨g,cap,rfl,_⟩
 ·exact ⟨_,_,rfl⟩
 ·exact ⟨_,_,rfl⟩):P:=h
theorem J197 (P:Prop) (h:P:=by rw [zAC zBZ 2 zA2];omega):P:=h
theorem zKH (w:World) (b:Nat) (v:Value) (L:List Nd) (i:Int) (h:zP w b v L) (hok:zFP L) :
 Calls Tryz.prog 113 #[.pointer (some ⟨b,0,none⟩), .int .i64 i] w fun e w'=>e=.returned (match (if i < 0 then none else L[i.toNat]?) with | none=>.tuple #[.agg #[.int .u64 0, .int .u64 0, .int .u64 0, .int .i64 0], .bool false] | some x=>.tuple #[.agg #[.int .u64 x.sleep, .int .u64 x.back, .int .u64 x.done, .int .i64 x.thread], .bool true]) /\ Below w.heap.size w w':=by
 obtain ⟨ad,cap,rfl⟩:∃ ad cap,v=.slice ad L.length cap:=by
  exact J110 _
 by_cases hi:i < 0
 ·rw [if_pos hi]
  exact zDa ad b L.length cap i w h.cell0 (.inl hi)
 ·rw [if_neg hi]
  cases hx:L[i.toNat]? with
  | none=>exact zDa ad b L.length cap i w h.cell0 (.inr (by have:=List.getElem?_eq_none_iff.1 hx;omega))
  | some x =>
    have hlt:=(List.getElem?_eq_some_iff.1 hx).1;obtain ⟨j,rfl⟩:=Int.eq_ofNat_of_zero_le (show 0 <= i by omega);rcases h.shape with ⟨_,e⟩ | ⟨g,cap',e,_⟩
    ·subst e;simp at hlt
    ·simp at e
     obtain ⟨rfl,rfl⟩:=e;have hg:=h.get hx;exact zFd b g L.length cap x.sleep x.back x.done x.thread w j (by simpa using hlt) hok.1 h.cell0 (by simpa using hg.1) (by simpa using hg.2.1) (by simpa using hg.2.2.1) (by simpa using hg.2.2.2)
theorem zI2 (t:Int) (w:World):Calls Tryz.prog 130 #[.int .i64 t] w fun e w'=>e=.returned (.bool (decide (t < 0))) /\ w=w':=by
 go_enter Tryz.func130,Tryz.ntmps130
 go_wp2
 exact J36 _
theorem zEN (v:Value) (xs:List Int) (m:Int) (w:World) (hx:zAa w v xs) (h1:xs.length <= maxLen)
 (hm:(m=-1 /\ ∀ j,j < xs.length -> 0 <= xs.getD j 0) \/ (∃ i:Nat,m=i /\ i < xs.length /\ xs.getD i 0 < 0 /\ ∀ j,j < i -> 0 <= xs.getD j 0)) :
 Calls Tryz.prog 186 #[v, .func (.func 130) #[] #[]] w fun e w'=>e=.returned (.int .i64 m) /\ w=w':=by
 obtain ⟨ad,cap,rfl,hx1,hx2⟩:=hx;unfold maxLen at h1;have HM:=Lib.hid hm;clear hm;go_enter Tryz.func186,Tryz.ntmps186
 go_wp2
 go_loop [8] (fun i=>∃ k:Nat,k <= xs.length /\ i=.int .i64 k /\ Hid (∀ j,j < k -> 0 <= xs.getD j 0)) (fun i=>xs.length - (intOf i).toNat)
 case atStart=>exact ⟨0,Nat.zero_le _,rfl,fun j hj=>absurd hj (Nat.not_lt_zero _)⟩
 case round =>
  obtain ⟨k,hk,rfl,hj⟩:=hrel;by_cases hlt:k < xs.length
  ·have i1:(0:Int) <= k:=by omega
   have i2:(k:Int) < (xs.length:Int):=by omega
   obtain ⟨g,o,e⟩:∃ g o,ad=some ⟨g,o,none⟩:=by
    cases ad with
    | none=>have:=hx1 rfl;subst this;simp at hlt
    | some a=>obtain ⟨g,o,s⟩:=a;have:=(hx2 g o s rfl).1;subst this;exact ⟨g,o,rfl⟩
   have c1:=(hx2 g o none e).2 k hlt;subst e;obtain ⟨x,ex⟩:=eX (xs.getD k 0);rw [<- ex] at c1;by_cases hE:x < 0
   ·have hE':decide (x < 0)=true:=by simpa using hE
    have HF:Hid (m=(k:Int)):=by
     rcases HM.out with ⟨_,h⟩ | ⟨i,e,hi,h2,h3⟩
     ·have:=h k hlt;omega
     ·rcases Nat.lt_trichotomy i k with h | h | h
      ·have:=hj.out i h;omega
      ·show m=(k:Int);rw [e,h]
      ·have:=h3 k h;omega
    clear hx1 hx2 HM hE ex;go_wp2_with (go_at_call 130;refine (zI2 _ _).mono ?_;rintro e w' ⟨rfl,rfl⟩)
    go_ret
    exact ⟨by rw [HF.out];rfl,rfl⟩
   ·have hE':decide (x < 0)=false:=by simpa using hE
    have HS:=Lib.hid (show 0 <= xs.getD k 0 by omega);clear hx1 hx2 hE ex;go_wp2_with (go_at_call 130;refine (zI2 _ _).mono ?_;rintro e w' ⟨rfl,rfl⟩)
    go_round
    case rel=>exact ⟨k+1,by omega,by go_num,fun j hj'=>by
     rcases Nat.lt_succ_iff_lt_or_eq.1 hj' with h | rfl
     ·exact hj.out j h
     ·exact HS.out⟩
    case measure=>simp [intOf];omega
  ·have hkn:k=xs.length:=by omega
   subst hkn
   have HF:Hid (m=-1):=by
    rcases HM.out with ⟨e,_⟩ | ⟨i,e,hi,h2,h3⟩
    ·exact e
    ·have:=hj.out i hi;omega
   clear hx1 hx2 hlt HM;go_wp2
   go_ret
   exact ⟨by rw [HF.out];rfl,rfl⟩
theorem zFo (g o c:Nat) (t:Value) (w:World) (h:w.cell? ⟨g,o,none⟩=some t) (hf:w.frozen? ⟨g,o,none⟩=false) :
 (Builtin.clear_ #[22] 0 #[.slice (some ⟨g,o,none⟩) 1 c]).run Tryz.prog w=.ok (.tuple #[]) (w.setCell ⟨g,o,none⟩ (.int .i64 0)):=by
 have hz:(zeroValue 3).run Tryz.prog w=.ok (.int .i64 0) w:=by kernel_rfl
 simp [Builtin.clear_,hz,Builtin.zeroCells,go_sem,Tryz.underlying22,h,hf]
theorem zFN (v:Value) (xs:List Int) (w:World) (hx:zAa w v xs) (h1:xs.length <= maxLen) (h:∀ j,j < xs.length -> 0 <= xs.getD j 0) :
 Calls Tryz.prog 129 #[v, .func (.func 130) #[] #[]] w fun e w'=>e=.returned v /\ w=w':=by
 have HI:=Lib.hid (zEN v xs (-1) w hx h1 (.inl ⟨rfl,h⟩));clear hx h;go_enter Tryz.func129,Tryz.ntmps129
 go_wp2_with (go_at_call 186;refine HI.out.mono ?_;rintro e w' ⟨rfl,rfl⟩)
 go_ret
 exact ⟨rfl,rfl⟩
theorem zFW (g cap n:Nat) (t:Int) (xs:List Int) (w:World) (hn:xs.length=n) (hcap:n+1 <= cap) (hc:cap <= maxLen) (hx:zAa w (.slice (some ⟨g,0,none⟩) (n+1) cap) (xs++[t])) (h:∀ j,j < n -> 0 <= xs.getD j 0) (ht:t < 0)
 (hf:w.frozen? ⟨g,n,none⟩=false) :
 Calls Tryz.prog 129 #[.slice (some ⟨g,0,none⟩) (n+1) cap, .func (.func 130) #[] #[]] w fun e w'=>e=.returned (.slice (some ⟨g,0,none⟩) n cap) /\ w'=w.setCell ⟨g,n,none⟩ (.int .i64 0):=by
 subst hn;unfold maxLen at hc;have hl:xs.length+1 <= maxLen:=by unfold maxLen;omega
 have HI:=Lib.hid (zEN (.slice (some ⟨g,0,none⟩) (xs.length+1) cap) (xs++[t]) (xs.length:Int) w hx (by simpa using hl) (.inr ⟨xs.length,rfl,by simp,by simpa using ht,fun j hj=>by have:=h j hj;simpa [List.getD,List.getElem?_append_left hj] using this⟩))
 have hcell:w.cell? ⟨g,xs.length,none⟩=some (.int .i64 t):=by
  obtain ⟨ad,cap',e,_,h2⟩:=hx;simp at e
  have:=(h2 g 0 none e.1.symm).2 xs.length (by simp)
  simpa using this
 have e1:((xs.length:Int)==-1)=false:=J154 _;have hcl:=fun c=>zFo g xs.length c _ w hcell hf
 clear hx h ht;go_enter Tryz.func129,Tryz.ntmps129
 go_wp2_with (go_at_call 186;refine HI.out.mono ?_;rintro e w' ⟨rfl,rfl⟩)
 refine wp_loop_once ?_
 go_wp2
 go_ret
 exact ⟨rfl,rfl⟩
theorem zJd (c:Int) (hc:0 <= c /\ c <= 1000) (w:World) :
 Calls Tryz.prog 155 #[.int .u64 1, .int .u64 c] w fun e w'=>e=.returned (.tuple #[.int .u64 0, .int .u64 c]) /\ w=w':=by
 have h1:bits .and .u64 c 4294967295=c:=by
  rw [u64_and c _ hc.1 (by omega) (by decide) (by decide),show ((4294967295:Int).toNat)=4294967295 from rfl,nat_mask32];omega
 have h2:bits .and .u64 1 4294967295=1:=by decide
 have h3:c / 4294967296=0:=by omega
 have h4:bits .and .u64 0 4294967295=0:=by decide
 go_enter Tryz.func155,Tryz.ntmps155
 go_wp2
 go_ret2
 exact ⟨rfl,rfl⟩
theorem mul_one (c:Int) (hc:0 <= c /\ c <= 1000) (w:World) :
 Calls Tryz.prog 100 #[.int .u64 1, .int .u64 c] w fun e w'=>e=.returned (.tuple #[.int .u64 0, .int .u64 c]) /\ w=w':=by
 go_enter Tryz.func100,Tryz.ntmps100
 go_wp2_with (go_at_call 155;refine (zJd _ hc _).mono ?_;rintro e w' ⟨rfl,rfl⟩)
 go_ret2
 exact ⟨rfl,rfl⟩
def zAd (a:Int) (k c:Nat):List Value:=List.replicate k (.int .i64 a)++List.replicate (c - k) (.int .i64 0)
theorem zFA (a:Int) (k c:Nat) (h:k <= c):(zAd a k c).length=c:=by simp [zAd];omega
theorem zH4 (a:Int) (k c j:Nat) (hj:j < k):(zAd a k c)[j]?=some (.int .i64 a):=by
 simp [zAd,List.getElem?_append_left,List.getElem?_replicate,hj]
theorem zDY (a:Int) (k m c:Nat) (h:k+m <= c):splice (zAd a k c) k (List.replicate m (.int .i64 a))=zAd a (k+m) c:=by
 unfold splice zAd;rw [List.take_append_of_le_length (by simp),List.take_of_length_le (by simp),List.length_replicate,List.drop_append,List.drop_of_length_le (by simp),List.length_replicate,List.nil_append,List.drop_replicate,<- List.append_assoc,List.replicate_append_replicate];congr 2
 omega
theorem zFY:(Tryz.prog.info? 3).map (fun i=>(i.zero,i.size,i.bytes))=some (some (.int .i64 0),1,8):=by kernel_rfl
theorem zGb:(Tryz.prog.info? 3).map (·.size)=some 1:=by kernel_rfl
theorem zDz {w:World} {base e g n:Nat} {xs:List Value} (h:w.ownsRow base e 1 (.slice (some ⟨g,0,none⟩) n n) n xs):w.heap[g]?=some (.cells xs.toArray e (0,0)):=by
 rcases h.2 with ⟨h',_⟩ | ⟨g',cap',cur,h',_,hg,_,_,hs,ht⟩
 ·simp at h'
 ·simp only [Value.slice.injEq,Option.some.injEq,Addr.mk.injEq,and_true,true_and] at h'
  obtain ⟨rfl,rfl⟩:=h';rw [hg];have:xs=cur.toList:=by rw [<- ht,List.take_of_length_le (by rw [Array.length_toList,hs];exact Nat.le_refl _)]
  rw [this]
def zMS (w:World) (xs:List Int) (e:Ending) (w':World):Prop :=
 e=.returned (.slice (some ⟨w.heap.size,0,none⟩) xs.length xs.length) /\ w'.heap[w.heap.size]?=some (.cells (xs.map (Value.int .i64)).toArray 3 (0,0)) /\ Below w.heap.size w w'
theorem zII (g c:Nat) (a:Int) (hc:1 <= c /\ c <= 1000) (w:World) (ha:w.cell? ⟨g,0,none⟩=some (.int .i64 a)) :
 Calls Tryz.prog 131 #[.slice (some ⟨g,0,none⟩) 1 1, .int .i64 c] w (zMS w (List.replicate c a)):=by
 obtain ⟨i0,hi0,hz0,hz1,hz2⟩:=info_parts zFY;have q1:g < w.heap.size:=World.block_lt_of_cell? w _ ha;have c1:(0:Int) <= c:=by omega
 have c2:(c:Int) <= 1000:=by omega
 have c3:(1:Int) <= c:=by omega
 go_enter Tryz.func131,Tryz.ntmps131
 go_upto_region 7 with (first | (go_at_call 100;refine (mul_one _ (by omega) _).mono ?_;rintro e w' ⟨rfl,rfl⟩) | (at_make;refine wpList_make_full _ rfl _ _ _ rfl 0 3 i0 _ 1 Tryz.underlying22 hi0 hz0 hz1 _ _ _ _ c (by rfl) (by rfl) rfl rfl (by rw [hz2];omega) (by unfold maxLen;omega) (Nat.zero_le _) ?_;intro w1 hown hgr))
 have hrow:Hid (w1.heap[w.heap.size]?=some (.cells (zAd a 0 c).toArray 3 (0,0))):=by
  have:=zDz hown
  simp only [Value.cells] at this;rw [toList_madeCells_one,Nat.mul_one] at this;show _=_
  simpa [zAd] using this
 have ha1:w1.cell? ⟨g,0,none⟩=some (.int .i64 a):=hgr.cell ha (by simp);have hbl:Hid (Below w.heap.size w w1):=show Below _ _ _ from (Below.refl _ _).grown hgr (Nat.le_refl _) (by simp)
 clear hown hgr;go_step
 go_step
 go_step
 go_step
 go_step
 go_step
 go_step
 have k1:[Value.int .i64 a].length=Nat.min 1 c:=by show 1=min 1 c;omega
 have k2:0 < [Value.int .i64 a].length -> (some ⟨w.heap.size,0,none⟩:Option Addr)=some ⟨w.heap.size,0,none⟩ /\ ∃ ad,(some ⟨g,0,none⟩:Option Addr)=some ad /\ ∀ j v,[Value.int .i64 a][j]?=some v -> w1.cell? (ad.add j)=some v:=by
  refine fun _=>⟨rfl,_,rfl,fun j v hj=>?_⟩
  have hj0:j=0:=by have:=(List.getElem?_eq_some_iff.1 hj).1;simpa using this
  subst hj0;simp at hj
  subst hj;exact ha1
 have k3:0+[Value.int .i64 a].length <= (zAd a 0 c).length:=by rw [zFA a 0 c (by omega)];simp;omega
 have k4:∀ v ∈ [Value.int .i64 a],v.oneCell'=true:=by simp [Value.oneCell']
 have es:splice (zAd a 0 c) 0 [Value.int .i64 a]=zAd a 1 c:=by have:=zDY a 0 1 c (by omega);simpa using this
 refine wpList_copy_splice (by rfl) (.tmp 31) (.tmp 32) 22 22 (by rfl) 3 Tryz.underlying22 zGb (some ⟨w.heap.size,0,none⟩) (some ⟨g,0,none⟩) c c 1 1 (by rfl) (by rfl) w.heap.size 0 (zAd a 0 c) 3 hrow.out [.int .i64 a] k1 k2 k3 k4 w.heap.size w hbl.out (Nat.le_refl _) ?_
 intro w2 hrow2 hbl2
 rw [es] at hrow2;have hbl3:=Lib.hid hbl2;clear k1 k2 k3 k4 es hrow hbl hbl2 ha1 ha;go_wp2
 go_loopw [8] (fun n wr=>∃ k:Nat,1 <= k /\ k <= c /\ n=.int .i64 k /\ Hid (wr.heap[w.heap.size]?=some (.cells (zAd a k c).toArray 3 (0,0))) /\ Hid (Below w.heap.size w wr)) (fun n _=>c - (intOf n).toNat)
 case atStart=>exact ⟨1,Nat.le_refl _,hc.1,rfl,hrow2,hbl3⟩
 case round =>
  obtain ⟨k,hk1,hkc,rfl,hrow,hbl⟩:=hrel;clear hrow2 hbl3;by_cases hlt:k < c
  ·have i1:(0:Int) <= k:=by omega
   have i2:(k:Int) < (c:Int):=by omega
   obtain ⟨m,hm⟩:=eX (Nat.min k (c - k));have hm1:1 <= m:=by rw [hm];show 1 <= min k (c - k);omega
   have hm2:k+m <= c:=by rw [hm];show k+min k (c - k) <= c;omega
   have hm3:m <= k:=by rw [hm];show min k (c - k) <= k;omega
   have k1:=Lib.hid (show (List.replicate m (Value.int .i64 a)).length=Nat.min k (c - k) by rw [List.length_replicate,hm])
   have k2:Hid (∀ j v,(List.replicate m (Value.int .i64 a))[j]?=some v -> wr.drew.cell? ((⟨w.heap.size,0,none⟩:Addr).add j)=some v):=by
    intro j v hj
    have hjm:j < m:=by have:=(List.getElem?_eq_some_iff.1 hj).1;simpa using this
    rw [List.getElem?_replicate,if_pos hjm] at hj;cases hj;exact World.news_of_block (w:=wr) (B:=w.heap.size) (cs:=(zAd a k c).toArray) hrow.out j _ (by simpa using zH4 a k c j (by omega))
   have k3:=Lib.hid (show k+(List.replicate m (Value.int .i64 a)).length <= (zAd a k c).length by rw [zFA a k c hkc];simpa using hm2);have k4:=Lib.hid (show ∀ v ∈ List.replicate m (Value.int .i64 a),v.oneCell'=true by intro v hv;rw [(List.mem_replicate.1 hv).2];rfl);have es:=Lib.hid (zDY a k m c hm2);have hln:Hid ((List.replicate m (Value.int .i64 a)).length=m):=List.length_replicate ..;clear hm;have hck:¬ c=k:=by omega
   go_wp2
   go_region_held3 (fun _=>True) (trivial) ((refine step_copy_splice (by rfl) (.tmp 41) (.tmp 44) 22 22 (by rfl) 3 Tryz.underlying22 zGb (some ⟨w.heap.size,k,none⟩) (some ⟨w.heap.size,0,none⟩) (c - k) (c - k) k c (by rfl) (by rfl) w.heap.size k (zAd a k c) 3 (by exact hrow.out) (List.replicate m (Value.int .i64 a)) k1.out (by exact fun _=>⟨rfl,_,rfl,k2.out⟩) k3.out k4.out w.heap.size w (by exact hbl.out.drew) (Nat.le_refl _) ?_;intro w3 hrow3 hbl3))
   all_goals (
    rw [es.out] at hrow3;have hr3:Hid (w3.heap[w.heap.size]?=some (.cells (zAd a (k+m) c).toArray 3 (0,0))):=hrow3;have hb3:=Lib.hid hbl3;clear hbl3 hrow3 es k2 k3 k4 hrow hbl;have hln2:=hln.out;go_wp2
    have ew:IntKind.i64.wrap ((k:Int)+m)=((k+m:Nat):Int):=by rw [IntWalk.i64_in _ (by omega)];omega
    rw [ew];exact ⟨⟨k+m,by omega,hm2,rfl,hr3,hb3⟩,by simp [intOf];omega⟩)
  ·have hkn:k=c:=by omega
   subst hkn;clear hlt;have hx:=Lib.hid (show (zAd a k k).toArray=((List.replicate k a).map (Value.int .i64)).toArray by simp [zAd]);go_wp2
   go_ret
   refine ⟨by simp,?_,hbl.out⟩
   rw [<- hx.out];exact hrow.out
def zBM (w:World) (xs:List Int) (e:Ending) (w':World):Prop :=
 ∃ v,e=.returned v /\ zAa w' v xs /\ Below w.heap.size w w' /\ ∀ k,v.ownBlock=some k -> w.heap.size <= k /\ k < w'.heap.size
def zCb (ts:List Int):List Int:=ts.filter fun t=>decide (0 <= t)
theorem zDT (w w1:World) (n:Nat) (ts:List Int) (hn:ts.length=n) (hown:w1.ownsRow 0 3 1 (.slice (some ⟨w.heap.size,0,none⟩) n n) n (ts.map (Value.int .i64))) (hb:Below w.heap.size w w1) (h:∀ j,j < n -> 0 <= ts.getD j 0) (hm:n <= maxLen) :
 Calls Tryz.prog 129 #[.slice (some ⟨w.heap.size,0,none⟩) n n, .func (.func 130) #[] #[]] w1 (zBM w (zCb ts)):=by
 subst hn;have hi:=zAa.ofRow hown;refine (zFN _ ts w1 hi hm h).mono ?_
 rintro e w' ⟨rfl,rfl⟩
 have hp:zCb ts=ts:=by
  unfold zCb;rw [List.filter_eq_self];exact J101 _
 rw [hp];have hlt:=(hown.lt w.heap.size rfl).2;exact ⟨_,rfl,hi,hb,fun k hk=>by simp [Value.ownBlock] at hk;omega⟩
theorem zFn (w w1:World) (n:Nat) (ts:List Int) (t:Int) (hn:ts.length=n) (hown:w1.ownsRow 0 3 1 (.slice (some ⟨w.heap.size,0,none⟩) (n+1) (n+1)) (n+1) ((ts++[t]).map (Value.int .i64))) (hb:Below w.heap.size w w1) (h:∀ j,j < n -> 0 <= ts.getD j 0) (ht:t < 0) (hm:n+1 <= maxLen) :
 Calls Tryz.prog 129 #[.slice (some ⟨w.heap.size,0,none⟩) (n+1) (n+1), .func (.func 130) #[] #[]] w1 (zBM w (zCb (ts++[t]))):=by
 subst hn;have e0:(ts++[t]).length=ts.length+1:=by simp
 have hi:zAa w1 (.slice (some ⟨w.heap.size,0,none⟩) (ts.length+1) (ts.length+1)) (ts++[t]):=zAa.ofRow (by rw [e0];exact hown);refine (zFW w.heap.size (ts.length+1) ts.length t ts w1 rfl (Nat.le_refl _) hm hi h ht (hown.frozenAt _)).mono ?_
 rintro e w' ⟨rfl,rfl⟩
 have hp:zCb (ts++[t])=ts:=by
  unfold zCb;rw [List.filter_append,List.filter_eq_self.2,List.filter_cons_of_neg (by simpa using ht)]
  ·simp
  ·exact J101 _
 rw [hp];refine ⟨_,rfl,?_,hb.setCell (Nat.le_refl _) _,fun k hk=>by simp [Value.ownBlock] at hk;have hlt:=(hown.lt w.heap.size rfl).2;simp [World.setCell];omega⟩
 refine ⟨_,_,rfl,(fun e=>by cases e),fun g o s e=>?_⟩
 cases e;refine ⟨rfl,fun i hi'=>?_⟩
 obtain ⟨ad,cap,e,_,h2⟩:=hi;simp at e
 have h3:=(h2 _ 0 none e.1.symm).2 i (by simp;omega);have e3:(ts++[t]).getD i 0=ts.getD i 0:=by simp [List.getD,List.getElem?_append_left hi']
 rw [e3] at h3;exact (World.cell?_setCell_other (a:=⟨w.heap.size,ts.length,none⟩) (b:=⟨w.heap.size,0+i,none⟩) _ _ (by intro e;have h9:ts.length=0+i:=congrArg Addr.off e;omega)).trans h3
theorem zKZ (b n cap:Nat) (ad:Option Addr) (ts:List Int) (w:World) (hts:ts.length=n) (hv:w.cell? ⟨b,0,none⟩=some (.slice ad n cap)) (hn:n <= 61)
 (hc:∀ k,k < n -> ∃ g s bk d,ad=some ⟨g,0,none⟩ /\ w.cell? ⟨g,k*4,none⟩=some (.int .u64 s) /\ w.cell? ⟨g,k*4+1,none⟩=some (.int .u64 bk) /\ w.cell? ⟨g,k*4+2,none⟩=some (.int .u64 d) /\ w.cell? ⟨g,k*4+3,none⟩=some (.int .i64 (ts.getD k 0)))
 (hfin:∀ w1,w1.ownsRow 0 3 1 (.slice (some ⟨w.heap.size,0,none⟩) n n) n (ts.map (Value.int .i64)) -> Below w.heap.size w w1 →
   Calls Tryz.prog 129 #[.slice (some ⟨w.heap.size,0,none⟩) n n, .func (.func 130) #[] #[]] w1 (zBM w (zCb ts))) :
 Calls Tryz.prog 79 #[.pointer (some ⟨b,0,none⟩)] w (zBM w (zCb ts)):=by
 have HF:=Lib.hid hfin;obtain ⟨i0,hi0,hz0,hz1,hz2⟩:=info_parts zFY;have q1:b < w.heap.size:=World.block_lt_of_cell? w _ hv;have n1:(0:Int) <= n:=by omega
 have n2:(n:Int) <= 61:=by omega
 clear hfin;go_enter Tryz.func79,Tryz.ntmps79
 go_upto_region 2 with ((at_make;refine wpList_make_own _ rfl _ _ _ rfl 0 3 i0 _ 1 Tryz.underlying22 hi0 hz0 hz1 _ _ _ n (by rfl) (by rfl) rfl (by rw [hz2];omega) (by unfold maxLen;omega) (Nat.zero_le _) ?_;intro w1 hown hgr))
 have hv1:w1.cell? ⟨b,0,none⟩=some (.slice ad n cap):=hgr.cell hv (by simp);have hbl:Hid (Below w.heap.size w w1):=show Below _ _ _ from (Below.refl _ _).grown hgr (Nat.le_refl _) (by simp)
 have HO:=Lib.hid hown;clear hown hgr;go_wp2
 go_loopw [3,17] (fun v i wr=>∃ k:Nat,k <= n /\ i=.int .i64 k /\ v=.slice (some ⟨w.heap.size,0,none⟩) k n /\ Hid (wr.ownsRow 0 3 1 (.slice (some ⟨w.heap.size,0,none⟩) k n) k ((ts.take k).map (Value.int .i64))) /\ Hid (Below w.heap.size w wr)) (fun _ i _=>n - (intOf i).toNat)
 case atStart=>exact ⟨0,Nat.zero_le _,rfl,rfl,HO.out,hbl⟩
 case round =>
  obtain ⟨k,hk,rfl,rfl,hown,hb⟩:=hrel;clear HO hbl;by_cases hlt:k < n
  ·obtain ⟨g,s,bk,d,e,h0,h1,h2,h3⟩:=hc k hlt
   subst e;have i1:(0:Int) <= k:=by omega
   have i2:(k:Int) < (n:Int):=by omega
   have q2:g < w.heap.size:=World.block_lt_of_cell? w _ h0;have q3:w.heap.size <= wr.heap.size:=hb.out.size;have q4:w.heap.size < wr.heap.size:=(hown.out.lt w.heap.size rfl).2;have c0:=(hb.out.cell (p:=⟨g,k*4,none⟩) q2).trans h0;have c1:=(hb.out.cell (p:=⟨g,k*4+1,none⟩) q2).trans h1;have c2:=(hb.out.cell (p:=⟨g,k*4+2,none⟩) q2).trans h2;have c3:=(hb.out.cell (p:=⟨g,k*4+3,none⟩) q2).trans h3;obtain ⟨x,ex⟩:=eX (ts.getD k 0);rw [<- ex] at c3
   have et:Hid ((ts.take (k+1)).map (Value.int .i64)=(ts.take k).map (Value.int .i64)++[.int .i64 x]):=by
    show _=_
    rw [List.take_succ_eq_append_getElem (by omega),List.map_append,ex];simp [List.getD,show k < ts.length by omega]
   have q5:g < wr.heap.size:=by omega
   clear hc hv hv1 h0 h1 h2 h3 ex;go_wp2_with (at_builtin;refine wpList_append_fits _ (by rfl) _ _ 22 (by rfl) 0 3 i0 1 Tryz.underlying22 hi0 hz1 w.heap.size k n _ (by rfl) ((hown.out.alloc _).alloc _) ⟨wr.heap.size+1,0,none⟩ 1 1 [.int .i64 x] (by rfl) (by rfl) (World.news_of_block (cs:=#[.int .i64 x]) (t:=3) (fr:=(0,0)) (by exact zW wr _ _)) (by simp [Value.oneCell']) (by omega) ?_;intro w2 hown2 hgr2;have hb2:Hid (Below w.heap.size w w2):=(by exact (((hb.out.alloc q3 _).alloc (by simp;omega) _).grown hgr2 (by simp;omega) (by intro k hk;cases hk;exact Nat.le_refl _)));have ho2:Hid (w2.ownsRow 0 3 1 (.slice (some ⟨w.heap.size,0,none⟩) (k+1) n) (k+1) ((ts.take (k+1)).map (Value.int .i64))):=(by rw [et.out];exact hown2);clear hown2 hgr2 et hown hb)
   go_roundw
   case rel=>exact ⟨k+1,by omega,by go_num,rfl,ho2,hb2⟩
   case measure=>simp [intOf];omega
  ·have hkn:k=n:=by omega
   subst hkn
   have hx:Hid (wr.ownsRow 0 3 1 (.slice (some ⟨w.heap.size,0,none⟩) k k) k (ts.map (Value.int .i64))):=by
    have:=hown.out
    rw [List.take_of_length_le (by omega)] at this;exact this
   clear hc hown hlt;go_wp2_with (go_at_call 129;refine (HF.out _ hx.out hb.out).mono ?_;rintro e w' ⟨v,rfl,h1,h2,h3⟩)
   go_ret
   exact ⟨v,rfl,h1,h2,h3⟩
def zKf (L:List Nd):Prop:=∀ x ∈ L.dropLast,0 <= x.thread
theorem zDD (w:World) (b:Nat) (v:Value) (L:List Nd) (h:zP w b v L) (hok:zFP L) (hrow:zKf L) :
 Calls Tryz.prog 79 #[.pointer (some ⟨b,0,none⟩)] w (zBM w (zCb (L.map Nd.thread))):=by
 obtain ⟨ad,cap,rfl⟩:∃ ad cap,v=.slice ad L.length cap:=by
  exact J110 _
 refine zKZ b L.length cap ad (L.map Nd.thread) w (by simp) h.cell0 hok.1 ?_ ?_
 ·intro k hk
  rcases h.shape with ⟨_,e⟩ | ⟨g,cap',e,_⟩
  ·subst e;simp at hk
  ·simp at e
   obtain ⟨rfl,rfl⟩:=e;have hx:L[k]?=some L[k]:=List.getElem?_eq_getElem hk;have hg:=h.get hx;refine ⟨g,_,_,_,rfl,hg.1,hg.2.1,hg.2.2.1,?_⟩
   rw [hg.2.2.2];simp [List.getD,hk]
 ·intro w1 hown hb
  have hml:L.length <= maxLen:=by have:=hok.1;unfold maxLen;omega
  rcases List.eq_nil_or_concat L with rfl | ⟨L0,x,rfl⟩
  ·exact zDT w w1 0 [] rfl hown hb (fun j hj=>by omega) (by unfold maxLen;omega)
  ·rw [List.concat_eq_append] at *
   have hL0:∀ j,j < L0.length -> 0 <= (L0.map Nd.thread).getD j 0:=by
    intro j hj
    have:=hrow L0[j] (by simp)
    simpa [List.getD,hj] using this
   by_cases hx:0 <= x.thread
   ·refine zDT w w1 _ _ (by simp) hown hb ?_ hml
    intro j hj
    rcases Nat.lt_or_ge j L0.length with hlt | hge
    ·have:=hL0 j hlt
     simpa [List.getD,List.getElem?_append_left,hlt] using this
    ·have:j=L0.length:=by simp at hj;omega
     subst this;simpa using hx
   ·have el:(L0++[x]).length=L0.length+1:=by simp
    rw [el] at hown ⊢;rw [List.map_append] at hown ⊢;exact zFn w w1 L0.length (L0.map Nd.thread) x.thread (by simp) hown hb hL0 (by omega) (by rw [<- el];exact hml)
inductive Abt where
 | read (n:Int)
 | write (n:Int)
 | atomic (n:Int)
 | mutex (n:Int)
 | begin (n:Int)
 | wait (n:Int)
 | fin (n:Int)
 | none
def Abt.val:Abt -> Value
 | .read n=>.iface 364 (.agg #[.int .i64 n])
 | .write n=>.iface 365 (.agg #[.int .i64 n])
 | .atomic n=>.iface 366 (.agg #[.int .i64 n])
 | .mutex n=>.iface 368 (.agg #[.int .i64 n])
 | .begin n=>.iface 370 (.agg #[.int .i64 n])
 | .wait n=>.iface 371 (.agg #[.int .i64 n])
 | .fin n=>.iface 372 (.agg #[.int .i64 n])
 | .none=>.iface 374 (.agg #[])
def zKG (x:Evt):Abt :=
 if x.kind=1 then .read x.obj else if x.kind=2 then .write x.obj else if x.kind=3 then .atomic x.obj else if x.kind=4 \/ x.kind=5 then .mutex x.obj
 else if x.kind=6 then .begin x.obj else if x.kind=7 then .wait x.obj else if x.kind=9 then .fin x.thread else .none
def Abt.dep:Abt -> Abt -> Bool
 | .read a, .write b=>decide (a=b)
 | .read a, .atomic b=>decide (a=b)
 | .write a, .read b=>decide (a=b)
 | .write a, .write b=>decide (a=b)
 | .write a, .atomic b=>decide (a=b)
 | .atomic a, .read b=>decide (a=b)
 | .atomic a, .write b=>decide (a=b)
 | .atomic a, .atomic b=>decide (a=b)
 | .mutex a, .mutex b=>decide (a=b)
 | .begin a, .begin b=>decide (a=b)
 | .begin a, .wait b=>decide (a=b)
 | .fin a, .wait b=>decide (a=b)
 | .wait a, .begin b=>decide (a=b)
 | .wait a, .fin b=>decide (a=b)
 | _,_=>false
theorem zOS (x:Evt) (w:World):Calls Tryz.prog 206 #[evV x] w fun e w'=>e=.returned (zKG x).val /\ Keeps zA w w':=by
 obtain ⟨xt,xk,xo,xv,xb⟩:=x;have H:∃ z,Hid (z=zKG ⟨xt,xk,xo,xv,xb⟩):=⟨_,rfl⟩
 obtain ⟨z,H⟩:=H;rw [<- H.out];unfold evV
 have HC:xk=1 \/ xk=2 \/ xk=3 \/ xk=4 \/ xk=5 \/ xk=6 \/ xk=7 \/ xk=9 \/ ((xk==1)=false /\ (xk==2)=false /\ (xk==3)=false /\ (xk==4)=false /\ (xk==5)=false /\ (xk==6)=false /\ (xk==7)=false /\ (xk==9)=false):=by
  simp only [beq_eq_false_iff_ne,ne_eq];omega
 rcases HC with rfl | rfl | rfl | rfl | rfl | rfl | rfl | rfl | ⟨h1,h2,h3,h4,h5,h6,h7,h9⟩
 all_goals (
  go_enter Tryz.func206,Tryz.ntmps206
  go_wp2_with fail
  go_ret
  refine ⟨?_,(Keeps.refl _ _).alloc _⟩
  rw [H.out];simp_all [zKG,Abt.val])
theorem zCw (n:Int) (w:World) (h:0 <= n /\ n < 8):Calls Tryz.prog 277 #[.int .i64 n] w fun e w'=>e=.returned (.bool true) /\ w=w':=by
 have h0:decide (0 <= n)=true:=decide_eq_true h.1;have h1:decide (n < 8)=true:=decide_eq_true h.2;go_enter Tryz.func277,Tryz.ntmps277
 exact J125 _
def okE (x:Evt):Prop:=(0 <= x.thread /\ x.thread < 8) /\ (0 <= x.obj /\ x.obj < 8) ∧
 (((x.kind=1 \/ x.kind=2 \/ x.kind=3) /\ x.bad=0) \/ (x.kind=4 /\ x.value=0 /\ x.bad=0) \/ (x.kind=5 /\ x.value=0 /\ (x.bad=0 \/ x.bad=2)) \/ (x.kind=6 /\ x.value=0 /\ (x.bad=0 \/ x.bad=4)) \/ (x.kind=7 /\ x.value=0 /\ (x.bad=0 \/ x.bad=3)) ∨
  (x.kind=8 /\ x.obj=0 /\ ((x.value=0 /\ x.bad=1) \/ (x.value ≠ 0 /\ x.bad=0))) \/ (x.kind=9 /\ x.obj=x.thread /\ x.value=0 /\ x.bad=0))
theorem zDN (x:Evt) (h:okE x) (w:World):Calls Tryz.prog 267 #[evV x] w fun e w'=>e=.returned (.bool true) /\ Keeps zA w w':=by
 obtain ⟨xt,xk,xo,xv,xb⟩:=x;obtain ⟨h1,h2,h3⟩:=h;unfold evV;simp only at h1 h2 h3 ⊢;have HT:=Lib.hid h1;have HO:=Lib.hid h2;obtain ⟨b1,w1,e1,e2,R1,K1,_⟩:=newRow w [.int .i64 xt, .int .i64 xk, .int .i64 xo, .int .i64 xv, .int .i64 xb] 67;have y1:=R1.five;have k1:=zH w1;have HK:=Lib.hid K1;clear h1 h2 R1 K1;by_cases hv:xv=0
 ·subst hv
  rcases h3 with ⟨rfl | rfl | rfl,rfl⟩ | ⟨rfl,_,rfl⟩ | ⟨rfl,_,rfl | rfl⟩ | ⟨rfl,_,rfl | rfl⟩ | ⟨rfl,_,rfl | rfl⟩ | ⟨rfl,rfl,⟨_,rfl⟩ | ⟨h,_⟩⟩ | ⟨rfl,rfl,_,rfl⟩
  all_goals first
   | exact absurd rfl h
   | (go_enter Tryz.func267,Tryz.ntmps267
      go_upto_region 1 with fail
      try rw [e1]
      try rw [e2]
      clear e1 e2;go_wp2_with (go_at_call 277;refine (zCw _ _ (by first | exact HT.out | exact HO.out)).mono ?_;rintro e w5 ⟨rfl,rfl⟩)
      go_ret
      exact ⟨rfl,HK.out⟩)
 ·have hb:(xv==0)=false:=beq_false_of_ne hv
  have hn:(xv != 0)=true:=bne_iff_ne.2 hv;rcases h3 with ⟨rfl | rfl | rfl,rfl⟩ | ⟨rfl,h,_⟩ | ⟨rfl,h,_⟩ | ⟨rfl,h,_⟩ | ⟨rfl,h,_⟩ | ⟨rfl,rfl,⟨h,_⟩ | ⟨_,rfl⟩⟩ | ⟨rfl,_,h,_⟩
  all_goals first
   | exact absurd h hv
   | (clear hv
      go_enter Tryz.func267,Tryz.ntmps267
      go_upto_region 1 with fail
      try rw [e1]
      try rw [e2]
      clear e1 e2;go_wp2_with (go_at_call 277;refine (zCw _ _ (by first | exact HT.out | exact HO.out)).mono ?_;rintro e w5 ⟨rfl,rfl⟩)
      go_ret
      exact ⟨rfl,HK.out⟩)
def zAf (la:Option Addr) (lc:Nat) (ba:Option Addr) (bc n:Nat) (T:List (Int × Int)) (O:List Int):List Value:=.slice la n lc :: .slice ba n bc :: (T.flatMap zBZ++ints O)
theorem zA2 (p:Int × Int):(zBZ p).length=2:=rfl
theorem zCB {la ba:Option Addr} {lc bc n:Nat} {T:List (Int × Int)} {O:List Int} (hT:T.length=8) (hO:O.length=8):(zAf la lc ba bc n T O).length=26:=by
 unfold zAf;simp only [List.length_cons,List.length_append,zAC zBZ 2 zA2,hT,zCX,hO]
section
variable {w:World} {b n lc bc:Nat} {la ba:Option Addr} {T:List (Int × Int)} {O:List Int}
theorem zCo (h:zC w b (zAf la lc ba bc n T O)) {t:Nat} (ht:t < T.length):w.cell? ⟨b,2+t*2,none⟩=some (.int .i64 (T.getD t (0,0)).1) /\ w.cell? ⟨b,2+t*2+1,none⟩=some (.int .i64 (T.getD t (0,0)).2):=by
 have key:∀ j,j < 2 -> (zAf la lc ba bc n T O)[2+t*2+j]?=(zBZ (T.getD t (0,0)))[j]?:=fun j hj=>by
  unfold zAf;rw [show 2+t*2+j=(t*2+j)+1+1 by omega,List.getElem?_cons_succ,List.getElem?_cons_succ,List.getElem?_append_left (J197 _),zAu zBZ 2 zA2 T t j hj,List.getD,List.getElem?_eq_getElem ht];rfl
 exact ⟨h.cell (key 0 (by decide)),h.cell (key 1 (by decide))⟩
theorem zGn (h:zC w b (zAf la lc ba bc n T O)) (hT:T.length=8) {k:Nat} (hk:k < O.length):w.cell? ⟨b,18+k,none⟩=some (.int .i64 (O.getD k 0)):=by
 refine h.cell ?_
 unfold zAf;rw [show 18+k=(16+k)+1+1 by omega,List.getElem?_cons_succ,List.getElem?_cons_succ,List.getElem?_append_right (J197 _),zAC zBZ 2 zA2,show 16+k - T.length*2=k by omega];exact zCd O k hk
theorem zEy (h:zC w b (zAf la lc ba bc n T O)) {t:Nat} (ht:t < T.length) (v:Int):zC (w.setCell ⟨b,2+t*2,none⟩ (.int .i64 v)) b (zAf la lc ba bc n (T.set t (v,(T.getD t (0,0)).2)) O):=by
 have hx:T[t]?=some (T.getD t (0,0)):=by rw [List.getD,List.getElem?_eq_getElem ht];rfl
 have hl:t*2 < (T.flatMap zBZ).length:=J197 _;have:=h.set (2+t*2) (by unfold zAf;simp only [List.length_cons,List.length_append];omega) (.int .i64 v)
 have e:(zAf la lc ba bc n T O).set (2+t*2) (.int .i64 v)=zAf la lc ba bc n (T.set t (v,(T.getD t (0,0)).2)) O:=by
  unfold zAf;rw [show 2+t*2=(t*2)+1+1 by omega,List.set_cons_succ,List.set_cons_succ,List.set_append_left _ _ hl];rw [show t*2=t*2+0 by rfl,zCe zBZ 2 zA2 T t 0 (by decide) (.int .i64 v) (T.getD t (0,0)) (v,(T.getD t (0,0)).2) hx rfl]
 rwa [e] at this
theorem zI0 (h:zC w b (zAf la lc ba bc n T O)) {t:Nat} (ht:t < T.length) (v:Int):zC (w.setCell ⟨b,2+t*2+1,none⟩ (.int .i64 v)) b (zAf la lc ba bc n (T.set t ((T.getD t (0,0)).1,v)) O):=by
 have hx:T[t]?=some (T.getD t (0,0)):=by rw [List.getD,List.getElem?_eq_getElem ht];rfl
 have hl:t*2+1 < (T.flatMap zBZ).length:=J197 _;have:=h.set (2+t*2+1) (by unfold zAf;simp only [List.length_cons,List.length_append];omega) (.int .i64 v)
 have e:(zAf la lc ba bc n T O).set (2+t*2+1) (.int .i64 v)=zAf la lc ba bc n (T.set t ((T.getD t (0,0)).1,v)) O:=by
  unfold zAf;rw [show 2+t*2+1=(t*2+1)+1+1 by omega,List.set_cons_succ,List.set_cons_succ,List.set_append_left _ _ hl];rw [zCe zBZ 2 zA2 T t 1 (by decide) (.int .i64 v) (T.getD t (0,0)) ((T.getD t (0,0)).1,v) hx rfl]
 rwa [e] at this
theorem zIt (h:zC w b (zAf la lc ba bc n T O)) (hT:T.length=8) {k:Nat} (hk:k < O.length) (v:Int):zC (w.setCell ⟨b,18+k,none⟩ (.int .i64 v)) b (zAf la lc ba bc n T (O.set k v)):=by
 have hl:(T.flatMap zBZ).length=16:=by rw [zAC zBZ 2 zA2,hT]
 have:=h.set (18+k) (by unfold zAf;simp only [List.length_cons,List.length_append,zCX];omega) (.int .i64 v)
 have e:(zAf la lc ba bc n T O).set (18+k) (.int .i64 v)=zAf la lc ba bc n T (O.set k v):=by
  unfold zAf;rw [show 18+k=(16+k)+1+1 by omega,List.set_cons_succ,List.set_cons_succ,List.set_append_right _ _ (by omega),hl,show 16+k - 16=k by omega];unfold ints;rw [<- List.map_set]
 rwa [e] at this
end
end Go.Proofs.YtoapgjjepiopbaaGreatDoor
