/- Layer K: texts joined. -/
import Derived.StillTailTactics
import Derived.Test.YtfokdllgnblamaaGreatDoorK03
set_option linter.all false
set_option maxHeartbeats 2000000
set_option maxRecDepth 8000
namespace Go.Proofs.YtfokdllgnblamaaGreatDoor
open Go.RowKit
abbrev yt:=@List.map_append
abbrev yq:=@Option.some.inj
abbrev yl:=@List.getElem?_drop
abbrev yh:=@Option.getD_some
abbrev kQ:=@Nat.not_lt_zero
abbrev kP:=@Bool.or_eq_true
abbrev kF:=@List.not_mem_nil
abbrev vU:=@Option.map_some
abbrev vQ:=@Go.getD_replicate_false
abbrev vJ:=@Go.mem_ready
abbrev vG:=@Array.all_eq_true_iff_forall_mem
abbrev uL:=@Go.getD_set_ne
abbrev uG:=@zAH.st
abbrev uF:=@List.length_take
abbrev xW:=@List.mem_range
abbrev xT:=@List.take_length
abbrev xI:=@List.all_eq_true
abbrev xE:=@Keeps.zB
abbrev yS:=@List.drop_succ_cons
abbrev yL:=@Option.bind_some
abbrev yF:=@List.setIfInBounds_toArray
abbrev yE:=@List.getElem?_cons_succ
theorem J3 (P:Prop) (h:P:=by
 clear hd;go_wp2_with fail
 exact hK _ _ (yC _ _) rfl):P:=h
theorem J9 (P:Prop) (h:P:=by
 apply Array.ext
 ·rw [inv.size];simp [zn];omega
 ·intro k h1 h2
  by_cases hk:k < n
  ·have:=hall k hk
   simp only [Array.getD,h1,dif_pos] at this;rw [show listed[k]=true from this];simp [zn,hk,List.getElem_append]
  ·have hk2:k < l.toArray.size:=by rw [<- inv.size];exact h1
   have:=inv.tail k (by omega) hk2
   simp only [Array.getD,h1,dif_pos] at this;rw [show listed[k]=false from this];simp [zn,hk,List.getElem_append]):P:=h
theorem J10 (P:Prop) (h:P:=by
 simp only [Array.any_eq_true',yT,yU] at hj;obtain ⟨e,he,hb,rfl⟩:=hj;have h1:=hafter e he hb
 have hle:e.on < i:=by
  have h1:=xI.1 hback i (xW.2 hin);simp only [ho',vU,yh,vG] at h1;have h2:=h1 e he;simpa only [hb,Bool.not_true,Bool.false_or,yU] using h2
 have h4:e.on < listed.size:=by rw [inv.size];simp;omega
 exact hF e.on (by omega) (by simpa [h4] using h1)):P:=h
theorem J12 (P:Prop) (h:P:=by
 have hil:i0 < l.length:=by omega
 rw [vJ];refine ⟨hu0,l[i0],by simp [hil],fun e he hb=>?_⟩
 have h1:=xI.1 hback i0 (xW.2 hi0);simp only [yQ hil,vU,yh,vG] at h1;have h2:=h1 e he;simp only [hb,Bool.not_true,Bool.false_or,yU] at h2;have h3:=hb0 e.on h2;have h4:e.on < listed.size:=by rw [inv.size];simp;omega
 simpa [h4] using h3):P:=h
theorem J27 (P:Prop) (h:P:=by
 have h1:=xI.1 hc t (xW.2 htlt);simp only [kP,yU] at h1;rcases h1 with h1 | h1
 ·omega
 ·obtain ⟨o',ho',e,he,hb,hon⟩:=Region.waitsFor_spec h1
  have:o'=ot:=yq (ho'.symm.trans hot)
  subst this;have h2:=hall e he hb;rw [hon,getD_both (inv.tail (t - 1) (by omega) (by omega))] at h2;cases h2):P:=h
theorem J29 (P:Prop) (h:P:=by
 intro m
 induction m with
 | zero=>intro _;rfl
 | succ m ih =>
   intro hm
   unfold zBn;rw [ih (by omega)]
   have:(Array.replicate l.toArray.size false).getD m true=false:=by
    have:m < l.length:=by omega
    simp [this]
   rw [this];simp):P:=h
theorem J36 (P:Prop) (h:P:=by
 have hd:o.dst=(l[i]?).bind (·.dst):=by rw [ho'];rfl
 show wpAny P .any l.toArray Q (f+(l.length - n)) (listed.setIfInBounds i true) ((zJ l vs a n).put o.dst v) W'
 rw [hd,zBT v n vs hin (hdis n (by omega)) (fun m hm=>hdis m (by omega))];refine ih _ _ _ (inv.set hi hin) ?_ (htrans _ _ _ hR hR') (fun j hj hl=>?_)
 ·have:=zCE hun n
  rw [if_pos hin] at this;omega
 ·by_cases e:j=i
  ·subst e;rw [if_pos rfl];exact hF'
  ·rw [if_neg e]
   rw [uL true (fun h=>e h.symm)] at hl;exact hst j _ _ _ (hF j hj hl) hR'):P:=h
theorem J43 (P:Prop) (h:P:=by
 go_wp2_with fail
 exact hK _ _ ((yC _ _).alloc _) ⟨_,rfl,yN (yK W _)⟩):P:=h
theorem J79 (P:Prop) (h:P:=by
 have:=zCE hun n
 rw [if_pos hin] at this;omega):P:=h
theorem J116 (P:Prop) (h:P:=by
 rcases xR i n with h | h
 ·exact h
 ·exact absurd hi (tail_waits hs hc (by simpa using hn) inv _ i0 rfl hi0 hu0 i h)):P:=h
theorem J154 (P:Prop) (h:P:=by
 have e4:vs 4=_:=hd 4 (by kernel_rfl);rw [e4] at hK ⊢;exact J3 _):P:=h
theorem J156 (P:Prop) (h:P:=by
 have e3:vs 3=_:=hd 3 (by kernel_rfl);rw [e3] at hK ⊢;exact J3 _):P:=h
theorem J161 (P:Prop) (h:P:=by
 have e9:vs 9=_:=hd 9 (by kernel_rfl);rw [e9] at hK ⊢;exact J3 _):P:=h
theorem J163 (P:Prop) (h:P:=by
 have e8:vs 8=_:=hd 8 (by kernel_rfl);rw [e8] at hK ⊢;exact J3 _):P:=h
theorem J183 (P:Prop) (h:P:=by
 have e6:vs 6=_:=hd 6 (by kernel_rfl);have e7:vs 7=_:=hd 7 (by kernel_rfl);rw [e6,e7] at hK ⊢;exact J3 _):P:=h
theorem J200 (P:Prop) (h:P:=by intro q hq;simp only [xX,kF,or_false] at hq;rcases hq with rfl | rfl | rfl | rfl | rfl | rfl | rfl | rfl | rfl | rfl <;> rfl):P:=h
theorem J204 (P:Prop) (h:P:=by have h1:=HAW.out.2.1;rw [HLEN.out] at h1;exact h1):P:=h
theorem J218 (P:Prop) (h:P:=by rw [h0] at hr0;exact absurd hr0 (by simp)):P:=h
theorem J219 (P:Prop) (h:P:=by rw [HLEN.out];exact HAO.out):P:=h
theorem J220 (P:Prop) (h:P:=by rw [vQ] at hl;cases hl):P:=h
def zJ (l:List Oper) (vs:Nat -> Value) (a:Act):Nat -> Act
 | 0=>a
 | n+1=>(zJ l vs a n).put ((l[n]?).bind (·.dst)) (vs n)
theorem zEu {l:List Oper} {vs us:Nat -> Value} {a:Act}:∀ n,(∀ j,j < n -> vs j=us j) -> zJ l vs a n=zJ l us a n
 | 0,_=>rfl
 | n+1,h=>by
   unfold zJ;rw [zEu n (fun j hj=>h j (by omega)),h n (by omega)]
theorem zNO (a:Act) (d:Option Tmp) (u v:Value):(a.put d u).put d v=a.put d v:=by
 cases d with
 | none=>rfl
 | some d=>simp [Act.put]
def zCC (l:List Oper) (n:Nat):Bool :=
 (List.range n).all fun i=>(List.range n).all fun j=>decide (i=j) || ((l[i]?).bind (·.dst)).isNone || decide ((l[i]?).bind (·.dst) ≠ (l[j]?).bind (·.dst))
theorem zGV {l:List Oper} {n:Nat} (h:zCC l n=true) {i j:Nat} (hi:i < n) (hj:j < n) (hne:i ≠ j):∀ d,(l[i]?).bind (·.dst)=some d -> (l[j]?).bind (·.dst) ≠ some d:=by
 intro d hd
 have h1:=xI.1 (xI.1 h i (xW.2 hi)) j (xW.2 hj);simp only [kP,yU,hne,false_or,hd,Option.isNone_some,Bool.false_eq_true] at h1;exact fun e=>h1 e.symm
theorem zBT {l:List Oper} {a:Act} {i:Nat} (v:Value):∀ (n:Nat) (vs:Nat -> Value),i < n -> zCC l n=true -> (∀ m,m <= n -> zCC l m=true) →
 (zJ l vs a n).put ((l[i]?).bind (·.dst)) v=zJ l (fun j=>if j=i then v else vs j) a n
 | 0,vs,h,_,_=>absurd h (kQ _)
 | n+1,vs,h,hd,hall=>by
   unfold zJ;by_cases e:n=i
   ·subst e
    rw [zNO,if_pos rfl];congr 1
    exact zEu n (fun j hj=>by rw [if_neg (by omega)])
   ·rw [if_neg e,<- zBT v n vs (by omega) (hall n (by omega)) (fun m hm=>hall m (by omega))]
    exact Act.put_comm _ _ _ (zGV hd (by omega) (by omega) e)
theorem zLw (a:Act) (d:Option Tmp):a.put d (match d with | some s=>a.tmps.getD s undef | none=>undef)=a:=by
 cases d with
 | none=>rfl
 | some s =>
   obtain ⟨t,df⟩:=a;simp only [Act.put,Act.mk.injEq,and_true];apply Array.ext
   ·simp
   ·intro k h1 h2
    by_cases e:s=k
    ·subst e;simp [h2]
    ·exact Array.getElem_setIfInBounds_ne h2 e
def slotsOf (l:List Oper) (a:Act) (j:Nat):Value:=match (l[j]?).bind (·.dst) with | some s=>a.tmps.getD s undef | none=>undef
theorem zBs (l:List Oper) (a:Act):∀ n,zJ l (slotsOf l a) a n=a
 | 0=>rfl
 | n+1=>by
   unfold zJ;rw [zBs l a n];exact zLw a _
def zBn (listed:Array Bool):Nat -> Nat
 | 0=>0
 | n+1=>zBn listed n+(if listed.getD n true=true then 0 else 1)
theorem zCE {listed:Array Bool} {i:Nat} (hi:listed.getD i true=false):∀ n,zBn (listed.setIfInBounds i true) n+(if i < n then 1 else 0)=zBn listed n
 | 0=>rfl
 | n+1=>by
   have ih:=zCE hi n;unfold zBn;by_cases e:i=n
   ·subst e
    have h2:(listed.setIfInBounds i true).getD i true=true:=by
     by_cases hs:i < listed.size
     ·simp [hs]
     ·simp [hs]
    rw [hi,h2];simp at ih ⊢
    exact ih
   ·rw [uL true e]
    by_cases hl:i < n
    ·rw [if_pos hl] at ih;rw [if_pos (by omega:i < n+1)];omega
    ·rw [if_neg hl] at ih;rw [if_neg (by omega:¬ i < n+1)];omega
theorem zB8 {listed:Array Bool}:∀ n,zBn listed n=0 -> ∀ i,i < n -> listed.getD i true=true
 | 0,_,_,h=>absurd h (kQ _)
 | n+1,h,i,hi=>by
   unfold zBn at h;by_cases e:i=n
   ·subst e
    by_cases h2:listed.getD i true=true
    ·exact h2
    ·rw [if_neg h2] at h;omega
   ·exact zB8 n (by omega) i (by omega)
theorem zBP {listed:Array Bool}:∀ n,zBn listed n ≠ 0 -> ∃ i,i < n /\ listed.getD i true=false /\ ∀ j,j < i -> listed.getD j true=true
 | 0,h=>absurd rfl h
 | n+1,h=>by
   by_cases h0:zBn listed n=0
   ·refine ⟨n,by omega,?_,zB8 n h0⟩
    unfold zBn at h;rw [h0] at h;by_cases h2:listed.getD n true=true
    ·rw [if_pos h2] at h;omega
    ·simpa using h2
   ·obtain ⟨i,h1,h2,h3⟩:=zBP n h0
    exact ⟨i,by omega,h2,h3⟩
def zJa (md:Region.Mode) (l:List Oper) (n:Nat):Bool :=
 (List.range n).all fun i=>((l[i]?).map fun o=>o.after.all fun e=>!Region.binds md e || decide (e.on < i)).getD true
def zn (n g:Nat):Array Bool:=(List.replicate n true++List.replicate g false).toArray
def zHN (md:Region.Mode) (l:List Oper) (n:Nat):Bool :=
 decide (n < l.length)&&Region.sinkB md l.toArray n&&Region.chainB md l.toArray n&&zJa md l n&&((List.range (n+1)).all fun m=>zCC l m)&&Region.seqB md l.toArray (l.length - n) n (zn n (l.length - n))
section
variable {P:Program}
def zOr (Q:Exit -> Act -> World -> Prop) (K:Act -> World -> Prop):Exit -> Act -> World -> Prop
 | .normal,a,w=>K a w
 | e,a,w=>Q e a w
theorem zNX {o:Oper} {a:Act} {w:World} {K:Act -> World -> Prop} {Q:Exit -> Act -> World -> Prop} (h:o.wp P a w K (zOr Q K)):o.wp P a w K Q:=by
 unfold Oper.wp at *;generalize (execOp a.eval o).run P w=r at *;cases r with
 | ok n w' =>
   cases n <;> simp only [Oper.upon] at h ⊢ <;>
    first
     | exact h
     | exact Calls.mono h (fun e w'' he=>by cases e <;> exact he)
 | halt x w'=>cases x <;> simp only [Oper.upon] at h ⊢ <;> exact h
theorem zBv {ops:Array Oper} {o:Oper} {i:Nat} {a:Act} {w:World} {K:Act -> World -> Prop} {Q:Exit -> Act -> World -> Prop} (hi:ops[i]?=some o) (h:wpList P ops (zOr Q K) [o] a w):wpOp P ops Q i K a w:=by
 unfold wpOp;simp only [hi];unfold wpList at h;split
 ·rename_i hw
  rw [if_pos hw] at h;rcases h with h | ⟨h1,h2⟩
  ·exact .inl (zNX h)
  ·exact .inr ⟨h1,h2⟩
 ·rename_i hw
  rw [if_neg hw] at h;exact h
theorem zL {id:Nat} {Q:Exit -> Act -> World -> Prop} {a:Act} {w:World} {l:List Oper} (n:Nat) (hm:P.follows .mixedOrders=true) (hB:zHN .any l n=true)
 (R:World -> World -> Prop) (hrefl:∀ w,R w w) (htrans:∀ a b c,R a b -> R b c -> R a c) (F:Nat -> Value -> World -> Prop) (hst:∀ j v W W',F j v W -> R W W' -> F j v W')
 (hstep:∀ i o,i < n -> l[i]?=some o -> ∀ (vs:Nat -> Value) (W:World) (Q':Exit -> Act -> World -> Prop),R w.drew W -> (∀ j,(o.after.any fun e=>Region.binds .any e&&decide (e.on=j))=true -> F j (vs j) W) →
   (∀ v W',R W W' -> F i v W' -> Q' .normal ((zJ l vs a n).put o.dst v) W') -> wpList P l.toArray Q' [o] (zJ l vs a n) W)
 (htail:∀ (vs:Nat -> Value) (W:World),R w.drew W -> (∀ j,j < n -> F j (vs j) W) -> wpList P l.toArray Q (l.drop n) (zJ l vs a n) W):(Code.region id l.toArray true).wp P Q a w:=by
 simp only [zHN,yT,yU,xI,xW] at hB;obtain ⟨⟨⟨⟨⟨hn,hs⟩,hc⟩,hback⟩,hdis⟩,hseq⟩:=hB
 have key:∀ (f:Nat) (listed:Array Bool) (vs:Nat -> Value) (W:World),HeadInv .any l.toArray n listed -> zBn listed n=f -> R w.drew W -> (∀ j,j < n -> listed.getD j true=true -> F j (vs j) W) →
  wpAny P .any l.toArray Q (f+(l.length - n)) listed (zJ l vs a n) W:=by
  intro f
  induction f with
  | zero =>
    intro listed vs W inv hcnt hR hF
    have hall:=zB8 n hcnt
    have he:listed=zn n (l.length - n):=by
     exact J9 _
    have h1:=htail vs W hR (fun j hj=>hF j hj (hall j hj));have hdl:(l.drop n).length=l.length - n:=by simp
    have:=wpAny_of_seq (P:=P) (md:=.any) (ops:=l.toArray) (Q':=Q) (l.drop n) n listed (zJ l vs a n) W (fun j=>by simp [yl]) (by rw [hdl,he];exact hseq) h1
    rw [hdl] at this;rw [yZ];exact this
  | succ f ih =>
    intro listed vs W inv hcnt hR hF
    obtain ⟨i0,hi0,hu0,hb0⟩:=zBP n (by omega:zBn listed n ≠ 0)
    have hr0:i0 ∈ Region.ready .any l.toArray listed:=by
     exact J12 _
    rw [show f+1+(l.length - n)=(f+(l.length - n))+1 by omega];refine ⟨fun h0=>by exact J218 _,fun i hi=>?_⟩
    have hin:i < n:=by
     exact J116 _
    have hun:=(vJ.1 hi).1;obtain ⟨_,o,ho,hafter⟩:=vJ.1 hi;have ho':l[i]?=some o:=by simpa using ho
    refine zBv ho (hstep i o hin ho' vs W _ hR (fun j hj=>?_) (fun v W' hR' hF'=>?_))
    ·exact J10 _
    ·exact J36 _
 refine wp_region_any hm ?_
 have inv0:HeadInv .any l.toArray n (Array.replicate l.toArray.size false) :=
  ⟨by simp,fun j oj _ hl=>(J220 _),fun t _ ht=>getD_in (by simpa using ht) (vQ _ _)⟩
 have hcn:∀ m,m <= l.length -> zBn (Array.replicate l.toArray.size false) m=m:=by
  exact J29 _
 have:=key n (Array.replicate l.toArray.size false) (slotsOf l a) w.drew inv0 (hcn n (by omega)) (hrefl _) (fun j hj hl=>by
  have h1:j < l.length:=by omega
  have:(Array.replicate l.toArray.size false).getD j true=false:=by simp [h1]
  rw [this] at hl;cases hl)
 rw [zBs l a n,show n+(l.length - n)=l.toArray.size by simp;omega] at this;exact this
end
section
variable {P:Program}
def zMX (md:Region.Mode) (ops:Array Oper) (n:Nat):Bool :=
 (List.range n).all fun i=>decide (i=0) || (List.range (n+1)).any fun j=>decide (i < j)&&Region.waitsFor md ops j i
theorem zHo {md:Region.Mode} {ops:Array Oper} {n:Nat} {listed:Array Bool} (hs:zMX md ops n=true) (hc:Region.chainB md ops n=true) (hn:n < ops.size) (inv:HeadInv md ops n listed) (hl0:listed.getD 0 true=true) :
 ∀ (d i:Nat),n - i=d -> 1 <= i -> i < n -> listed.getD i true=false -> ∀ t,n <= t -> t ∉ Region.ready md ops listed:=by
 intro d
 induction d using Nat.strongRecOn with
 | _ d ih =>
   intro i hd hi1 hi hun t ht hr
   obtain ⟨_,ot,hot,hall⟩:=vJ.1 hr;have htlt:t < ops.size:=(Array.getElem?_eq_some_iff.1 hot).1;by_cases htn:t=n
   ·subst htn
    have h1:=xI.1 hs i (xW.2 hi);simp only [kP,yU] at h1;rcases h1 with h1 | h1
    ·omega
    obtain ⟨j,hj,hj2⟩:=List.any_eq_true.1 h1;simp only [yT,yU] at hj2;obtain ⟨oj,hoj,e,he,hb,hon⟩:=Region.waitsFor_spec hj2.2;have hjle:j <= t:=by have:=xW.1 hj;omega
    by_cases hjt:j=t
    ·subst hjt
     have:oj=ot:=yq (hoj.symm.trans hot)
     subst this;have h2:=hall e he hb;rw [hon,getD_both hun] at h2;cases h2
    ·cases hl:listed.getD j false with
     | true =>
       have h2:=inv.closed j oj hoj hl e he hb;rw [hon,getD_both hun] at h2;cases h2
     | false =>
       have hjs:j < listed.size:=by rw [inv.size];omega
       exact ih (t - j) (by omega) j rfl (by omega) (by omega) (getD_in hjs hl) t (yV _) hr
   ·exact J27 _
def zJu (md:Region.Mode) (l:List Oper) (n:Nat):Bool :=
 decide (n < l.length)&&decide (1 <= n)&&zMX md l.toArray n&&Region.chainB md l.toArray n&&zJa md l n&&((List.range (n+1)).all fun m=>zCC l m)&&Region.seqB md l.toArray (l.length - n) n (zn n (l.length - n)) &&
  Region.free md l.toArray (Array.replicate l.toArray.size false) 0&&(Region.ready md l.toArray (Array.replicate l.toArray.size false)).contains 0&&Region.noSelect l.toArray
theorem zC6 {id:Nat} {Q:Exit -> Act -> World -> Prop} {a:Act} {w:World} {l:List Oper} (n:Nat) (hm:P.follows .mixedOrders=true) (hB:zJu .any l n=true) (o0:Oper) (v0:Value) (ho0:l[0]?=some o0) (hy0:Yields P l.toArray o0 v0 a) (hQ:∀ c a w,Q (.panic c) (a.put o0.dst v0) w -> Q (.panic c) a w)
 (R:World -> World -> Prop) (hrefl:∀ w,R w w) (htrans:∀ a b c,R a b -> R b c -> R a c) (F:Nat -> Value -> World -> Prop) (hst:∀ j v W W',F j v W -> R W W' -> F j v W')
 (hF0:∀ W,F 0 v0 W) (hstep:∀ i o,1 <= i -> i < n -> l[i]?=some o -> ∀ (vs:Nat -> Value) (W:World) (Q':Exit -> Act -> World -> Prop),R w.drew W -> (∀ j,(o.after.any fun e=>Region.binds .any e&&decide (e.on=j))=true -> F j (vs j) W) →
   (∀ v W',R W W' -> F i v W' -> Q' .normal ((zJ l vs a n).put o.dst v) W') -> wpList P l.toArray Q' [o] (zJ l vs a n) W)
 (htail:∀ (vs:Nat -> Value) (W:World),R w.drew W -> (∀ j,j < n -> F j (vs j) W) -> wpList P l.toArray Q (l.drop n) (zJ l vs a n) W):(Code.region id l.toArray true).wp P Q a w:=by
 simp only [zJu,yT,yU,xI,xW] at hB;obtain ⟨⟨⟨⟨⟨⟨⟨⟨⟨hn,hn1⟩,hs⟩,hc⟩,hback⟩,hdis⟩,hseq⟩,hfr⟩,hrd⟩,hsel⟩:=hB
 have key:∀ (f:Nat) (listed:Array Bool) (vs:Nat -> Value) (W:World),HeadInv .any l.toArray n listed -> listed.getD 0 true=true -> zBn listed n=f -> R w.drew W -> (∀ j,j < n -> listed.getD j true=true -> F j (vs j) W) →
  wpAny P .any l.toArray Q (f+(l.length - n)) listed (zJ l vs a n) W:=by
  intro f
  induction f with
  | zero =>
    intro listed vs W inv hl0 hcnt hR hF
    have hall:=zB8 n hcnt
    have he:listed=zn n (l.length - n):=by
     exact J9 _
    have h1:=htail vs W hR (fun j hj=>hF j hj (hall j hj));have hdl:(l.drop n).length=l.length - n:=by simp
    have:=wpAny_of_seq (P:=P) (md:=.any) (ops:=l.toArray) (Q':=Q) (l.drop n) n listed (zJ l vs a n) W (fun j=>by simp [yl]) (by rw [hdl,he];exact hseq) h1
    rw [hdl] at this;rw [yZ];exact this
  | succ f ih =>
    intro listed vs W inv hl0 hcnt hR hF
    obtain ⟨i0,hi0,hu0,hb0⟩:=zBP n (by omega:zBn listed n ≠ 0)
    have hr0:i0 ∈ Region.ready .any l.toArray listed:=by
     exact J12 _
    rw [show f+1+(l.length - n)=(f+(l.length - n))+1 by omega];refine ⟨fun h0=>by exact J218 _,fun i hi=>?_⟩
    have hin:i < n:=by
     rcases xR i n with h | h
     ·exact h
     ·exact absurd hi (zHo hs hc (by simpa using hn) inv hl0 _ i0 rfl (by rcases vB i0 with e | e;subst e;rw [hl0] at hu0;cases hu0;exact e) hi0 hu0 i h)
    have hun:=(vJ.1 hi).1;have hi1:1 <= i:=by rcases vB i with e | e;subst e;rw [hl0] at hun;cases hun;exact e
    obtain ⟨_,o,ho,hafter⟩:=vJ.1 hi;have ho':l[i]?=some o:=by simpa using ho
    refine zBv ho (hstep i o hi1 hin ho' vs W _ hR (fun j hj=>?_) (fun v W' hR' hF'=>?_))
    ·exact J10 _
    ·have hd:o.dst=(l[i]?).bind (·.dst):=by rw [ho'];rfl
     show wpAny P .any l.toArray Q (f+(l.length - n)) (listed.setIfInBounds i true) ((zJ l vs a n).put o.dst v) W'
     rw [hd,zBT v n vs hin (hdis n (by omega)) (fun m hm=>hdis m (by omega))];refine ih _ _ _ (inv.set hi hin) (by rw [uL true (by omega)];exact hl0) ?_ (htrans _ _ _ hR hR') (fun j hj hl=>?_)
     ·exact J79 _
     ·by_cases e:j=i
      ·subst e;rw [if_pos rfl];exact hF'
      ·rw [if_neg e]
       rw [uL true (fun h=>e h.symm)] at hl;exact hst j _ _ _ (hF j hj hl) hR'
 refine wp_region_any hm ?_
 have inv0:HeadInv .any l.toArray n (Array.replicate l.toArray.size false) :=
  ⟨by simp,fun j oj _ hl=>(J220 _),fun t _ ht=>getD_in (by simpa using ht) (vQ _ _)⟩
 have hcn:∀ m,m <= l.length -> zBn (Array.replicate l.toArray.size false) m=m:=by
  exact J29 _
 have ho0':l.toArray[0]?=some o0:=by simpa using ho0
 have hr0:(0:Nat) ∈ Region.ready .any l.toArray (Array.replicate l.toArray.size false):=by simpa using hrd
 have hu0:=(vJ.1 hr0).1;have hs1:l.toArray.size=(l.toArray.size - 1)+1:=by simp;omega
 rw [hs1,<- hs1];have hfree:∀ j oj,l.toArray[j]?=some oj -> j ≠ 0 -> (Array.replicate l.toArray.size false).getD j true=false -> (∀ e ∈ oj.after,Region.binds .any e=true -> e.on ≠ 0) -> o0.apart l.toArray oj=true:=Region.free_spec ho0' hfr
 have key1:=key (n - 1) ((Array.replicate l.toArray.size false).setIfInBounds 0 true) (fun j=>if j=0 then v0 else slotsOf l a j) w.drew (inv0.set hr0 (by omega)) (by
  have:0 < l.length:=by omega
  simp [this]) (by
  have h1:=zCE hu0 n;rw [if_pos (by omega),hcn n (by omega)] at h1;omega) (hrefl _) (fun j hj hl=>by
  by_cases e:j=0
  ·subst e
   show F 0 (if 0=0 then v0 else _) _
   rw [if_pos rfl];exact hF0 _
  ·rw [uL true (fun h=>e h.symm)] at hl
   have h1:j < l.length:=by omega
   have:(Array.replicate l.toArray.size false).getD j true=false:=by simp [h1]
   rw [this] at hl;cases hl)
 have hput:zJ l (fun j=>if j=0 then v0 else slotsOf l a j) a n=a.put o0.dst v0:=by
  have h1:=zBT (l:=l) (a:=a) (i:=0) v0 n (slotsOf l a) (by omega) (hdis n (by omega)) (fun m hm=>hdis m (by omega));rw [zBs] at h1;rw [<- h1,ho0];rfl
 rw [hput] at key1;rw [show n - 1+(l.length - n)=l.toArray.size - 1 by simp;omega] at key1;have:=wpAny_first (P:=P) (ops:=l.toArray) (Q:=Q) (md:=.any) ho0' (Region.noSelect_spec hsel) hQ (l.toArray.size - 1) (Array.replicate l.toArray.size false) a w.drew hfree hr0 hy0 key1
 rw [<- hs1] at this;exact this
end
mutual
def Ac.plain:Ac -> St
 | .mk k _ _ x _ t e=>.mk k zq zq x 0 (Ac.zAZ t) (Ac.zAZ e)
def Ac.zAZ:List Ac -> List St
 | []=>[]
 | x :: r=>Ac.plain x :: Ac.zAZ r
end
theorem Ac.zEQ (l:List Ac):Ac.zAZ l=l.map Ac.plain:=by
 induction l with
 | nil=>rfl
 | cons x r ih=>simp [Ac.zAZ,ih]
theorem Ac.zL9 (x:Ac):x.plain=.mk x.kind zq zq x.ex 0 (Ac.zAZ x.thn) (Ac.zAZ x.els):=by
 cases x;simp only [Ac.plain,Ac.kind,Ac.ex,Ac.thn,Ac.els]
theorem Ac.zDF (l:List Ac):(Ac.zAZ l).length=l.length:=by rw [Ac.zEQ];simp
def zCw (l:List Ac):Prop:=∀ (w:World) (F:Nat -> Prop) (ad:Option Addr) (cap:Nat),zAQ w F l ad -> (∀ k,F k -> k < w.heap.size) -> Ac.szL l < 1000000000 →
 Calls Tryz.prog 83 #[.slice ad l.length cap] w fun e w'=>∃ ad' cap',e=.returned (.slice ad' l.length cap') /\ zy w' (fun k=>F k \/ (w.heap.size <= k /\ k < w'.heap.size)) (Ac.zAZ l) ad' /\ Keeps zA w w'
theorem zHm:(Tryz.prog.info? 182).map (fun i=>(i.zero,i.size,i.bytes))=some (some (.agg #[.int .i64 0, .string zq, .string zq, .int .i64 0, .int .i64 0, .string zq, .slice none 0 0, .int .i64 0, .slice none 0 0, .slice none 0 0]),10,152):=by kernel_rfl
theorem info_parts {P:Program} {t:TypeId} {z:Value} {s b:Nat} (h:(P.info? t).map (fun i=>(i.zero,i.size,i.bytes))=some (some z,s,b)):∃ i,P.info? t=some i /\ i.zero=some z /\ i.size=s /\ i.bytes=b:=by
 cases hi:P.info? t with
 | none=>rw [hi] at h;cases h
 | some i =>
   rw [hi] at h;simp only [vU,yO,uN] at h;exact ⟨i,rfl,h.1,h.2.1,h.2.2⟩
theorem zy.mono {F F':Nat -> Prop} {w:World} {l:List St} {ad:Option Addr} (h:zy w F l ad) (hF:∀ k,F k -> F' k):zy w F' l ad:=by
 exact J94 _
theorem zC.src {w:World} {g n c:Nat} {cs:List Value} (h:zC w g cs):zAD w (.slice (some ⟨g,0,none⟩) n c) n cs:=⟨_,c,rfl,fun _=>⟨g,0,rfl,h.rng⟩⟩
theorem zEH (l:List Ac) (ih:∀ y,y ∈ l -> zCw y.thn /\ zCw y.els):zCw l:=by
 intro w F ad cap h hF hb
 have HL:=yB h;have IH:=yB ih;have HF:=yB hF;have hl:=Ac.zAp l;have hb2:l.length < 1000000000:=by omega
 have HB:=yB hb;obtain ⟨j0,hj0,hz0,hz1,hz2⟩:=info_parts zHm;obtain ⟨B,hB⟩:=eX w.heap.size;have HBE:=yB hB;clear h ih hl hb hF hB;go_enter Tryz.func83,Tryz.ntmps83
 go_wp2_with fail
 go_loopw [3,4] (fun ov iv wr=>∃ (i:Nat) (da:Option Addr) (dc:Nat) (css:List (List Value)),i <= l.length /\ iv=.int .i64 i /\ ov=.slice da i dc /\ Hid (Acc zB4 F B 10 182 wr (.slice da i dc) (Ac.zAZ (l.take i)) css) /\ Hid (Keeps zA w wr)) (fun _ iv _=>l.length - (intOf iv).toNat)
 case atStart=>exact ⟨0,none,0,[],yJ _,rfl,rfl,Acc.nil w,yC _ _⟩
 case round =>
  obtain ⟨i,da,dc,css,hi,rfl,rfl,HA,HK⟩:=hrel;by_cases hlt:i < l.length
  ·have i1:(0:Int) <= i:=by omega
   have i2:(i:Int) < l.length:=by omega
   have HBR:Hid (B <= wr.heap.size):=by show _ <= _;rw [HBE.out];exact HK.out.size
   obtain ⟨g,o,xa,xc,ta,tc,ea,ec,e1,hg,d0,d1,d2,d3,d4,d5,d6,d7,d8,d9,hx,hxt,hxe⟩:=(HL.out.keeps HK.out (fun _ _ h=>h)).at hlt;subst e1;have hIHi:=IH.out _ (yM hlt);have hszi:l[i].sz < 1000000000:=by have:=Ac.zBy (yM hlt);have:=HB.out;omega
   rw [Ac.zCI] at hszi;have hlF:∀ k,F k -> k < wr.heap.size:=fun k hk=>yI (HF.out k hk) HK.out.size
   have HT:Hid (∀ W,Keeps zA wr W -> Calls Tryz.prog 83 #[.slice ta l[i].thn.length tc] W fun e w'=>∃ ad' cap',e=.returned (.slice ad' l[i].thn.length cap') /\ zy w' (fun k=>F k \/ (W.heap.size <= k /\ k < w'.heap.size)) (Ac.zAZ l[i].thn) ad' /\ Keeps zA W w') :=
    fun W hk=>hIHi.1 W F ta tc (hxt.keeps hk (fun _ _ h=>h)) (fun k hf=>yI (hlF k hf) hk.size) (by omega)
   have HE:Hid (∀ W,Keeps zA wr W -> Calls Tryz.prog 83 #[.slice ea l[i].els.length ec] W fun e w'=>∃ ad' cap',e=.returned (.slice ad' l[i].els.length cap') /\ zy w' (fun k=>F k \/ (W.heap.size <= k /\ k < w'.heap.size)) (Ac.zAZ l[i].els) ad' /\ Keeps zA W w') :=
    fun W hk=>hIHi.2 W F ea ec (hxe.keeps hk (fun _ _ h=>h)) (fun k hf=>yI (hlF k hf) hk.size) (by omega)
   have HX:=yB hx;obtain ⟨pt,hpt⟩:=eX (Ac.zAZ l[i].thn);obtain ⟨pe,hpe⟩:=eX (Ac.zAZ l[i].els);have hlt2:pt.length=l[i].thn.length:=by rw [hpt,Ac.zDF]
   have hle2:pe.length=l[i].els.length:=by rw [hpe,Ac.zDF]
   obtain ⟨x,hxx⟩:=eX (l[i].ex);have HP:Hid (l[i].plain=.mk l[i].kind zq zq x 0 pt pe):=by show _=_;rw [Ac.zL9,hpt,hpe,hxx]
   rw [<- hpt] at HT;rw [<- hpe] at HE;rw [<- hlt2] at HT d8;rw [<- hle2] at HE d9;rw [<- hxx] at HX d3 d4 d5 d6;clear hIHi hszi hlF hx hxt hxe hpt hpe hlt2 hle2 hxx d1 d2 d7;generalize l[i].kind=x0 at d0 HP;obtain ⟨x3,q3⟩:=eX x.kind;obtain ⟨x4,q4⟩:=eX x.num;obtain ⟨x5,q5⟩:=eX x.nm;obtain ⟨x6,q6⟩:=eX x.args.length;obtain ⟨x8,q8⟩:=eX pt.length;obtain ⟨x9,q9⟩:=eX pe.length;have HQ:Hid (x3=x.kind /\ x4=x.num /\ x5=x.nm /\ x6=x.args.length /\ x8=pt.length /\ x9=pe.length):=⟨q3,q4,q5,q6,q8,q9⟩;rw [<- q3] at d3;rw [<- q4] at d4;rw [<- q5] at d5;rw [<- q6] at d6;rw [<- q8] at d8 HT;rw [<- q9] at d9 HE;clear q3 q4 q5 q6 q8 q9;go_upto_region 6 with (go_at_call 83;refine (HT.out _ (yC _ _)).mono ?_;rintro e w2 ⟨ta2,tc2,rfl,s1,g1⟩;have S1:=yB s1;have G1:=yB g1;have d9':=g1.cell (p:=⟨g,o+i*10+9,none⟩) (fun h=>h) d9;clear s1 g1)
   go_upto_region 7 with (go_at_call 83;refine (HE.out _ G1.out).mono ?_;rintro e w3 ⟨ea2,ec2,rfl,s2,g2⟩;have S2:=yB s2;have G2:=yB g2;clear s2 g2)
   have HG:Hid (Keeps zA wr w3):=G1.out.zB G2.out;clear d9';refine zL 15 (by kernel_rfl) (by kernel_rfl) (Keeps zA) (yC zA) (fun a b c h h'=>xE h h') (zAH [some (.slice da i dc),some (.slice (some ⟨g,o,none⟩) l.length cap),some (.int .i64 i),some (.pointer (some ⟨g,o+i*10,none⟩)),some (.pointer (some ⟨g,o+i*10,none⟩)),some (.int .i64 x0),some (.slice (some ⟨g,o,none⟩) l.length cap),some (.int .i64 i),some (.pointer (some ⟨g,o+i*10,none⟩)),some (.pointer (some ⟨g,o+i*10+3,none⟩)),some (.agg #[.int .i64 x3, .int .i64 x4, .string x5, .slice xa x6 xc]),some (.slice ta2 x8 tc2),some (.slice ea2 x9 ec2),some (.agg #[.int .i64 x0, .string zq, .string zq, .int .i64 x3, .int .i64 x4, .string x5, .slice xa x6 xc, .int .i64 0, .slice ta2 x8 tc2, .slice ea2 x9 ec2])] (fun _ v W=>∃ b,v=.slice (some ⟨b,0,none⟩) 1 1 /\ zC W b [.int .i64 x0, .string zq, .string zq, .int .i64 x3, .int .i64 x4, .string x5, .slice xa x6 xc, .int .i64 0, .slice ta2 x8 tc2, .slice ea2 x9 ec2])) (uG (fun j v W W' h hk=>by obtain ⟨b,e,h1⟩:=h;exact ⟨b,e,h1.keeps hk (fun h=>h)⟩)) ?_ ?_
   ·intro q oo hq ho vs W Q' hR hd hK
    have HR':Keeps zA wr W:=HG.out.zB (((yC zA w3).drew).zB hR);have c0:=HR'.cell (p:=⟨g,o+i*10,none⟩) (fun h=>h) d0;have c3:=HR'.cell (p:=⟨g,o+i*10+3,none⟩) (fun h=>h) d3;have c4:=HR'.cell (p:=⟨g,o+i*10+4,none⟩) (fun h=>h) d4;have c5:=HR'.cell (p:=⟨g,o+i*10+5,none⟩) (fun h=>h) d5;have c6:=HR'.cell (p:=⟨g,o+i*10+6,none⟩) (fun h=>h) d6;clear d0 d3 d4 d5 d6 d8 d9 HR';rcases (show q=0 \/ q=1 \/ q=2 \/ q=3 \/ q=4 \/ q=5 \/ q=6 \/ q=7 \/ q=8 \/ q=9 \/ q=10 \/ q=11 \/ q=12 \/ q=13 \/ q=14 by omega) with rfl | rfl | rfl | rfl | rfl | rfl | rfl | rfl | rfl | rfl | rfl | rfl | rfl | rfl | rfl
    all_goals (simp only [yD,yE,yO] at ho;subst ho;simp only [zJ,yD,yE,yL,Option.bind,Act.put,yF,yG,yH] at hK ⊢;clear hq)
    ·exact J3 _
    ·exact J3 _
    ·exact J3 _
    ·have e1:vs 1=_:=hd 1 (by kernel_rfl)
     have e2:vs 2=_:=hd 2 (by kernel_rfl);rw [e1,e2] at hK ⊢;exact J3 _
    ·exact J156 _
    ·exact J154 _
    ·exact J3 _
    ·exact J3 _
    ·exact J183 _
    ·exact J163 _
    ·exact J161 _
    ·exact J3 _
    ·exact J3 _
    ·have e5:vs 5=_:=hd 5 (by kernel_rfl)
     have e10:vs 10=_:=hd 10 (by kernel_rfl);have e11:vs 11=_:=hd 11 (by kernel_rfl);have e12:vs 12=_:=hd 12 (by kernel_rfl);rw [e5,e10,e11,e12] at hK ⊢;exact J3 _
    ·have e13:vs 13=_:=hd 13 (by kernel_rfl)
     rw [e13] at hK ⊢;clear hd;exact J43 _
   ·intro vs W hR hF
    have HR':Keeps zA w3 W:=((yC zA w3).drew).zB hR;have HKW:Hid (Keeps zA wr W):=HG.out.zB HR';have e0:vs 0=_:=hF 0 (by decide);obtain ⟨gs,e14,hgs⟩:=(hF 14 (by decide):∃ b,vs 14=.slice (some ⟨b,0,none⟩) 1 1 /\ zC W b [.int .i64 x0, .string zq, .string zq, .int .i64 x3, .int .i64 x4, .string x5, .slice xa x6 xc, .int .i64 0, .slice ta2 x8 tc2, .slice ea2 x9 ec2]);have HGS:=yB hgs;have HRW:=yB HR';simp only [zJ,yD,yE,yL,Option.bind,Act.put,yF,yG,yH,yS,yR];rw [e0,e14];clear hF e0 e14;generalize vs 1=y1;generalize vs 2=y2;generalize vs 3=y3;generalize vs 4=y4;generalize vs 5=y5;generalize vs 6=y6;generalize vs 7=y7;generalize vs 8=y8;generalize vs 9=y9;generalize vs 10=y10;generalize vs 11=y11;generalize vs 12=y12;generalize vs 13=y13;clear HR' hR hgs d0 d3 d4 d5 d6 d8 d9;have HAW:Hid (Acc zB4 F B 10 182 W (.slice da i dc) (Ac.zAZ (l.take i)) css):=HA.out.zD zIF HKW.out;have hlen:(Ac.zAZ (l.take i)).length=i:=by rw [Ac.zDF,uF];omega
    have HLEN:=yB hlen;clear hlen;have i3:i+1 <= 1000000000:=by omega
    go_upto_region 4 with (at_builtin;refine zI _ (by rfl) _ _ 152 (by rfl) 0 182 j0 _ 10 152 Tryz.underlying152 hj0 hz0 hz1 hz2 rfl (by decide) (.slice da i dc) i css.flatten (by rfl) (J204 _) (.slice (some ⟨gs,0,none⟩) 1 1) 1 [.int .i64 x0, .string zq, .string zq, .int .i64 x3, .int .i64 x4, .string x5, .slice xa x6 xc, .int .i64 0, .slice ta2 x8 tc2, .slice ea2 x9 ec2] (by rfl) (zC.src HGS.out) rfl (J200 _) (by unfold maxLen;omega) (by omega) (yJ _) ?_;intro da2 dc2 w4 ha;have HAO:=yB ha;clear ha)
    have hown:∀ kb,(Value.slice da i dc).ownBlock=some kb -> kb < wr.heap.size:=fun kb e=>zO HA.out.2.1 e
    have hel:zB4 W (zBU F B W (.slice da i dc)) l[i].plain [.int .i64 x0, .string zq, .string zq, .int .i64 x3, .int .i64 x4, .string x5, .slice xa x6 xc, .int .i64 0, .slice ta2 x8 tc2, .slice ea2 x9 ec2]:=by
     have hb:=HBR.out;have k1:=G1.out.size;have k2:=G2.out.size;have k3:=HRW.out.size;have h0:zN W (zBU F B W (.slice da i dc)) x.args xa:=(HX.out.keeps HKW.out (fun _ _ h=>h)).mono (fun k hk=>.inl hk)
     have h1:zy W (zBU F B W (.slice da i dc)) pt ta2:=(S1.out.keeps (G2.out.zB HRW.out) (fun _ _ h=>h)).mono (fun k hk=>by
      rcases hk with hk | ⟨h6,h7⟩
      ·exact .inl hk
      ·exact .inr ⟨by omega,by omega,fun e=>by have:=hown k e;omega⟩)
     have h2:zy W (zBU F B W (.slice da i dc)) pe ea2:=(S2.out.keeps HRW.out (fun _ _ h=>h)).mono (fun k hk=>by
      rcases hk with hk | ⟨h6,h7⟩
      ·exact .inl hk
      ·exact .inr ⟨by omega,by omega,fun e=>by have:=hown k e;omega⟩)
     rw [HP.out];obtain ⟨q3,q4,q5,q6,q8,q9⟩:=HQ.out;rw [q3,q4,q5,q6,q8,q9];exact zB4.zCv (St.mk x0 zq zq x 0 pt pe) h0 h1 h2
    have hBW:B <= W.heap.size:=yX HBR.out HKW.out.size
    have hpush:Acc zB4 F B 10 182 w4 (.slice da2 (i+1) dc2) (Ac.zAZ (l.take (i+1))) (css++[[.int .i64 x0, .string zq, .string zq, .int .i64 x3, .int .i64 x4, .string x5, .slice xa x6 xc, .int .i64 0, .slice ta2 x8 tc2, .slice ea2 x9 ec2]]):=by
     have h1:=HAW.out.push zIF (fun k hk=>by rw [HBE.out];exact HF.out k hk) hBW hel (by decide) (ad:=da2) (cap:=dc2) (w':=w4) (J219 _);rw [HLEN.out] at h1;have e:Ac.zAZ (l.take (i+1))=Ac.zAZ (l.take i)++[l[i].plain]:=by rw [Ac.zEQ,Ac.zEQ,take_at hlt,yt];rfl
     rw [e];exact h1
    have HPU:=yB hpush;have HKE:Hid (Keeps zA w w4):=HAO.out.keeps (HK.out.zB HKW.out) (fun k e hk=>by have:=HA.out.2.2.1 k e;have:=HBE.out;omega);clear hpush hel hown hBW;go_wp2_with fail
    go_roundw
    case rel=>exact ⟨i+1,da2,dc2,css++[[.int .i64 x0, .string zq, .string zq, .int .i64 x3, .int .i64 x4, .string x5, .slice xa x6 xc, .int .i64 0, .slice ta2 x8 tc2, .slice ea2 x9 ec2]],by omega,by go_num,rfl,HPU,HKE⟩
    case measure=>simp [intOf];omega
  ·obtain rfl:i=l.length:=by omega
   go_wp2_with fail
   go_ret
   have hA:=HA.out;rw [xT] at hA;obtain ⟨h1,h2⟩:=hA.elems zIF (ad:=da) (n:=l.length) (cap:=dc) rfl;rw [<- HBE.out];exact ⟨da,dc,rfl,⟨_,h1,h2⟩,HK.out⟩
theorem zNQ (l:List Ac):zCw l:=by
 have key:∀ x:Ac,zCw x.thn /\ zCw x.els:=fun x=>Ac.ind (P:=fun x=>zCw x.thn /\ zCw x.els) (fun k r o x c t e h1 h2=>⟨zEH t h1,zEH e h2⟩) x
 exact zEH l (fun y _=>key y)
def acB (f:Fl) (reg regs obj most count:Int) (m z:Bool) (nt ne:Nat):Bool :=
 (if f.reg then decide (0 <= reg)&&decide (reg < regs) else reg==0)&&(if f.name then decide (0 <= obj)&&decide (obj < most) else obj==0)&&(if f.ex then m else z) &&
 (if f.count then decide (0 <= count)&&decide (count <= 1000) else count==0)&&(f.thn || nt==0)&&(f.els || ne==0)
theorem zJR (u:Un) (regs k reg obj:Int) (ex:Ex) (count:Int) (nt ne:Nat) :
 zBS u regs k reg obj ex count nt ne=(decide (1 <= k)&&decide (k <= 11)&&acB (fields k) reg regs obj (zBM u k) count (ex.may regs) ex.none nt ne):=by
 unfold zBS acB;simp only [Bool.and_assoc]
theorem zC.ten {w:World} {g:Nat} {a b c d e f h i j k:Value} (r:zC w g [a,b,c,d,e,f,h,i,j,k]) :
 w.cell? ⟨g,0,none⟩=some a /\ w.cell? ⟨g,1,none⟩=some b /\ w.cell? ⟨g,2,none⟩=some c /\ w.cell? ⟨g,3,none⟩=some d /\ w.cell? ⟨g,4,none⟩=some e /\ w.cell? ⟨g,5,none⟩=some f /\ w.cell? ⟨g,6,none⟩=some h ∧
 w.cell? ⟨g,7,none⟩=some i /\ w.cell? ⟨g,8,none⟩=some j /\ w.cell? ⟨g,9,none⟩=some k :=
 ⟨r.cell rfl,r.cell rfl,r.cell rfl,r.cell rfl,r.cell rfl,r.cell rfl,r.cell rfl,r.cell rfl,r.cell rfl,r.cell rfl⟩
theorem zC.three {w:World} {g:Nat} {a b c:Value} (r:zC w g [a,b,c]):w.cell? ⟨g,0,none⟩=some a /\ w.cell? ⟨g,1,none⟩=some b /\ w.cell? ⟨g,2,none⟩=some c :=
 ⟨r.cell rfl,r.cell rfl,r.cell rfl⟩
theorem zC.four {w:World} {g:Nat} {a b c d:Value} (r:zC w g [a,b,c,d]):w.cell? ⟨g,0,none⟩=some a /\ w.cell? ⟨g,1,none⟩=some b /\ w.cell? ⟨g,2,none⟩=some c /\ w.cell? ⟨g,3,none⟩=some d :=
 ⟨r.cell rfl,r.cell rfl,r.cell rfl,r.cell rfl⟩
end Go.Proofs.YtfokdllgnblamaaGreatDoor
