/- Layer R: texts joined. -/
import Derived.Test.YtnmifekgdkgknaaGreatDoorR01
import Derived.StillTailTactics
set_option linter.unusedVariables false
set_option linter.unusedSimpArgs false
set_option linter.unnecessarySimpa false
namespace Go.Proofs.YtnmifekgdkgknaaGreatDoor
open Go.RowKit
def putsTo (l:List Oper) (vs:Nat -> Value) (a:Act):Nat -> Act
 | 0=>a
 | n+1=>(putsTo l vs a n).put ((l[n]?).bind (·.dst)) (vs n)
theorem putsTo_congr {l:List Oper} {vs us:Nat -> Value} {a:Act}:∀ n,(∀ j,j < n -> vs j=us j) -> putsTo l vs a n=putsTo l us a n
 | 0,_=>rfl
 | n+1,h=>by
   unfold putsTo;rw [putsTo_congr n (fun j hj=>h j (by omega)),h n (by omega)]
theorem put_put (a:Act) (d:Option Tmp) (u v:Value):(a.put d u).put d v=a.put d v:=by
 cases d with
 | none=>rfl
 | some d=>simp [Act.put]
def distinctB (l:List Oper) (n:Nat):Bool :=
 (List.range n).all fun i=>(List.range n).all fun j=>decide (i=j) || ((l[i]?).bind (·.dst)).isNone || decide ((l[i]?).bind (·.dst) ≠ (l[j]?).bind (·.dst))
theorem distinct_spec {l:List Oper} {n:Nat} (h:distinctB l n=true) {i j:Nat} (hi:i < n) (hj:j < n) (hne:i ≠ j):∀ d,(l[i]?).bind (·.dst)=some d -> (l[j]?).bind (·.dst) ≠ some d:=by
 intro d hd
 have h1:=List.all_eq_true.1 (List.all_eq_true.1 h i (List.mem_range.2 hi)) j (List.mem_range.2 hj);simp only [Bool.or_eq_true,decide_eq_true_eq,hne,false_or,hd,Option.isNone_some,Bool.false_eq_true] at h1;exact fun e=>h1 e.symm
theorem putsTo_put {l:List Oper} {a:Act} {i:Nat} (v:Value):∀ (n:Nat) (vs:Nat -> Value),i < n -> distinctB l n=true -> (∀ m,m <= n -> distinctB l m=true) →
 (putsTo l vs a n).put ((l[i]?).bind (·.dst)) v=putsTo l (fun j=>if j=i then v else vs j) a n
 | 0,vs,h,_,_=>absurd h (Nat.not_lt_zero _)
 | n+1,vs,h,hd,hall=>by
   unfold putsTo;by_cases e:n=i
   ·subst e
    rw [put_put,if_pos rfl];congr 1
    exact putsTo_congr n (fun j hj=>by rw [if_neg (by omega)])
   ·rw [if_neg e,<- putsTo_put v n vs (by omega) (hall n (by omega)) (fun m hm=>hall m (by omega))]
    exact Act.put_comm _ _ _ (distinct_spec hd (by omega) (by omega) e)
theorem put_same (a:Act) (d:Option Tmp):a.put d (match d with | some s=>a.tmps.getD s undef | none=>undef)=a:=by
 cases d with
 | none=>rfl
 | some s =>
   obtain ⟨t,df⟩:=a;simp only [Act.put,Act.mk.injEq,and_true];apply Array.ext
   ·simp
   ·intro k h1 h2
    by_cases e:s=k
    ·subst e;simp [h2]
    ·exact Array.getElem_setIfInBounds_ne h2 e
def slotsOf (l:List Oper) (a:Act) (j:Nat):Value:=match (l[j]?).bind (·.dst) with | some s=>a.tmps.getD s undef | none=>undef
theorem putsTo_self (l:List Oper) (a:Act):∀ n,putsTo l (slotsOf l a) a n=a
 | 0=>rfl
 | n+1=>by
   unfold putsTo;rw [putsTo_self l a n];exact put_same a _
def cntU (listed:Array Bool):Nat -> Nat
 | 0=>0
 | n+1=>cntU listed n+(if listed.getD n true=true then 0 else 1)
theorem cntU_set {listed:Array Bool} {i:Nat} (hi:listed.getD i true=false):∀ n,cntU (listed.setIfInBounds i true) n+(if i < n then 1 else 0)=cntU listed n
 | 0=>rfl
 | n+1=>by
   have ih:=cntU_set hi n;unfold cntU;by_cases e:i=n
   ·subst e
    have h2:(listed.setIfInBounds i true).getD i true=true:=by
     by_cases hs:i < listed.size
     ·simp [hs]
     ·simp [hs]
    rw [hi,h2];simp at ih ⊢
    exact ih
   ·rw [getD_set_ne true e]
    by_cases hl:i < n
    ·rw [if_pos hl] at ih;rw [if_pos (by omega:i < n+1)];omega
    ·rw [if_neg hl] at ih;rw [if_neg (by omega:¬ i < n+1)];omega
theorem cntU_zero {listed:Array Bool}:∀ n,cntU listed n=0 -> ∀ i,i < n -> listed.getD i true=true
 | 0,_,_,h=>absurd h (Nat.not_lt_zero _)
 | n+1,h,i,hi=>by
   unfold cntU at h;by_cases e:i=n
   ·subst e
    by_cases h2:listed.getD i true=true
    ·exact h2
    ·rw [if_neg h2] at h;omega
   ·exact cntU_zero n (by omega) i (by omega)
theorem cntU_first {listed:Array Bool}:∀ n,cntU listed n ≠ 0 -> ∃ i,i < n /\ listed.getD i true=false /\ ∀ j,j < i -> listed.getD j true=true
 | 0,h=>absurd rfl h
 | n+1,h=>by
   by_cases h0:cntU listed n=0
   ·refine ⟨n,by omega,?_,cntU_zero n h0⟩
    unfold cntU at h;rw [h0] at h;by_cases h2:listed.getD n true=true
    ·rw [if_pos h2] at h;omega
    ·simpa using h2
   ·obtain ⟨i,h1,h2,h3⟩:=cntU_first n h0
    exact ⟨i,by omega,h2,h3⟩
def backB (md:Region.Mode) (l:List Oper) (n:Nat):Bool :=
 (List.range n).all fun i=>((l[i]?).map fun o=>o.after.all fun e=>!Region.binds md e || decide (e.on < i)).getD true
def listedTo (n g:Nat):Array Bool:=(List.replicate n true++List.replicate g false).toArray
def tableB (md:Region.Mode) (l:List Oper) (n:Nat):Bool :=
 decide (n < l.length)&&Region.sinkB md l.toArray n&&Region.chainB md l.toArray n&&backB md l n&&((List.range (n+1)).all fun m=>distinctB l m)&&Region.seqB md l.toArray (l.length - n) n (listedTo n (l.length - n))
section
variable {P:Program}
def endK (Q:Exit -> Act -> World -> Prop) (K:Act -> World -> Prop):Exit -> Act -> World -> Prop
 | .normal,a,w=>K a w
 | e,a,w=>Q e a w
theorem wp_endK {o:Oper} {a:Act} {w:World} {K:Act -> World -> Prop} {Q:Exit -> Act -> World -> Prop} (h:o.wp P a w K (endK Q K)):o.wp P a w K Q:=by
 unfold Oper.wp at *;generalize (execOp a.eval o).run P w=r at *;cases r with
 | ok n w' =>
   cases n <;> simp only [Oper.upon] at h ⊢ <;>
    first
     | exact h
     | exact Calls.mono h (fun e w'' he=>by cases e <;> exact he)
 | halt x w'=>cases x <;> simp only [Oper.upon] at h ⊢ <;> exact h
theorem wpOp_of_list {ops:Array Oper} {o:Oper} {i:Nat} {a:Act} {w:World} {K:Act -> World -> Prop} {Q:Exit -> Act -> World -> Prop} (hi:ops[i]?=some o) (h:wpList P ops (endK Q K) [o] a w):wpOp P ops Q i K a w:=by
 unfold wpOp;simp only [hi];unfold wpList at h;split
 ·rename_i hw
  rw [if_pos hw] at h;rcases h with h | ⟨h1,h2⟩
  ·exact .inl (wp_endK h)
  ·exact .inr ⟨h1,h2⟩
 ·rename_i hw
  rw [if_neg hw] at h;exact h
theorem wp_region_table {id:Nat} {Q:Exit -> Act -> World -> Prop} {a:Act} {w:World} {l:List Oper} (n:Nat) (hm:P.follows .mixedOrders=true) (hB:tableB .any l n=true)
 (R:World -> World -> Prop) (hrefl:∀ w,R w w) (htrans:∀ a b c,R a b -> R b c -> R a c) (F:Nat -> Value -> World -> Prop) (hst:∀ j v W W',F j v W -> R W W' -> F j v W')
 (hstep:∀ i o,i < n -> l[i]?=some o -> ∀ (vs:Nat -> Value) (W:World) (Q':Exit -> Act -> World -> Prop),R w.drew W -> (∀ j,(o.after.any fun e=>Region.binds .any e&&decide (e.on=j))=true -> F j (vs j) W) →
   (∀ v W',R W W' -> F i v W' -> Q' .normal ((putsTo l vs a n).put o.dst v) W') -> wpList P l.toArray Q' [o] (putsTo l vs a n) W)
 (htail:∀ (vs:Nat -> Value) (W:World),R w.drew W -> (∀ j,j < n -> F j (vs j) W) -> wpList P l.toArray Q (l.drop n) (putsTo l vs a n) W):(Code.region id l.toArray true).wp P Q a w:=by
 simp only [tableB,Bool.and_eq_true,decide_eq_true_eq,List.all_eq_true,List.mem_range] at hB;obtain ⟨⟨⟨⟨⟨hn,hs⟩,hc⟩,hback⟩,hdis⟩,hseq⟩:=hB
 have key:∀ (f:Nat) (listed:Array Bool) (vs:Nat -> Value) (W:World),HeadInv .any l.toArray n listed -> cntU listed n=f -> R w.drew W -> (∀ j,j < n -> listed.getD j true=true -> F j (vs j) W) →
  wpAny P .any l.toArray Q (f+(l.length - n)) listed (putsTo l vs a n) W:=by
  intro f
  induction f with
  | zero =>
    intro listed vs W inv hcnt hR hF
    have hall:=cntU_zero n hcnt
    have he:listed=listedTo n (l.length - n):=by
     apply Array.ext
     ·rw [inv.size];simp [listedTo];omega
     ·intro k h1 h2
      by_cases hk:k < n
      ·have:=hall k hk
       simp only [Array.getD,h1,dif_pos] at this;rw [show listed[k]=true from this];simp [listedTo,hk,List.getElem_append]
      ·have hk2:k < l.toArray.size:=by rw [<- inv.size];exact h1
       have:=inv.tail k (by omega) hk2
       simp only [Array.getD,h1,dif_pos] at this;rw [show listed[k]=false from this];simp [listedTo,hk,List.getElem_append]
    have h1:=htail vs W hR (fun j hj=>hF j hj (hall j hj));have hdl:(l.drop n).length=l.length - n:=by simp
    have:=wpAny_of_seq (P:=P) (md:=.any) (ops:=l.toArray) (Q':=Q) (l.drop n) n listed (putsTo l vs a n) W (fun j=>by simp [List.getElem?_drop]) (by rw [hdl,he];exact hseq) h1
    rw [hdl] at this;rw [Nat.zero_add];exact this
  | succ f ih =>
    intro listed vs W inv hcnt hR hF
    obtain ⟨i0,hi0,hu0,hb0⟩:=cntU_first n (by omega:cntU listed n ≠ 0)
    have hr0:i0 ∈ Region.ready .any l.toArray listed:=by
     have hil:i0 < l.length:=by omega
     rw [mem_ready];refine ⟨hu0,l[i0],by simp [hil],fun e he hb=>?_⟩
     have h1:=List.all_eq_true.1 hback i0 (List.mem_range.2 hi0);simp only [List.getElem?_eq_getElem hil,Option.map_some,Option.getD_some,Array.all_eq_true_iff_forall_mem] at h1;have h2:=h1 e he;simp only [hb,Bool.not_true,Bool.false_or,decide_eq_true_eq] at h2;have h3:=hb0 e.on h2;have h4:e.on < listed.size:=by rw [inv.size];simp;omega
     simpa [h4] using h3
    rw [show f+1+(l.length - n)=(f+(l.length - n))+1 by omega];refine ⟨fun h0=>by rw [h0] at hr0;exact absurd hr0 (by simp),fun i hi=>?_⟩
    have hin:i < n:=by
     rcases Nat.lt_or_ge i n with h | h
     ·exact h
     ·exact absurd hi (tail_waits hs hc (by simpa using hn) inv _ i0 rfl hi0 hu0 i h)
    have hun:=(mem_ready.1 hi).1;obtain ⟨_,o,ho,hafter⟩:=mem_ready.1 hi;have ho':l[i]?=some o:=by simpa using ho
    refine wpOp_of_list ho (hstep i o hin ho' vs W _ hR (fun j hj=>?_) (fun v W' hR' hF'=>?_))
    ·simp only [Array.any_eq_true',Bool.and_eq_true,decide_eq_true_eq] at hj
     obtain ⟨e,he,hb,rfl⟩:=hj;have h1:=hafter e he hb
     have hle:e.on < i:=by
      have h1:=List.all_eq_true.1 hback i (List.mem_range.2 hin);simp only [ho',Option.map_some,Option.getD_some,Array.all_eq_true_iff_forall_mem] at h1;have h2:=h1 e he;simpa only [hb,Bool.not_true,Bool.false_or,decide_eq_true_eq] using h2
     have h4:e.on < listed.size:=by rw [inv.size];simp;omega
     exact hF e.on (by omega) (by simpa [h4] using h1)
    ·have hd:o.dst=(l[i]?).bind (·.dst):=by rw [ho'];rfl
     show wpAny P .any l.toArray Q (f+(l.length - n)) (listed.setIfInBounds i true) ((putsTo l vs a n).put o.dst v) W'
     rw [hd,putsTo_put v n vs hin (hdis n (by omega)) (fun m hm=>hdis m (by omega))];refine ih _ _ _ (inv.set hi hin) ?_ (htrans _ _ _ hR hR') (fun j hj hl=>?_)
     ·have:=cntU_set hun n
      rw [if_pos hin] at this;omega
     ·by_cases e:j=i
      ·subst e;rw [if_pos rfl];exact hF'
      ·rw [if_neg e]
       rw [getD_set_ne true (fun h=>e h.symm)] at hl;exact hst j _ _ _ (hF j hj hl) hR'
 refine wp_region_any hm ?_
 have inv0:HeadInv .any l.toArray n (Array.replicate l.toArray.size false) :=
  ⟨by simp,fun j oj _ hl=>(by rw [getD_replicate_false] at hl;cases hl),fun t _ ht=>getD_in (by simpa using ht) (getD_replicate_false _ _)⟩
 have hcn:∀ m,m <= l.length -> cntU (Array.replicate l.toArray.size false) m=m:=by
  intro m
  induction m with
  | zero=>intro _;rfl
  | succ m ih =>
    intro hm
    unfold cntU;rw [ih (by omega)]
    have:(Array.replicate l.toArray.size false).getD m true=false:=by
     have:m < l.length:=by omega
     simp [this]
    rw [this];simp
 have:=key n (Array.replicate l.toArray.size false) (slotsOf l a) w.drew inv0 (hcn n (by omega)) (hrefl _) (fun j hj hl=>by
  have h1:j < l.length:=by omega
  have:(Array.replicate l.toArray.size false).getD j true=false:=by simp [h1]
  rw [this] at hl;cases hl)
 rw [putsTo_self l a n,show n+(l.length - n)=l.toArray.size by simp;omega] at this;exact this
end
section
variable {P:Program}
def sink1B (md:Region.Mode) (ops:Array Oper) (n:Nat):Bool :=
 (List.range n).all fun i=>decide (i=0) || (List.range (n+1)).any fun j=>decide (i < j)&&Region.waitsFor md ops j i
theorem tail_waits1 {md:Region.Mode} {ops:Array Oper} {n:Nat} {listed:Array Bool} (hs:sink1B md ops n=true) (hc:Region.chainB md ops n=true) (hn:n < ops.size) (inv:HeadInv md ops n listed) (hl0:listed.getD 0 true=true) :
 ∀ (d i:Nat),n - i=d -> 1 <= i -> i < n -> listed.getD i true=false -> ∀ t,n <= t -> t ∉ Region.ready md ops listed:=by
 intro d
 induction d using Nat.strongRecOn with
 | _ d ih =>
   intro i hd hi1 hi hun t ht hr
   obtain ⟨_,ot,hot,hall⟩:=mem_ready.1 hr;have htlt:t < ops.size:=(Array.getElem?_eq_some_iff.1 hot).1;by_cases htn:t=n
   ·subst htn
    have h1:=List.all_eq_true.1 hs i (List.mem_range.2 hi);simp only [Bool.or_eq_true,decide_eq_true_eq] at h1;rcases h1 with h1 | h1
    ·omega
    obtain ⟨j,hj,hj2⟩:=List.any_eq_true.1 h1;simp only [Bool.and_eq_true,decide_eq_true_eq] at hj2;obtain ⟨oj,hoj,e,he,hb,hon⟩:=Region.waitsFor_spec hj2.2;have hjle:j <= t:=by have:=List.mem_range.1 hj;omega
    by_cases hjt:j=t
    ·subst hjt
     have:oj=ot:=Option.some.inj (hoj.symm.trans hot)
     subst this;have h2:=hall e he hb;rw [hon,getD_both hun] at h2;cases h2
    ·cases hl:listed.getD j false with
     | true =>
       have h2:=inv.closed j oj hoj hl e he hb;rw [hon,getD_both hun] at h2;cases h2
     | false =>
       have hjs:j < listed.size:=by rw [inv.size];omega
       exact ih (t - j) (by omega) j rfl (by omega) (by omega) (getD_in hjs hl) t (Nat.le_refl _) hr
   ·have h1:=List.all_eq_true.1 hc t (List.mem_range.2 htlt)
    simp only [Bool.or_eq_true,decide_eq_true_eq] at h1;rcases h1 with h1 | h1
    ·omega
    ·obtain ⟨o',ho',e,he,hb,hon⟩:=Region.waitsFor_spec h1
     have:o'=ot:=Option.some.inj (ho'.symm.trans hot)
     subst this;have h2:=hall e he hb;rw [hon,getD_both (inv.tail (t - 1) (by omega) (by omega))] at h2;cases h2
def table3B (md:Region.Mode) (l:List Oper) (n:Nat):Bool :=
 decide (n < l.length)&&decide (1 <= n)&&sink1B md l.toArray n&&Region.chainB md l.toArray n&&backB md l n&&((List.range (n+1)).all fun m=>distinctB l m)&&Region.seqB md l.toArray (l.length - n) n (listedTo n (l.length - n)) &&
  Region.free md l.toArray (Array.replicate l.toArray.size false) 0&&(Region.ready md l.toArray (Array.replicate l.toArray.size false)).contains 0&&Region.noSelect l.toArray
theorem wp_region_table3 {id:Nat} {Q:Exit -> Act -> World -> Prop} {a:Act} {w:World} {l:List Oper} (n:Nat) (hm:P.follows .mixedOrders=true) (hB:table3B .any l n=true) (o0:Oper) (v0:Value) (ho0:l[0]?=some o0) (hy0:Yields P l.toArray o0 v0 a) (hQ:∀ c a w,Q (.panic c) (a.put o0.dst v0) w -> Q (.panic c) a w)
 (R:World -> World -> Prop) (hrefl:∀ w,R w w) (htrans:∀ a b c,R a b -> R b c -> R a c) (F:Nat -> Value -> World -> Prop) (hst:∀ j v W W',F j v W -> R W W' -> F j v W')
 (hF0:∀ W,F 0 v0 W) (hstep:∀ i o,1 <= i -> i < n -> l[i]?=some o -> ∀ (vs:Nat -> Value) (W:World) (Q':Exit -> Act -> World -> Prop),R w.drew W -> (∀ j,(o.after.any fun e=>Region.binds .any e&&decide (e.on=j))=true -> F j (vs j) W) →
   (∀ v W',R W W' -> F i v W' -> Q' .normal ((putsTo l vs a n).put o.dst v) W') -> wpList P l.toArray Q' [o] (putsTo l vs a n) W)
 (htail:∀ (vs:Nat -> Value) (W:World),R w.drew W -> (∀ j,j < n -> F j (vs j) W) -> wpList P l.toArray Q (l.drop n) (putsTo l vs a n) W):(Code.region id l.toArray true).wp P Q a w:=by
 simp only [table3B,Bool.and_eq_true,decide_eq_true_eq,List.all_eq_true,List.mem_range] at hB;obtain ⟨⟨⟨⟨⟨⟨⟨⟨⟨hn,hn1⟩,hs⟩,hc⟩,hback⟩,hdis⟩,hseq⟩,hfr⟩,hrd⟩,hsel⟩:=hB
 have key:∀ (f:Nat) (listed:Array Bool) (vs:Nat -> Value) (W:World),HeadInv .any l.toArray n listed -> listed.getD 0 true=true -> cntU listed n=f -> R w.drew W -> (∀ j,j < n -> listed.getD j true=true -> F j (vs j) W) →
  wpAny P .any l.toArray Q (f+(l.length - n)) listed (putsTo l vs a n) W:=by
  intro f
  induction f with
  | zero =>
    intro listed vs W inv hl0 hcnt hR hF
    have hall:=cntU_zero n hcnt
    have he:listed=listedTo n (l.length - n):=by
     apply Array.ext
     ·rw [inv.size];simp [listedTo];omega
     ·intro k h1 h2
      by_cases hk:k < n
      ·have:=hall k hk
       simp only [Array.getD,h1,dif_pos] at this;rw [show listed[k]=true from this];simp [listedTo,hk,List.getElem_append]
      ·have hk2:k < l.toArray.size:=by rw [<- inv.size];exact h1
       have:=inv.tail k (by omega) hk2
       simp only [Array.getD,h1,dif_pos] at this;rw [show listed[k]=false from this];simp [listedTo,hk,List.getElem_append]
    have h1:=htail vs W hR (fun j hj=>hF j hj (hall j hj));have hdl:(l.drop n).length=l.length - n:=by simp
    have:=wpAny_of_seq (P:=P) (md:=.any) (ops:=l.toArray) (Q':=Q) (l.drop n) n listed (putsTo l vs a n) W (fun j=>by simp [List.getElem?_drop]) (by rw [hdl,he];exact hseq) h1
    rw [hdl] at this;rw [Nat.zero_add];exact this
  | succ f ih =>
    intro listed vs W inv hl0 hcnt hR hF
    obtain ⟨i0,hi0,hu0,hb0⟩:=cntU_first n (by omega:cntU listed n ≠ 0)
    have hr0:i0 ∈ Region.ready .any l.toArray listed:=by
     have hil:i0 < l.length:=by omega
     rw [mem_ready];refine ⟨hu0,l[i0],by simp [hil],fun e he hb=>?_⟩
     have h1:=List.all_eq_true.1 hback i0 (List.mem_range.2 hi0);simp only [List.getElem?_eq_getElem hil,Option.map_some,Option.getD_some,Array.all_eq_true_iff_forall_mem] at h1;have h2:=h1 e he;simp only [hb,Bool.not_true,Bool.false_or,decide_eq_true_eq] at h2;have h3:=hb0 e.on h2;have h4:e.on < listed.size:=by rw [inv.size];simp;omega
     simpa [h4] using h3
    rw [show f+1+(l.length - n)=(f+(l.length - n))+1 by omega];refine ⟨fun h0=>by rw [h0] at hr0;exact absurd hr0 (by simp),fun i hi=>?_⟩
    have hin:i < n:=by
     rcases Nat.lt_or_ge i n with h | h
     ·exact h
     ·exact absurd hi (tail_waits1 hs hc (by simpa using hn) inv hl0 _ i0 rfl (by rcases Nat.eq_zero_or_pos i0 with e | e;subst e;rw [hl0] at hu0;cases hu0;exact e) hi0 hu0 i h)
    have hun:=(mem_ready.1 hi).1;have hi1:1 <= i:=by rcases Nat.eq_zero_or_pos i with e | e;subst e;rw [hl0] at hun;cases hun;exact e
    obtain ⟨_,o,ho,hafter⟩:=mem_ready.1 hi;have ho':l[i]?=some o:=by simpa using ho
    refine wpOp_of_list ho (hstep i o hi1 hin ho' vs W _ hR (fun j hj=>?_) (fun v W' hR' hF'=>?_))
    ·simp only [Array.any_eq_true',Bool.and_eq_true,decide_eq_true_eq] at hj
     obtain ⟨e,he,hb,rfl⟩:=hj;have h1:=hafter e he hb
     have hle:e.on < i:=by
      have h1:=List.all_eq_true.1 hback i (List.mem_range.2 hin);simp only [ho',Option.map_some,Option.getD_some,Array.all_eq_true_iff_forall_mem] at h1;have h2:=h1 e he;simpa only [hb,Bool.not_true,Bool.false_or,decide_eq_true_eq] using h2
     have h4:e.on < listed.size:=by rw [inv.size];simp;omega
     exact hF e.on (by omega) (by simpa [h4] using h1)
    ·have hd:o.dst=(l[i]?).bind (·.dst):=by rw [ho'];rfl
     show wpAny P .any l.toArray Q (f+(l.length - n)) (listed.setIfInBounds i true) ((putsTo l vs a n).put o.dst v) W'
     rw [hd,putsTo_put v n vs hin (hdis n (by omega)) (fun m hm=>hdis m (by omega))];refine ih _ _ _ (inv.set hi hin) (by rw [getD_set_ne true (by omega)];exact hl0) ?_ (htrans _ _ _ hR hR') (fun j hj hl=>?_)
     ·have:=cntU_set hun n
      rw [if_pos hin] at this;omega
     ·by_cases e:j=i
      ·subst e;rw [if_pos rfl];exact hF'
      ·rw [if_neg e]
       rw [getD_set_ne true (fun h=>e h.symm)] at hl;exact hst j _ _ _ (hF j hj hl) hR'
 refine wp_region_any hm ?_
 have inv0:HeadInv .any l.toArray n (Array.replicate l.toArray.size false) :=
  ⟨by simp,fun j oj _ hl=>(by rw [getD_replicate_false] at hl;cases hl),fun t _ ht=>getD_in (by simpa using ht) (getD_replicate_false _ _)⟩
 have hcn:∀ m,m <= l.length -> cntU (Array.replicate l.toArray.size false) m=m:=by
  intro m
  induction m with
  | zero=>intro _;rfl
  | succ m ih =>
    intro hm
    unfold cntU;rw [ih (by omega)]
    have:(Array.replicate l.toArray.size false).getD m true=false:=by
     have:m < l.length:=by omega
     simp [this]
    rw [this];simp
 have ho0':l.toArray[0]?=some o0:=by simpa using ho0
 have hr0:(0:Nat) ∈ Region.ready .any l.toArray (Array.replicate l.toArray.size false):=by simpa using hrd
 have hu0:=(mem_ready.1 hr0).1;have hs1:l.toArray.size=(l.toArray.size - 1)+1:=by simp;omega
 rw [hs1,<- hs1];have hfree:∀ j oj,l.toArray[j]?=some oj -> j ≠ 0 -> (Array.replicate l.toArray.size false).getD j true=false -> (∀ e ∈ oj.after,Region.binds .any e=true -> e.on ≠ 0) -> o0.apart l.toArray oj=true:=Region.free_spec ho0' hfr
 have key1:=key (n - 1) ((Array.replicate l.toArray.size false).setIfInBounds 0 true) (fun j=>if j=0 then v0 else slotsOf l a j) w.drew (inv0.set hr0 (by omega)) (by
  have:0 < l.length:=by omega
  simp [this]) (by
  have h1:=cntU_set hu0 n;rw [if_pos (by omega),hcn n (by omega)] at h1;omega) (hrefl _) (fun j hj hl=>by
  by_cases e:j=0
  ·subst e
   show F 0 (if 0=0 then v0 else _) _
   rw [if_pos rfl];exact hF0 _
  ·rw [getD_set_ne true (fun h=>e h.symm)] at hl
   have h1:j < l.length:=by omega
   have:(Array.replicate l.toArray.size false).getD j true=false:=by simp [h1]
   rw [this] at hl;cases hl)
 have hput:putsTo l (fun j=>if j=0 then v0 else slotsOf l a j) a n=a.put o0.dst v0:=by
  have h1:=putsTo_put (l:=l) (a:=a) (i:=0) v0 n (slotsOf l a) (by omega) (hdis n (by omega)) (fun m hm=>hdis m (by omega));rw [putsTo_self] at h1;rw [<- h1,ho0];rfl
 rw [hput] at key1;rw [show n - 1+(l.length - n)=l.toArray.size - 1 by simp;omega] at key1;have:=wpAny_first (P:=P) (ops:=l.toArray) (Q:=Q) (md:=.any) ho0' (Region.noSelect_spec hsel) hQ (l.toArray.size - 1) (Array.replicate l.toArray.size false) a w.drew hfree hr0 hy0 key1
 rw [<- hs1] at this;exact this
end
end Go.Proofs.YtnmifekgdkgknaaGreatDoor
