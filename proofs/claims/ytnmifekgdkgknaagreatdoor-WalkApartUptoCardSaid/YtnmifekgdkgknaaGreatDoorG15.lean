/- Layer G: texts joined. -/
import Derived.Test.YtnmifekgdkgknaaGreatDoorG05
set_option linter.unusedVariables false
set_option linter.unusedSimpArgs false
set_option linter.unnecessarySimpa false
namespace Go.Proofs.YtnmifekgdkgknaaGreatDoor
open Go.RowKit
def updG (gs:Nat -> Nat × Nat) (i:Nat) (p:Nat × Nat) (j:Nat):Nat × Nat:=if j=i then p else gs j
def closedB (md:Region.Mode) (l:List Oper) (n:Nat) (D:Nat -> List Nat):Bool :=
 (List.range n).all fun i=>((l[i]?).map fun o=>(D i).all fun a=>decide (a=i) || o.after.any fun e=>Region.binds md e&&(D e.on).contains a).getD true
section
variable {P:Program}
theorem wp_region_table4 {id:Nat} {Q:Exit -> Act -> World -> Prop} {a:Act} {w:World} {l:List Oper} (n:Nat) (hm:P.follows .mixedOrders=true) (hB:tableB .any l n=true) (D:Nat -> List Nat) (hDB:closedB .any l n D=true)
 (R:World -> World -> Prop) (hrefl:∀ w,R w w) (htrans:∀ a b c,R a b -> R b c -> R a c) (hsz:∀ a b,R a b -> a.heap.size <= b.heap.size) (F:Nat -> Value -> (Nat -> Nat × Nat) -> World -> Prop) (hst:∀ j v gs W W',F j v gs W -> R W W' -> F j v gs W') (hloc:∀ j v gs gs' W,(∀ a,a ∈ D j -> gs a=gs' a) -> F j v gs W -> F j v gs' W)
 (hstep:∀ i o,i < n -> l[i]?=some o -> ∀ (vs:Nat -> Value) (gs:Nat -> Nat × Nat) (W:World) (Q':Exit -> Act -> World -> Prop),R w.drew W -> (∀ j,(o.after.any fun e=>Region.binds .any e&&decide (e.on=j))=true -> F j (vs j) gs W) →
   (∀ v W',R W W' -> F i v (updG gs i (W.heap.size,W'.heap.size)) W' -> Q' .normal ((putsTo l vs a n).put o.dst v) W') -> wpList P l.toArray Q' [o] (putsTo l vs a n) W)
 (htail:∀ (vs:Nat -> Value) (gs:Nat -> Nat × Nat) (W:World),R w.drew W -> (∀ j,j < n -> F j (vs j) gs W) -> (∀ j,j < n -> (gs j).2 <= W.heap.size) -> (∀ i j,i < n -> j < n -> i ≠ j -> (gs i).2 <= (gs j).1 \/ (gs j).2 <= (gs i).1) -> wpList P l.toArray Q (l.drop n) (putsTo l vs a n) W):(Code.region id l.toArray true).wp P Q a w:=by
 simp only [tableB,Bool.and_eq_true,decide_eq_true_eq,List.all_eq_true,List.mem_range] at hB;obtain ⟨⟨⟨⟨⟨hn,hs⟩,hc⟩,hback⟩,hdis⟩,hseq⟩:=hB
 have key:∀ (f:Nat) (listed:Array Bool) (vs:Nat -> Value) (gs:Nat -> Nat × Nat) (W:World),HeadInv .any l.toArray n listed -> cntU listed n=f -> R w.drew W -> (∀ j,j < n -> listed.getD j true=true -> F j (vs j) gs W) -> (∀ j,j < n -> listed.getD j true=true -> ∀ a,a ∈ D j -> listed.getD a true=true) -> (∀ j,j < n -> listed.getD j true=true -> (gs j).2 <= W.heap.size) -> (∀ i j,i < n -> j < n -> i ≠ j -> listed.getD i true=true -> listed.getD j true=true -> (gs i).2 <= (gs j).1 \/ (gs j).2 <= (gs i).1) →
  wpAny P .any l.toArray Q (f+(l.length - n)) listed (putsTo l vs a n) W:=by
  intro f
  induction f with
  | zero =>
    intro listed vs gs W inv hcnt hR hF hL hG hD
    have hall:=cntU_zero n hcnt
    have he:listed=listedTo n (l.length - n):=by
     apply Array.ext
     ·rw [inv.size];simp [listedTo];omega
     ·intro k h1 h2
      by_cases hk:k < n
      ·have:=hall k hk
       simp only [Array.getD,h1,dif_pos] at this;rw [show listed[k]=true from this];simp [listedTo,hk,List.getElem_append]
      ·have hk2:k < l.toArray.size:=by rw [<- inv.size];exact h1
       have:=inv.tail k (by omega) hk2
       simp only [Array.getD,h1,dif_pos] at this;rw [show listed[k]=false from this];simp [listedTo,hk,List.getElem_append]
    have h1:=htail vs gs W hR (fun j hj=>hF j hj (hall j hj)) (fun j hj=>hG j hj (hall j hj)) (fun i j hi hj hne=>hD i j hi hj hne (hall i hi) (hall j hj));have hdl:(l.drop n).length=l.length - n:=by simp
    have:=wpAny_of_seq (P:=P) (md:=.any) (ops:=l.toArray) (Q':=Q) (l.drop n) n listed (putsTo l vs a n) W (fun j=>by simp [List.getElem?_drop]) (by rw [hdl,he];exact hseq) h1
    rw [hdl] at this;rw [Nat.zero_add];exact this
  | succ f ih =>
    intro listed vs gs W inv hcnt hR hF hL hG hD
    obtain ⟨i0,hi0,hu0,hb0⟩:=cntU_first n (by omega:cntU listed n ≠ 0)
    have hr0:i0 ∈ Region.ready .any l.toArray listed:=by
     have hil:i0 < l.length:=by omega
     rw [mem_ready];refine ⟨hu0,l[i0],by simp [hil],fun e he hb=>?_⟩
     have h1:=List.all_eq_true.1 hback i0 (List.mem_range.2 hi0);simp only [List.getElem?_eq_getElem hil,Option.map_some,Option.getD_some,Array.all_eq_true_iff_forall_mem] at h1;have h2:=h1 e he;simp only [hb,Bool.not_true,Bool.false_or,decide_eq_true_eq] at h2;have h3:=hb0 e.on h2;have h4:e.on < listed.size:=by rw [inv.size];simp;omega
     simpa [h4] using h3
    rw [show f+1+(l.length - n)=(f+(l.length - n))+1 by omega];refine ⟨fun h0=>by rw [h0] at hr0;exact absurd hr0 (by simp),fun i hi=>?_⟩
    have hin:i < n:=by
     rcases Nat.lt_or_ge i n with h | h
     ·exact h
     ·exact absurd hi (tail_waits hs hc (by simpa using hn) inv _ i0 rfl hi0 hu0 i h)
    have hun:=(mem_ready.1 hi).1;obtain ⟨_,o,ho,hafter⟩:=mem_ready.1 hi;have ho':l[i]?=some o:=by simpa using ho
    refine wpOp_of_list ho (hstep i o hin ho' vs gs W _ hR (fun j hj=>?_) (fun v W' hR' hF'=>?_))
    ·simp only [Array.any_eq_true',Bool.and_eq_true,decide_eq_true_eq] at hj
     obtain ⟨e,he,hb,rfl⟩:=hj;have h1:=hafter e he hb
     have hle:e.on < i:=by
      have h1:=List.all_eq_true.1 hback i (List.mem_range.2 hin);simp only [ho',Option.map_some,Option.getD_some,Array.all_eq_true_iff_forall_mem] at h1;have h2:=h1 e he;simpa only [hb,Bool.not_true,Bool.false_or,decide_eq_true_eq] using h2
     have h4:e.on < listed.size:=by rw [inv.size];simp;omega
     exact hF e.on (by omega) (by simpa [h4] using h1)
    ·have hd:o.dst=(l[i]?).bind (·.dst):=by rw [ho'];rfl
     show wpAny P .any l.toArray Q (f+(l.length - n)) (listed.setIfInBounds i true) ((putsTo l vs a n).put o.dst v) W'
     rw [hd,putsTo_put v n vs hin (hdis n (by omega)) (fun m hm=>hdis m (by omega))];have hne0:∀ j,j < n -> listed.getD j true=true -> j ≠ i:=fun j hj hl e=>by subst e;rw [hun] at hl;cases hl
     refine ih _ _ (updG gs i (W.heap.size,W'.heap.size)) _ (inv.set hi hin) ?_ (htrans _ _ _ hR hR') (fun j hj hl=>?_) (fun j hj hl b hb=>?_) (fun j hj hl=>?_) (fun i1 j1 hi1 hj1 hne hl1 hl2=>?_)
     ·have:=cntU_set hun n
      rw [if_pos hin] at this;omega
     ·by_cases e:j=i
      ·subst e;rw [if_pos rfl];exact hF'
      ·rw [if_neg e]
       rw [getD_set_ne true (fun h=>e h.symm)] at hl;refine hloc _ _ gs _ _ (fun b hb=>?_) (hst j _ _ _ _ (hF j hj hl) hR')
       have h1:=hL j hj hl b hb;have h2:b ≠ i:=fun e=>by subst e;rw [hun] at h1;cases h1
       exact (if_neg h2).symm
     ·by_cases eb:b=i
      ·subst eb
       by_cases hs2:b < listed.size
       ·simp [hs2]
       ·simp [hs2]
      ·rw [getD_set_ne true (fun h=>eb h.symm)]
       by_cases e:j=i
       ·subst e
        have h1:=List.all_eq_true.1 hDB j (List.mem_range.2 hin);simp only [ho',Option.map_some,Option.getD_some,List.all_eq_true] at h1;have h2:=h1 b hb;simp only [Bool.or_eq_true,decide_eq_true_eq,Array.any_eq_true',Bool.and_eq_true,List.contains_iff_mem] at h2;rcases h2 with h2 | ⟨e,he,hbe,h3⟩
        ·exact absurd h2 eb
        ·have h4:=hafter e he hbe
         have hle:e.on < j:=by
          have h1:=List.all_eq_true.1 hback j (List.mem_range.2 hin);simp only [ho',Option.map_some,Option.getD_some,Array.all_eq_true_iff_forall_mem] at h1;have h2:=h1 e he;simpa only [hbe,Bool.not_true,Bool.false_or,decide_eq_true_eq] using h2
         have h5:e.on < listed.size:=by rw [inv.size];simp;omega
         exact hL e.on (by omega) (by simpa [h5] using h4) b h3
       ·rw [getD_set_ne true (fun h=>e h.symm)] at hl
        exact hL j hj hl b hb
     ·by_cases e:j=i
      ·subst e;unfold updG;rw [if_pos rfl];exact Nat.le_refl _
      ·rw [getD_set_ne true (fun h=>e h.symm)] at hl
       unfold updG;rw [if_neg e];exact Nat.le_trans (hG j hj hl) (hsz _ _ hR')
     ·by_cases e1:i1=i
      ·subst e1
       have e2:¬ j1=i1:=fun h=>hne h.symm
       rw [getD_set_ne true hne] at hl2;unfold updG;rw [if_pos rfl,if_neg e2];exact .inr (hG j1 hj1 hl2)
      ·rw [getD_set_ne true (fun h=>e1 h.symm)] at hl1
       by_cases e2:j1=i
       ·subst e2
        unfold updG;rw [if_pos rfl,if_neg e1];exact .inl (hG i1 hi1 hl1)
       ·rw [getD_set_ne true (fun h=>e2 h.symm)] at hl2
        unfold updG;rw [if_neg e1,if_neg e2];exact hD i1 j1 hi1 hj1 hne hl1 hl2
 refine wp_region_any hm ?_
 have inv0:HeadInv .any l.toArray n (Array.replicate l.toArray.size false) :=
  ⟨by simp,fun j oj _ hl=>(by rw [getD_replicate_false] at hl;cases hl),fun t _ ht=>getD_in (by simpa using ht) (getD_replicate_false _ _)⟩
 have hcn:∀ m,m <= l.length -> cntU (Array.replicate l.toArray.size false) m=m:=by
  intro m
  induction m with
  | zero=>intro _;rfl
  | succ m ih =>
    intro hm
    unfold cntU;rw [ih (by omega)]
    have:(Array.replicate l.toArray.size false).getD m true=false:=by
     have:m < l.length:=by omega
     simp [this]
    rw [this];simp
 have hno:∀ j,j < n -> (Array.replicate l.toArray.size false).getD j true=true -> False:=fun j hj hl=>by
  have h1:j < l.length:=by omega
  have:(Array.replicate l.toArray.size false).getD j true=false:=by simp [h1]
  rw [this] at hl;cases hl
 have:=key n (Array.replicate l.toArray.size false) (slotsOf l a) (fun _=>(0,0)) w.drew inv0 (hcn n (by omega)) (hrefl _) (fun j hj hl=>(hno j hj hl).elim) (fun j hj hl=>(hno j hj hl).elim) (fun j hj hl=>(hno j hj hl).elim) (fun i j hi hj _ hl _=>(hno i hi hl).elim)
 rw [putsTo_self l a n,show n+(l.length - n)=l.toArray.size by simp;omega] at this;exact this
end
end Go.Proofs.YtnmifekgdkgknaaGreatDoor
