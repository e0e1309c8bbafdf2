/- Layer K: texts joined. -/
import Derived.Test.YtfokdllgnblamaaGreatDoorK21
set_option linter.all false
namespace Go.Proofs.YtfokdllgnblamaaGreatDoor
open Go.RowKit
def zFz (gs:Nat -> Nat × Nat) (i:Nat) (p:Nat × Nat) (j:Nat):Nat × Nat:=if j=i then p else gs j
def zEr (md:Region.Mode) (l:List Oper) (n:Nat) (D:Nat -> List Nat):Bool :=
 (List.range n).all fun i=>((l[i]?).map fun o=>(D i).all fun a=>decide (a=i) || o.after.any fun e=>Region.binds md e&&(D e.on).contains a).getD true
def zL4 (md:Region.Mode) (ops:Array Oper) (n p:Nat):Bool :=
 (List.range n).all fun i=>decide (i=p) || (List.range (n+1)).any fun j=>decide (i < j)&&decide (j ≠ p)&&Region.waitsFor md ops j i
theorem zHp {md:Region.Mode} {ops:Array Oper} {n p:Nat} {listed:Array Bool} (hs:zL4 md ops n p=true) (hc:Region.chainB md ops n=true) (hn:n < ops.size) (inv:HeadInv md ops n listed) :
 ∀ (d i:Nat),n - i=d -> i ≠ p -> i < n -> listed.getD i true=false -> ∀ t,n <= t -> t ∉ Region.ready md ops listed:=by
 intro d
 induction d using Nat.strongRecOn with
 | _ d ih =>
   intro i hd hip hi hun t ht hr
   obtain ⟨_,ot,hot,hall⟩:=vJ.1 hr;have htlt:t < ops.size:=(Array.getElem?_eq_some_iff.1 hot).1;by_cases htn:t=n
   ·exact J24 _
   ·exact J27 _
def zEl (n g p:Nat):Array Bool:=(zn n g).setIfInBounds p false
def zHn (md:Region.Mode) (l:List Oper) (n p:Nat):Bool :=
 decide (n < l.length)&&zL4 md l.toArray n p&&Region.chainB md l.toArray n&&zJa md l n&&((List.range (n+1)).all fun m=>zCC l m)&&Region.seqB md l.toArray (l.length - n) n (zn n (l.length - n)) &&
  (decide (n <= p) || (Region.free md l.toArray (zEl n (l.length - n) p) p&&(Region.ready md l.toArray (zEl n (l.length - n) p)).contains p&&Region.noSelect l.toArray))
section
variable {P:Program}
theorem zMp {id:Nat} {Q:Exit -> Act -> World -> Prop} {a:Act} {w:World} {l:List Oper} (n p:Nat) (hm:P.follows .mixedOrders=true) (hB:zHn .any l n p=true) (D:Nat -> List Nat) (hDB:zEr .any l n D=true)
 (F:Nat -> Value -> (Nat -> Nat × Nat) -> World -> Prop) (hst:∀ j v gs W W',F j v gs W -> Keeps zA W W' -> F j v gs W') (hloc:∀ j v gs gs' W,(∀ a,a ∈ D j -> gs a=gs' a) -> F j v gs W -> F j v gs' W)
 (hp:p < n -> ∃ op,l[p]?=some op /\ (∀ c a w v,Q (.panic c) (a.put op.dst v) w -> Q (.panic c) a w) /\ ∀ (vs:Nat -> Value) gs W,Keeps zA w.drew W -> (∀ j,j < n -> j ≠ p -> F j (vs j) gs W) -> ∃ v,Yields P l.toArray op v (zJ l vs a n) /\ F p v (zFz gs p (W.heap.size,W.heap.size)) W)
 (hstep:∀ i o,i < n -> l[i]?=some o -> ∀ (vs:Nat -> Value) (gs:Nat -> Nat × Nat) (W:World) (Q':Exit -> Act -> World -> Prop),Keeps zA w.drew W -> (∀ e,e ∈ o.after.toList -> Region.binds .any e=true -> F e.on (vs e.on) gs W) →
   (∀ v W',Keeps zA W W' -> F i v (zFz gs i (W.heap.size,W'.heap.size)) W' -> Q' .normal ((zJ l vs a n).put o.dst v) W') -> wpList P l.toArray Q' [o] (zJ l vs a n) W)
 (htail:∀ (vs:Nat -> Value) (gs:Nat -> Nat × Nat) (W:World),Keeps zA w.drew W -> (∀ j,j < n -> F j (vs j) gs W) -> (∀ j,j < n -> (gs j).2 <= W.heap.size) -> (∀ i j,i < n -> j < n -> i ≠ j -> (gs i).2 <= (gs j).1 \/ (gs j).2 <= (gs i).1) -> wpList P l.toArray Q (l.drop n) (zJ l vs a n) W):(Code.region id l.toArray true).wp P Q a w:=by
 simp only [zHn,yT,kP,yU,xI,xW] at hB;obtain ⟨⟨⟨⟨⟨⟨hn,hs⟩,hc⟩,hback⟩,hdis⟩,hseq⟩,hpB⟩:=hB
 have key:∀ (f:Nat) (listed:Array Bool) (vs:Nat -> Value) (gs:Nat -> Nat × Nat) (W:World),HeadInv .any l.toArray n listed -> zBn listed n=f -> Keeps zA w.drew W -> (∀ j,j < n -> listed.getD j true=true -> F j (vs j) gs W) -> (∀ j,j < n -> listed.getD j true=true -> ∀ a,a ∈ D j -> listed.getD a true=true) -> (∀ j,j < n -> listed.getD j true=true -> (gs j).2 <= W.heap.size) -> (∀ i j,i < n -> j < n -> i ≠ j -> listed.getD i true=true -> listed.getD j true=true -> (gs i).2 <= (gs j).1 \/ (gs j).2 <= (gs i).1) →
  wpAny P .any l.toArray Q (f+(l.length - n)) listed (zJ l vs a n) W:=by
  intro f
  induction f with
  | zero =>
    intro listed vs gs W inv hcnt hR hF hL hG hD
    have hall:=zB8 n hcnt
    have he:listed=zn n (l.length - n):=by
     exact J9 _
    have h1:=htail vs gs W hR (fun j hj=>hF j hj (hall j hj)) (fun j hj=>hG j hj (hall j hj)) (fun i j hi hj hne=>hD i j hi hj hne (hall i hi) (hall j hj));have hdl:(l.drop n).length=l.length - n:=by simp
    have:=wpAny_of_seq (P:=P) (md:=.any) (ops:=l.toArray) (Q':=Q) (l.drop n) n listed (zJ l vs a n) W (fun j=>by simp [yl]) (by rw [hdl,he];exact hseq) h1
    rw [hdl] at this;rw [yZ];exact this
  | succ f ih =>
    intro listed vs gs W inv hcnt hR hF hL hG hD
    have hle:∀ {i o},i < n -> l[i]?=some o -> ∀ e,e ∈ o.after -> Region.binds .any e=true -> e.on < i:=fun {i o} hin ho' e he hb=>by
     have h1:=xI.1 hback i (xW.2 hin);simp only [ho',vU,yh,vG] at h1;have h2:=h1 e he;simpa only [hb,Bool.not_true,Bool.false_or,yU] using h2
    have adv:∀ i o v W',i ∈ Region.ready .any l.toArray listed -> i < n -> l[i]?=some o -> Keeps zA W W' -> F i v (zFz gs i (W.heap.size,W'.heap.size)) W' -> wpAny P .any l.toArray Q (f+(l.length - n)) (listed.setIfInBounds i true) ((zJ l vs a n).put o.dst v) W':=by
     intro i o v W' hi hin ho' hR' hF'
     have hun:=(vJ.1 hi).1;obtain ⟨_,o2,ho2,hafter⟩:=vJ.1 hi;have ho2':l[i]?=some o2:=by simpa using ho2
     have e2:o2=o:=yq (ho2'.symm.trans ho');subst e2;have hd:o2.dst=(l[i]?).bind (·.dst):=by rw [ho'];rfl
     rw [hd,zBT v n vs hin (hdis n (by omega)) (fun m hm=>hdis m (by omega))];refine ih _ _ (zFz gs i (W.heap.size,W'.heap.size)) _ (inv.set hi hin) ?_ (hR.trans hR' (fun _ _ h=>h.elim)) (fun j hj hl=>?_) (fun j hj hl b hb=>?_) (fun j hj hl=>?_) (fun i1 j1 hi1 hj1 hne hl1 hl2=>?_)
     ·exact J79 _
     ·exact J56 _
     ·by_cases eb:b=i
      ·subst eb
       by_cases hs2:b < listed.size
       ·simp [hs2]
       ·simp [hs2]
      ·rw [uL true (fun h=>eb h.symm)]
       by_cases e:j=i
       ·subst e
        have h1:=xI.1 hDB j (xW.2 hin);simp only [ho',vU,yh,xI] at h1;have h2:=h1 b hb;simp only [kP,yU,Array.any_eq_true',yT,List.contains_iff_mem] at h2;rcases h2 with h2 | ⟨e,he,hbe,h3⟩
        ·exact absurd h2 eb
        ·have h4:=hafter e he hbe
         have h6:=hle hin ho' e he hbe;exact J128 _
       ·rw [uL true (fun h=>e h.symm)] at hl
        exact hL j hj hl b hb
     ·by_cases e:j=i
      ·subst e;unfold zFz;rw [if_pos rfl];exact yV _
      ·rw [uL true (fun h=>e h.symm)] at hl
       unfold zFz;rw [if_neg e];exact yX (hG j hj hl) hR'.size
     ·by_cases e1:i1=i
      ·subst e1
       have e2:¬ j1=i1:=fun h=>hne h.symm
       rw [uL true hne] at hl2;unfold zFz;rw [if_pos rfl,if_neg e2];exact .inr (hG j1 hj1 hl2)
      ·rw [uL true (fun h=>e1 h.symm)] at hl1
       by_cases e2:j1=i
       ·subst e2
        unfold zFz;rw [if_pos rfl,if_neg e1];exact .inl (hG i1 hi1 hl1)
       ·rw [uL true (fun h=>e2 h.symm)] at hl2
        unfold zFz;rw [if_neg e1,if_neg e2];exact hD i1 j1 hi1 hj1 hne hl1 hl2
    rw [show f+1+(l.length - n)=(f+(l.length - n))+1 by omega];by_cases hall:∀ i,i < n -> i ≠ p -> listed.getD i true=true
    ·obtain ⟨i,hi1,hup,_⟩:=zBP n (by omega:zBn listed n ≠ 0)
     have ei:i=p:=vK fun ei=>by rw [hall i hi1 ei] at hup;cases hup
     subst ei;rcases hpB with hpB | ⟨⟨hfr,hrd⟩,hsel⟩
     ·omega
     have he:listed=zEl n (l.length - n) i:=by
      apply Array.ext
      ·rw [inv.size];simp [zEl,zn];omega
      ·intro k h1 h2
       unfold zEl;have hkl:k < l.toArray.size:=by rw [<- inv.size];exact h1
       by_cases hkp:k=i
       ·exact J81 _
       ·have hpk:¬ i=k:=fun e=>hkp e.symm
        by_cases hk:k < n
        ·have:=hall k hk hkp
         simp only [Array.getD,h1,dif_pos] at this;rw [show listed[k]=true from this];exact J76 _
        ·have:=inv.tail k (by omega) hkl
         simp only [Array.getD,h1,dif_pos] at this;rw [show listed[k]=false from this];exact J76 _
     have hrp:i ∈ Region.ready .any l.toArray listed:=by rw [he];simpa using hrd
     obtain ⟨op,hop,hQ,hy⟩:=hp hi1;obtain ⟨v,hyv,hFp⟩:=hy vs gs W hR (fun j hj hjp=>hF j hj (hall j hj hjp));have hop':l.toArray[i]?=some op:=by simpa using hop
     exact wpAny_first (P:=P) (ops:=l.toArray) (Q:=Q) (md:=.any) hop' (Region.noSelect_spec hsel) (fun c a w=>hQ c a w v) (f+(l.length - n)) listed (zJ l vs a n) W (by rw [he];exact Region.free_spec hop' hfr) hrp hyv (adv i op v W hrp hi1 hop (yC _ _) hFp)
    obtain ⟨iu,hiu,hiup,hiuu⟩:∃ i,i < n /\ i ≠ p /\ listed.getD i true=false:=vK fun hno=>hall fun i hi hip=>by
     exact J145 _
    obtain ⟨i0,hi0,hu0,hb0⟩:=zBP n (by omega:zBn listed n ≠ 0)
    have hr0:i0 ∈ Region.ready .any l.toArray listed:=by
     have hil:i0 < l.length:=by omega
     rw [vJ];refine ⟨hu0,l[i0],by simp [hil],fun e he hb=>?_⟩
     have h3:=hb0 e.on (hle hi0 (yQ hil) e he hb);have h2:=hle hi0 (yQ hil) e he hb;have h4:e.on < listed.size:=by rw [inv.size];simp;omega
     simpa [h4] using h3
    refine ⟨fun h0=>by exact J218 _,fun i hi=>?_⟩
    have hin:i < n:=by
     rcases xR i n with h | h
     ·exact h
     ·exact absurd hi (zHp hs hc (by simpa using hn) inv _ iu rfl hiup hiu hiuu i h)
    obtain ⟨_,o,ho,hafter⟩:=vJ.1 hi;have ho':l[i]?=some o:=by simpa using ho
    refine zBv ho (hstep i o hin ho' vs gs W _ hR (fun e he hb=>?_) (fun v W' hR' hF'=>adv i o v W' hi hin ho' hR' hF'))
    have he:e ∈ o.after:=by simpa using he
    have h1:=hafter e he hb;have h2:=hle hin ho' e he hb;have h4:e.on < listed.size:=by rw [inv.size];simp;omega
    exact hF e.on (by omega) (by simpa [h4] using h1)
 refine wp_region_any hm ?_
 have inv0:HeadInv .any l.toArray n (Array.replicate l.toArray.size false) :=
  ⟨by simp,fun j oj _ hl=>(J220 _),fun t _ ht=>getD_in (by simpa using ht) (vQ _ _)⟩
 have hz:∀ m,m < l.length -> (Array.replicate l.toArray.size false).getD m true=false:=fun m hm=>by simp [hm]
 have hcn:∀ m,m <= l.length -> zBn (Array.replicate l.toArray.size false) m=m:=by
  intro m
  induction m with
  | zero=>intro _;rfl
  | succ m ih =>
    intro hm
    unfold zBn;rw [ih (by omega),hz m (by omega)];simp
 have hno:∀ j,j < n -> (Array.replicate l.toArray.size false).getD j true=true -> False:=fun j hj hl=>by
  rw [hz j (by omega)] at hl;cases hl
 have:=key n (Array.replicate l.toArray.size false) (slotsOf l a) (fun _=>(0,0)) w.drew inv0 (hcn n (by omega)) (yC _ _) (fun j hj hl=>(hno j hj hl).elim) (fun j hj hl=>(hno j hj hl).elim) (fun j hj hl=>(hno j hj hl).elim) (fun i j hi hj _ hl _=>(hno i hi hl).elim)
 rw [zBs l a n,show n+(l.length - n)=l.toArray.size by simp;omega] at this;exact this
end
theorem tz {α:Type}:(∀ (a:α) l,(a :: l)[0]?=some a) /\ (∀ (a:α) l i,(a :: l)[i+1]?=l[i]?) /\ (∀ (a b:α) l,(a :: l).set 0 b=b :: l) /\ (∀ (a b:α) l i,(a :: l).set (i+1) b=a :: l.set i b) /\ (∀ (l:List α) i a,l.toArray.setIfInBounds i a=(l.set i a).toArray) ∧
 (∀ l:List α,l.toArray.toList=l) /\ (∀ (a:α) l i,(a :: l).drop (i+1)=l.drop i) /\ (∀ l:List α,l.drop 0=l):=by simp
abbrev Gh:=Nat -> Nat × Nat
def zCi (L:List (Option Value)) (Sp:Nat -> Value -> Gh -> World -> Prop) (gs:Gh) (W:World) (j:Nat) (v:Value):Prop :=
 match L[j]? with
 | some (some u)=>v=u
 | _=>Sp j v gs W
def zEU (L:List (Option Value)) (Sp:Nat -> Value -> Gh -> World -> Prop) (vs:Nat -> Value) (gs:Gh) (W:World):List Edge -> Prop
 | []=>True
 | e :: es=>(match e.ground with
   | .textOnly _=>True
   | .gcOnly _=>True
   | _=>zCi L Sp gs W e.on (vs e.on)) /\ zEU L Sp vs gs W es
def zGO (Sp:Nat -> Value -> Gh -> World -> Prop) (gs:Gh) (i:Nat) (W:World) (K:Value -> World -> Prop):Option Value -> Prop
 | some u=>∀ v W',Keeps zA W W' -> v=u -> K v W'
 | none=>∀ v W',Keeps zA W W' -> Sp i v (zFz gs i (W.heap.size,W'.heap.size)) W' -> K v W'
section
variable {P:Program}
def zIG (P:Program) (l:List Oper) (a:Act) (w:World) (n:Nat) (L:List (Option Value)) (Sp:Nat -> Value -> Gh -> World -> Prop):Nat -> List Oper -> List (Option Value) -> Prop
 | i,o :: os,x :: xs=>(∀ (vs:Nat -> Value) (gs:Gh) (W:World) (Q':Exit -> Act -> World -> Prop),Keeps zA w.drew W -> zEU L Sp vs gs W o.after.toList →
    zGO Sp gs i W (fun v W'=>Q' .normal ((zJ l vs a n).put o.dst v) W') x -> wpList P l.toArray Q' [o] (zJ l vs a n) W) /\ zIG P l a w n L Sp (i+1) os xs
 | _,_,_=>True
theorem zIG.get {l:List Oper} {a:Act} {w:World} {n:Nat} {L:List (Option Value)} {Sp:Nat -> Value -> Gh -> World -> Prop}:∀ (os:List Oper) (xs:List (Option Value)) (k:Nat),zIG P l a w n L Sp k os xs -> ∀ i o x,os[i]?=some o -> xs[i]?=some x →
 ∀ (vs:Nat -> Value) (gs:Gh) (W:World) (Q':Exit -> Act -> World -> Prop),Keeps zA w.drew W -> zEU L Sp vs gs W o.after.toList -> zGO Sp gs (k+i) W (fun v W'=>Q' .normal ((zJ l vs a n).put o.dst v) W') x -> wpList P l.toArray Q' [o] (zJ l vs a n) W
 | [],_,_,_,i,o,x,h,_=>by simp at h
 | _ :: _,[],_,_,i,o,x,_,h=>by simp at h
 | o' :: os,x' :: xs,k,hr,0,o,x,h1,h2=>by
   obtain rfl:o'=o:=by simpa using h1
   obtain rfl:x'=x:=by simpa using h2
   exact hr.1
 | o' :: os,x' :: xs,k,hr,i+1,o,x,h1,h2=>by
   have:=zIG.get os xs (k+1) hr.2 i o x (by simpa using h1) (by simpa using h2)
   rw [show k+(i+1)=k+1+i by omega];exact this
theorem zEU.of {L:List (Option Value)} {Sp:Nat -> Value -> Gh -> World -> Prop} {vs:Nat -> Value} {gs:Gh} {W:World}:∀ es:List Edge,(∀ e,e ∈ es -> Region.binds .any e=true -> zCi L Sp gs W e.on (vs e.on)) -> zEU L Sp vs gs W es
 | [],_=>trivial
 | e :: es,h=>by
   refine ⟨?_,zEU.of es fun x hx=>h x (.tail _ hx)⟩
   have h0:=h e (.head _);unfold Region.binds at h0;split
   ·trivial
   ·trivial
   ·rename_i h1 h2
    refine h0 ?_
    split
    ·rename_i g hg;exact absurd hg (h1 _)
    ·rename_i g hg;exact absurd hg (h2 _)
    ·rfl
theorem zJU {id:Nat} {Q:Exit -> Act -> World -> Prop} {a:Act} {w:World} {l:List Oper} (n p:Nat) (D:Nat -> List Nat) (hm:P.follows .mixedOrders=true) (hB:zHn .any l n p=true) (hDB:zEr .any l n D=true) (L:List (Option Value)) (hL:L.length=n) (Sp:Nat -> Value -> Gh -> World -> Prop)
 (hst:∀ j v gs W W',Sp j v gs W -> Keeps zA W W' -> Sp j v gs W') (hloc:∀ j v gs gs' W,(∀ a,a ∈ D j -> gs a=gs' a) -> Sp j v gs W -> Sp j v gs' W)
 (hp:p < n -> ∃ op,l[p]?=some op /\ (∀ c a w v,Q (.panic c) (a.put op.dst v) w -> Q (.panic c) a w) /\ ∀ (vs:Nat -> Value) gs W,Keeps zA w.drew W -> (∀ j,j < n -> j ≠ p -> zCi L Sp gs W j (vs j)) -> ∃ v,Yields P l.toArray op v (zJ l vs a n) /\ zCi L Sp (zFz gs p (W.heap.size,W.heap.size)) W p v)
 (hrow:zIG P l a w n L Sp 0 l L)
 (htail:∀ (vs:Nat -> Value) (gs:Gh) (W:World),Keeps zA w.drew W -> (∀ j,j < n -> zCi L Sp gs W j (vs j)) -> (∀ j,j < n -> (gs j).2 <= W.heap.size) -> (∀ i j,i < n -> j < n -> i ≠ j -> (gs i).2 <= (gs j).1 \/ (gs j).2 <= (gs i).1) -> wpList P l.toArray Q (l.drop n) (zJ l vs a n) W):(Code.region id l.toArray true).wp P Q a w:=by
 refine zMp n p hm hB D hDB (fun j v gs W=>zCi L Sp gs W j v) (fun j v gs W W' h hk=>?_) (fun j v gs gs' W hg h=>?_) hp (fun i o hi ho vs gs W Q' hR hd hK=>?_) htail
 ·unfold zCi at *
  split at h
  ·exact h
  ·exact hst _ _ _ _ _ h hk
 ·unfold zCi at *
  split at h
  ·exact h
  ·exact hloc _ _ _ _ _ hg h
 ·have hx:L[i]?=some L[i]:=yQ (by omega)
  have h:=zIG.get l L 0 hrow i o _ ho hx vs gs W Q' hR (zEU.of _ hd);rw [yZ] at h;refine h ?_
  revert hx
  generalize L[i]=x;intro hx
  cases x with
  | some u=>exact fun v W' hk e=>hK v W' hk (by unfold zCi;rw [hx];exact e)
  | none=>exact fun v W' hk hs=>hK v W' hk (by unfold zCi;rw [hx];exact hs)
end
theorem zFv {id:Nat} {Q:Exit -> Act -> World -> Prop} {a:Act} {w:World} {l:List Oper} (n:Nat) (hB:zHn .any l n (n+1)=true) (L:List (Option Value)) (hL:L.length=n) (Sp:Nat -> Value -> World -> Prop)
 (hst:∀ j v W W',Sp j v W -> Keeps zA W W' -> Sp j v W') (hrow:zIG Tryz.prog l a w n L (fun j v _ W=>Sp j v W) 0 l L)
 (htail:∀ (vs:Nat -> Value) (W:World),Keeps zA w.drew W -> (∀ j,j < n -> zCi L (fun j v _ W=>Sp j v W) (fun _=>(0,0)) W j (vs j)) -> wpList Tryz.prog l.toArray Q (l.drop n) (zJ l vs a n) W):(Code.region id l.toArray true).wp Tryz.prog Q a w:=by
 refine zJU n (n+1) (fun _=>[]) (by kernel_rfl) hB ?_ L hL _ (fun j v _ W W'=>hst j v W W') (fun _ _ _ _ _ _ h=>h) (fun h=>absurd h (by omega)) hrow (fun vs gs W hR hF _ _=>htail vs W hR hF)
 unfold zEr;simp only [xI];intro i _
 cases l[i]? <;> rfl
theorem zHh {id:Nat} {Q:Exit -> Act -> World -> Prop} {a:Act} {w:World} {l:List Oper} (n p:Nat) (hB:zHn .any l n p=true) (L:List (Option Value)) (hL:L.length=n) (Sp:Nat -> Value -> World -> Prop)
 (hst:∀ j v W W',Sp j v W -> Keeps zA W W' -> Sp j v W') (op:Oper) (hop:l[p]?=some op) (hQ:∀ c a w v,Q (.panic c) (a.put op.dst v) w -> Q (.panic c) a w) (u:Value) (hu:L[p]?=some (some u))
 (hy:∀ (vs:Nat -> Value) W,(∀ j,j < n -> j ≠ p -> zCi L (fun j v _ W=>Sp j v W) (fun _=>(0,0)) W j (vs j)) -> Yields Tryz.prog l.toArray op u (zJ l vs a n)) (hrow:zIG Tryz.prog l a w n L (fun j v _ W=>Sp j v W) 0 l L)
 (htail:∀ (vs:Nat -> Value) (W:World),Keeps zA w.drew W -> (∀ j,j < n -> zCi L (fun j v _ W=>Sp j v W) (fun _=>(0,0)) W j (vs j)) -> wpList Tryz.prog l.toArray Q (l.drop n) (zJ l vs a n) W):(Code.region id l.toArray true).wp Tryz.prog Q a w:=by
 refine zJU n p (fun _=>[]) (by kernel_rfl) hB ?_ L hL _ (fun j v _ W W'=>hst j v W W') (fun _ _ _ _ _ _ h=>h) (fun _=>⟨op,hop,hQ,fun vs gs W _ h=>⟨u,hy vs W h,by unfold zCi;rw [hu]⟩⟩) hrow (fun vs gs W hR hF _ _=>htail vs W hR hF)
 unfold zEr;simp only [xI];intro i _
 cases l[i]? <;> rfl
def ints (xs:List Int):List Value:=xs.map (Value.int .i64)
theorem zAE (xs:List Int):(ints xs).length=xs.length:=by simp [ints]
theorem zu (xs:List Int) (k:Nat) (hk:k < xs.length):(ints xs)[k]?=some (.int .i64 (xs.getD k 0)):=by simp [ints,List.getD,hk]
theorem ints_set (xs:List Int) (k:Nat) (u:Int):(ints xs).set k (.int .i64 u)=ints (xs.set k u):=by simp [ints,List.map_set]
abbrev Ret (w:World) (f:FuncId) (a:Array Value) (v:Value):Prop:=Hid (∀ W,Keeps zA w W -> Calls Tryz.prog f a W fun e w'=>e=.returned v /\ Keeps zA W w')
theorem Ret.call {w W:World} {f:FuncId} {a:Array Value} {v:Value} {Q:Ending -> World -> Prop} (H:Ret w f a v) (K:Keeps zA w W) (h:∀ w',Keeps zA w w' -> Keeps zA W w' -> Q (.returned v) w'):Calls Tryz.prog f a W Q :=
 (H.out W K).mono fun e w' ⟨he,hk⟩=>by rw [he];exact h w' (K.zB hk) hk
theorem newRow (w:World) (cs:List Value) (t:TypeId):∃ b w1,w.heap.size=b /\ w.alloc (.cells cs.toArray t)=w1 /\ zC w1 b cs /\ Keeps zA w w1 /\ Hid (w1.heap.size=b+1) :=
 ⟨_,_,rfl,rfl,yN (yK w _),(yC _ _).alloc _,by show _=_;simp⟩
namespace zC
variable {w:World} {g:Nat} {a b c d e f h i j k:Value}
theorem all2 (r:zC w g [a,b]):∀ W,Keeps zA w W -> W.cell? ⟨g,0,none⟩=some a /\ W.cell? ⟨g,1,none⟩=some b:=fun W q=>⟨(r.keeps q (fun h=>h)).cell (k:=0) rfl,(r.keeps q (fun h=>h)).cell (k:=1) rfl⟩
theorem zB5 (r:zC w g [a,b,c]):∀ W,Keeps zA w W -> W.cell? ⟨g,0,none⟩=some a /\ W.cell? ⟨g,1,none⟩=some b /\ W.cell? ⟨g,2,none⟩=some c:=fun W q=>(r.keeps q (fun h=>h)).three
theorem zB0 (r:zC w g [a,b,c,d]):∀ W,Keeps zA w W -> W.cell? ⟨g,0,none⟩=some a /\ W.cell? ⟨g,1,none⟩=some b /\ W.cell? ⟨g,2,none⟩=some c /\ W.cell? ⟨g,3,none⟩=some d:=fun W q=>(r.keeps q (fun h=>h)).four
theorem zAI (r:zC w g [a,b,c,d,e,f,h,i,j,k]):∀ W,Keeps zA w W -> W.cell? ⟨g,0,none⟩=some a /\ W.cell? ⟨g,1,none⟩=some b /\ W.cell? ⟨g,2,none⟩=some c /\ W.cell? ⟨g,3,none⟩=some d /\ W.cell? ⟨g,4,none⟩=some e /\ W.cell? ⟨g,5,none⟩=some f /\ W.cell? ⟨g,6,none⟩=some h /\ W.cell? ⟨g,7,none⟩=some i /\ W.cell? ⟨g,8,none⟩=some j /\ W.cell? ⟨g,9,none⟩=some k:=fun W q=>(r.keeps q (fun h=>h)).ten
end zC
theorem zV {w:World} {p:Addr} {v:Value} (h:w.cell? p=some v):∀ W,Keeps zA w W -> W.cell? p=some v:=fun W q=>q.cell (fun h=>h) h
theorem zH (w:World):Keeps zA w w:=yC _ _
inductive WTg where
 | mach | cells | owners | zM
 | regs (i:Nat) | fs (i:Nat)
deriving DecidableEq
abbrev zS:=Nat -> Option (Nat × WTg)
def zAh (T:zS) (id:Nat) (k:Nat):Prop:=∃ t,T k=some (id,t)
def zCj (T:zS) (id:Nat) (k:Nat):Prop:=T k=some (id, .zM) \/ ∃ i,T k=some (id, .regs i) \/ T k=some (id, .fs i)
theorem zCj.own {T:zS} {id k:Nat} (h:zCj T id k):zAh T id k:=by
 rcases h with h | ⟨i,h | h⟩ <;> exact ⟨_,h⟩
structure zFH (w:World) (T:zS) (F:Nat -> Prop):Prop where
 ok:∀ k x,T k=some x -> k < w.heap.size
 sep:∀ k,F k -> T k=none
 low:∀ k,F k -> k < w.heap.size
theorem zFH.keeps {S:Nat -> Prop} {w w':World} {T:zS} {F:Nat -> Prop} (h:zFH w T F) (hk:Keeps S w w'):zFH w' T F :=
 ⟨fun k x e=>yI (h.ok k x e) hk.size,h.sep,fun k hF=>yI (h.low k hF) hk.size⟩
def zAG (T T':zS) (id:Nat) (w:World):Prop:=(∀ k y,T k=some y -> T' k=some y) /\ ∀ k y,T' k=some y -> T k=some y \/ (w.heap.size <= k /\ y.1=id)
theorem zAG.refl (T:zS) (id:Nat) (w:World):zAG T T id w:=⟨fun _ _ h=>h,fun _ _ h=>.inl h⟩
theorem zAG.trans {T1 T2 T3:zS} {id:Nat} {w w':World} (h:zAG T1 T2 id w) (h':zAG T2 T3 id w') (hs:w.heap.size <= w'.heap.size):zAG T1 T3 id w :=
 ⟨fun k y e=>h'.1 k y (h.1 k y e),fun k y e=>by
  rcases h'.2 k y e with h1 | h1
  ·exact h.2 k y h1
  ·exact .inr ⟨yX hs h1.1,h1.2⟩⟩
theorem zAG.none {T T':zS} {id:Nat} {w:World} (h:zAG T T' id w) {k:Nat} (h1:T k=none) (h2:k < w.heap.size):T' k=none:=by
 cases e:T' k with
 | none=>rfl
 | some y =>
   rcases h.2 k y e with h3 | h3
   ·rw [h1] at h3;cases h3
   ·omega
theorem zAG.own {T T':zS} {id:Nat} {w:World} (h:zAG T T' id w) {k i:Nat} (hk:zAh T' i k) (h2:k < w.heap.size):zAh T i k:=by
 obtain ⟨t,e⟩:=hk;rcases h.2 k _ e with h3 | h3
 ·exact ⟨t,h3⟩
 ·omega
def zCk (T:zS) (id:Nat) (t:WTg) (g:Nat):zS:=fun q=>if q=g then some (id,t) else T q
theorem zCG {T:zS} {id:Nat} {t:WTg} {g:Nat} {w:World} (h:T g=some (id,t) \/ (T g=none /\ w.heap.size <= g)):zAG T (zCk T id t g) id w:=by
 refine ⟨fun k y e=>?_,fun k y e=>?_⟩
 ·unfold zCk
  by_cases hk:k=g
  ·subst hk
   rw [if_pos rfl];rcases h with h | h
   ·rw [<- e,h]
   ·rw [h.1] at e;cases e
  ·rw [if_neg hk];exact e
 ·unfold zCk at e
  by_cases hk:k=g
  ·subst hk
   rw [if_pos rfl] at e;cases e;rcases h with h | h
   ·exact .inl h
   ·exact .inr ⟨h.2,rfl⟩
  ·rw [if_neg hk] at e;exact .inl e
theorem zCZ (T:zS) (id:Nat) (t:WTg) (g:Nat):zCk T id t g g=some (id,t):=if_pos rfl
theorem zFH.tag {w:World} {T:zS} {F:Nat -> Prop} (h:zFH w T F) {id:Nat} {t:WTg} {g:Nat} (hg:g < w.heap.size) (hF:¬ F g):zFH w (zCk T id t g) F:=by
 refine ⟨fun k x e=>?_,fun k hk=>?_,h.low⟩
 ·unfold zCk at e
  by_cases hk:k=g
  ·subst hk;exact hg
  ·rw [if_neg hk] at e;exact h.ok k x e
 ·unfold zCk
  rw [if_neg (fun e=>hF (by rw [<- e];exact hk))];exact h.sep k hk
theorem zFH.free {w:World} {T:zS} {F:Nat -> Prop} (h:zFH w T F) {g:Nat} (hg:w.heap.size <= g):T g=none /\ ¬ F g:=by
 refine ⟨?_,fun hF=>by have:=h.low g hF;omega⟩
 cases e:T g with
 | none=>rfl
 | some y=>have:=h.ok g y e;omega
def zBQ (w:World) (T:zS) (id:Nat) (t:WTg) (v:Value) (xs:List Int):Prop :=
 ∃ ad cap,v=.slice ad xs.length cap /\ (xs ≠ [] -> ∃ g,ad=some ⟨g,0,none⟩ /\ T g=some (id,t) /\ zC w g (ints xs))
section
variable {S:Nat -> Prop} {w w':World} {T T':zS} {id:Nat} {t:WTg} {v:Value} {xs:List Int}
theorem zBQ.keeps (h:zBQ w T id t v xs) (hk:Keeps S w w') (hS:∀ k,T k=some (id,t) -> ¬ S k):zBQ w' T id t v xs:=by
 obtain ⟨ad,cap,e,h1⟩:=h;refine ⟨ad,cap,e,fun hn=>?_⟩
 obtain ⟨g,e1,e2,e3⟩:=h1 hn;exact ⟨g,e1,e2,e3.keeps hk (hS g e2)⟩
theorem zBQ.ext (h:zBQ w T id t v xs) (hx:∀ k y,T k=some y -> T' k=some y):zBQ w T' id t v xs:=by
 obtain ⟨ad,cap,e,h1⟩:=h;refine ⟨ad,cap,e,fun hn=>?_⟩
 obtain ⟨g,e1,e2,e3⟩:=h1 hn;exact ⟨g,e1,hx _ _ e2,e3⟩
theorem zBQ.at (h:zBQ w T id t v xs) {k:Nat} (hk:k < xs.length):∃ g cap,v=.slice (some ⟨g,0,none⟩) xs.length cap /\ T g=some (id,t) /\ zC w g (ints xs):=by
 obtain ⟨ad,cap,e,h1⟩:=h;obtain ⟨g,e1,e2,e3⟩:=h1 (fun e=>by rw [e] at hk;simp at hk);subst e1;exact ⟨g,cap,e,e2,e3⟩
theorem zBQ.set {g cap:Nat} (hT:T g=some (id,t)) (h:zC w g (ints xs)) (k:Nat) (hk:k < xs.length) (u:Int) :
 zBQ (w.setCell ⟨g,k,none⟩ (.int .i64 u)) T id t (.slice (some ⟨g,0,none⟩) xs.length cap) (xs.set k u):=by
 have:=h.set k (by rw [zAE];exact hk) (.int .i64 u)
 rw [ints_set] at this;exact ⟨_,cap,by rw [uU],fun _=>⟨g,rfl,hT,this⟩⟩
theorem zBQ.src (h:zBQ w T id t v xs):zAD w v xs.length (ints xs):=by
 obtain ⟨ad,cap,e,h1⟩:=h;refine ⟨ad,cap,e,fun hn=>?_⟩
 obtain ⟨g,e1,_,e3⟩:=h1 (fun e=>by rw [e] at hn;exact hn rfl);exact ⟨g,0,e1,e3.rng⟩
theorem zBQ.of {e:TypeId} {base:Nat} (h:w.ownsRow base e 1 v xs.length (ints xs)) (hT:∀ kb,v.ownBlock=some kb -> T kb=some (id,t)) (hv:∃ ad cap,v=.slice ad xs.length cap):zBQ w T id t v xs:=by
 obtain ⟨ad,cap,rfl⟩:=hv;refine ⟨ad,cap,rfl,fun hn=>?_⟩
 rcases h.2 with ⟨_,h1⟩ | ⟨g,c,cur,h1,_⟩
 ·exact absurd (List.eq_nil_of_length_eq_zero h1) hn
 ·simp only [uJ] at h1
  obtain ⟨rfl,_,rfl⟩:=h1;exact ⟨g,rfl,hT g rfl,uC h⟩
end
section
variable (R:zBA WFr) (sz:Nat) (ty:TypeId)
def zBV (w:World) (T:zS) (F:Nat -> Prop) (id i:Nat) (v:Value) (fs:List WFr):Prop :=
 ∃ css:List (List Value),css.length=fs.length /\ w.ownsRow 0 ty sz v fs.length css.flatten /\ (∀ kb,v.ownBlock=some kb -> T kb=some (id, .fs i)) /\ (∃ ad cap,v=.slice ad fs.length cap) ∧
   ∀ (j:Nat) (f:WFr) (cs:List Value),fs[j]?=some f -> css[j]?=some cs -> R w F f cs
structure HTh where
 st:Int
 rv:Value
 fv:Value
def HTh.cells (h:HTh):List Value:=[.int .i64 h.st,h.rv,h.fv]
theorem zD1 (h:HTh):h.cells.length=3:=rfl
def zAO (H:List HTh):List Value:=H.flatMap HTh.cells
structure zAV (w:World) (T:zS) (F:Nat -> Prop) (id g:Nat) (H:List HTh) (zM:List WTh):Prop where
 tag:T g=some (id, .zM)
 sep:zFH w T F
 row:zC w g (zAO H)
 len:H.length=zM.length
 each:∀ i h t,H[i]?=some h -> zM[i]?=some t -> h.st=t.st /\ zBQ w T id (.regs i) h.rv t.regs /\ zBV R sz ty w T F id i h.fv t.fs
end
section
variable {R:zBA WFr} {sz:Nat} {ty:TypeId} (L:zAX R sz)
include L
variable {S:Nat -> Prop} {w w':World} {T T':zS} {F:Nat -> Prop} {id i g:Nat} {v:Value} {fs:List WFr} {H:List HTh} {zM:List WTh}
theorem zBV.keeps (h:zBV R sz ty w T F id i v fs) (hk:Keeps S w w') (hS:∀ k,T k=some (id, .fs i) -> ¬ S k) (hF:∀ k,F k -> ¬ S k):zBV R sz ty w' T F id i v fs:=by
 obtain ⟨css,h1,h2,h3,h4,h5⟩:=h;exact ⟨css,h1,zG h2 hk (fun k e=>hS k (h3 k e)),h3,h4,fun j f cs e1 e2=>L.keeps (h5 j f cs e1 e2) hk hF⟩
theorem zAV.keeps (h:zAV R sz ty w T F id g H zM) (hk:Keeps S w w') (hS:∀ k,zCj T id k \/ F k -> ¬ S k):zAV R sz ty w' T F id g H zM :=
 ⟨h.tag,h.sep.keeps hk,h.row.keeps hk (hS g (.inl (.inl h.tag))),h.len,fun i a t e1 e2=>by
  obtain ⟨h1,h2,h3⟩:=h.each i a t e1 e2;exact ⟨h1,h2.keeps hk (fun k e=>hS k (.inl (.inr ⟨i, .inl e⟩))),zBV.keeps L h3 hk (fun k e=>hS k (.inl (.inr ⟨i, .inr e⟩))) (fun k e=>hS k (.inr e))⟩⟩
end
section
variable {R:zBA WFr} {sz:Nat} {ty:TypeId} {w w':World} {T T':zS} {F:Nat -> Prop} {id i g:Nat} {v:Value} {fs:List WFr} {H:List HTh} {zM:List WTh}
theorem zBV.ext (h:zBV R sz ty w T F id i v fs) (hx:∀ k y,T k=some y -> T' k=some y):zBV R sz ty w T' F id i v fs:=by
 obtain ⟨css,h1,h2,h3,h4,h5⟩:=h;exact ⟨css,h1,h2,fun k e=>hx _ _ (h3 k e),h4,h5⟩
theorem zAV.get (h:zAV R sz ty w T F id g H zM) {t:WTh} (ht:zM[i]?=some t):∃ rv fv,H[i]?=some ⟨t.st,rv,fv⟩ /\ zBQ w T id (.regs i) rv t.regs /\ zBV R sz ty w T F id i fv t.fs:=by
 have hi:i < zM.length:=(yP.1 ht).1;have hi':i < H.length:=by rw [h.len];exact hi
 have hH:H[i]?=some H[i]:=yQ hi';obtain ⟨e1,e2,e3⟩:=h.each i _ t hH ht;exact ⟨H[i].rv,H[i].fv,by rw [hH,<- e1],e2,e3⟩
theorem zHe {a:HTh} (hr:zC w g (zAO H)) (ha:H[i]?=some a) (j:Nat) {u:Value} (hu:a.cells[j]?=some u):w.cell? ⟨g,i*3+j,none⟩=some u:=by
 refine hr.cell ?_
 have hj:j < 3:=(yP.1 hu).1;show (H.flatMap HTh.cells)[i*3+j]?=_
 rw [zDz _ 3 zD1 H i j hj,ha];exact hu
theorem zCt (hr:zC w g (zAO H)) (hi:i < H.length) (j:Nat) (hj:j < 3):w.frozen? ⟨g,i*3+j,none⟩=false :=
 hr.free (by unfold zAO;rw [zBw _ 3 zD1];omega)
theorem zAA (hr:zC w g (zAO H)) {a:HTh} (ha:H[i]?=some a):w.cell? ⟨g,i*3,none⟩=some (.int .i64 a.st) /\ w.cell? ⟨g,i*3+1,none⟩=some a.rv /\ w.cell? ⟨g,i*3+2,none⟩=some a.fv :=
 ⟨zHe hr ha 0 rfl,zHe hr ha 1 rfl,zHe hr ha 2 rfl⟩
theorem zDK (hr:zC w g (zAO H)) {a:HTh} (ha:H[i]?=some a) (j:Nat) (hj:j < 3) (u:Value) (a':HTh) (hc:a'.cells=a.cells.set j u):zC (w.setCell ⟨g,i*3+j,none⟩ u) g (zAO (H.set i a')):=by
 have:=hr.set (i*3+j) (by unfold zAO;rw [zBw _ 3 zD1];have:=(yP.1 ha).1;omega) u
 have e:(zAO H).set (i*3+j) u=zAO (H.set i a'):=zK2 _ 3 zD1 H i j hj u a a' ha hc;rwa [e] at this
theorem zAV.upd (L:zAX R sz) (h:zAV R sz ty w T F id g H zM) (hx:zAG T T' id w) (hsep:zFH w' T' F) (hk:Keeps (fun k=>k=g \/ T k=some (id, .regs i) \/ T k=some (id, .fs i)) w w') {a':HTh} {t':WTh}
 (hr:zC w' g (zAO (H.set i a'))) (h1:a'.st=t'.st) (h2:zBQ w' T' id (.regs i) a'.rv t'.regs) (h3:zBV R sz ty w' T' F id i a'.fv t'.fs):zAV R sz ty w' T' F id g (H.set i a') (zM.set i t'):=by
 refine ⟨hx.1 _ _ h.tag,hsep,hr,by simp [h.len],fun k b t hb ht=>?_⟩
 by_cases e:i=k
 ·subst e
  rw [List.getElem?_set_self'] at hb ht;obtain ⟨b0,hb0,rfl⟩:=vX.1 hb;obtain ⟨t0,ht0,rfl⟩:=vX.1 ht;exact ⟨h1,h2,h3⟩
 ·rw [uQ e] at hb ht
  obtain ⟨e1,e2,e3⟩:=h.each k b t hb ht
  have hF:∀ q,F q -> ¬ (q=g \/ T q=some (id, .regs i) \/ T q=some (id, .fs i)):=fun q hq hn=>by
   have:=h.sep.sep q hq
   rcases hn with rfl | hn | hn
   ·rw [h.tag] at this;cases this
   ·rw [hn] at this;cases this
   ·rw [hn] at this;cases this
  refine ⟨e1,(e2.keeps hk (fun q hq hn=>?_)).ext hx.1,(zBV.keeps L e3 hk (fun q hq hn=>?_) hF).ext hx.1⟩
  ·rcases hn with rfl | hn | hn
   ·rw [h.tag] at hq;cases hq
   ·rw [hn] at hq;cases hq;exact e rfl
   ·rw [hn] at hq;cases hq
  ·rcases hn with rfl | hn | hn
   ·rw [h.tag] at hq;cases hq
   ·rw [hn] at hq;cases hq
   ·rw [hn] at hq;cases hq;exact e rfl
theorem zFA (h:zAV R sz ty w T F id g H zM) (hk:Keeps (fun k=>k=g \/ T k=some (id, .regs i) \/ T k=some (id, .fs i)) w w'):Keeps (zCj T id) w w' :=
 hk.mono (fun k _ hn=>by
  rcases hn with rfl | hn | hn
  ·exact .inl h.tag
  ·exact .inr ⟨i, .inl hn⟩
  ·exact .inr ⟨i, .inr hn⟩)
end
end Go.Proofs.YtfokdllgnblamaaGreatDoor
