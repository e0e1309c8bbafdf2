/- Layer N: texts joined. -/
import Derived.Test.YtoapgjjepiopbaaGreatDoorN07
set_option linter.all false
namespace Go.Proofs.YtoapgjjepiopbaaGreatDoor
open Go.RowKit
theorem J9 (P:Prop) (h:P:=by
 clear hx;go_enter Tryz.func137,Tryz.ntmps137
 go_wp2_with fail
 go_ret
 exact ⟨by rw [E0.out];first | rfl | (simp;omega),(Keeps.refl _ _).alloc _⟩):P:=h
theorem J25 (P:Prop) (h:P:=by
 have E0:Hid (res=false):=by show _=_;rw [hx];simp [*] <;> omega
 clear hx;go_wp2_with (go_at_call 133;refine (HI.out _).mono ?_;rintro e w1 ⟨rfl,g1⟩;have r:=R1.out.keeps g1 (fun h=>h);obtain ⟨c0,c1,c2,c3⟩:=r.four;have G1:=Lib.hid g1;clear g1 r)
 go_ret
 exact ⟨by rw [E0.out];first | rfl | (simp;omega),K1.out.zB G1.out⟩):P:=h
theorem J121 (P:Prop) (h:P:=by
 have E0:Hid (zAX k num nm n=false):=by show _=_;rw [hx];simp [*] <;> omega
 exact J9 _):P:=h
theorem J128 (P:Prop) (h:P:=by
 have E0:Hid (zAX 1 num nm n=false):=by show _=_;rw [hx];simp [*] <;> omega
 exact J9 _):P:=h
theorem J134 (P:Prop) (h:P:=by
 have E0:Hid (zAX 3 num nm n=false):=by show _=_;rw [hx];simp [*] <;> omega
 exact J9 _):P:=h
theorem J135 (P:Prop) (h:P:=by
 have E0:Hid (zAX 4 num nm n=false):=by show _=_;rw [hx];simp [*] <;> omega
 exact J9 _):P:=h
theorem J154 (P:Prop) (h:P:=by rw [beq_eq_false_iff_ne];omega):P:=h
theorem J182 (P:Prop) (h:P:=by rw [E0.out];first | rfl | (simp;omega)):P:=h
theorem J202 (P:Prop) (h:P:=by (cases zV nm <;> simp)):P:=h
theorem zEk {k num:Int} {nm:ByteArray} {n:Nat} (h1:¬ k=1) (h2:¬ k=2) :
 zAX k num nm n=(decide (3 <= k)&&decide (k <= 17)&&n==(if k=3 \/ k=4 then 1 else 2)&&num==0&&zV nm):=by
 unfold zAX;rw [if_neg h1,if_neg h2]
theorem zKC (num:Int) (nm:ByteArray) (n:Nat) (w:World) (ad:Option Addr) (cap:Nat) :
 Calls Tryz.prog 137 #[.agg #[.int .i64 1, .int .i64 num, .string nm, .slice ad n cap]] w fun e w'=>e=.returned (.bool (zAX 1 num nm n)) /\ Keeps zA w w':=by
 have hx:zAX 1 num nm n=(decide (0 <= num)&&decide (num <= 2147483647)&&zV nm&&n==0):=rfl;rcases (show num < 0 \/ 0 <= num by omega) with h0 | h0
 ·exact J128 _
 rcases (show 2147483647 < num \/ num <= 2147483647 by omega) with h1 | h1
 ·exact J128 _
 rcases (show zV nm=false \/ zV nm=true by exact J202 _) with h2 | h2
 ·have s1:=zAj h2
  have s2:=zAc h2;exact J128 _
 have s1:=zAm h2;rcases (show ¬ n=0 \/ n=0 by omega) with h3 | h3
 ·have h3i:¬ (n:Int)=0:=by omega
  have h3b:((n:Int)==0)=false:=by simpa using h3
  exact J128 _
 subst h3;have E0:Hid (zAX 1 num nm 0=true):=by show _=_;rw [hx];simp [*] <;> omega
 clear hx;go_enter Tryz.func137,Tryz.ntmps137
 go_wp2_with fail
 go_ret
 exact ⟨by exact J182 _,(Keeps.refl _ _).alloc _⟩
theorem zKN (num:Int) (nm:ByteArray) (n:Nat) (w:World) (ad:Option Addr) (cap:Nat) (hnm:nm=xNm \/ nm=zn) :
 Calls Tryz.prog 137 #[.agg #[.int .i64 2, .int .i64 num, .string nm, .slice ad n cap]] w fun e w'=>e=.returned (.bool (zAX 2 num nm n)) /\ Keeps zA w w':=by
 have HI:=Lib.hid (zBB nm hnm);obtain ⟨q,hq⟩:=eX (zFw nm);have hx:zAX 2 num nm n=(q&&num==0&&n==0):=by rw [hq];rfl
 rw [<- hq] at HI;clear hq hnm;obtain ⟨res,hres⟩:=eX (zAX 2 num nm n);rw [<- hres];rw [<- hres] at hx;clear hres;go_enter Tryz.func137,Tryz.ntmps137
 go_upto_region 1 with fail
 obtain ⟨b1,hb1⟩:=eX w.heap.size;have hr1:zC (w.alloc (.cells #[.int .i64 2, .int .i64 num, .string nm, .slice ad n cap] 144)) b1 [.int .i64 2, .int .i64 num, .string nm, .slice ad n cap]:=J150 _;have hk1:Keeps zA w (w.alloc (.cells #[.int .i64 2, .int .i64 num, .string nm, .slice ad n cap] 144)):=(Keeps.refl _ _).alloc _;rw [<- hb1];generalize w.alloc (.cells #[.int .i64 2, .int .i64 num, .string nm, .slice ad n cap] 144)=w0 at hr1 hk1 ⊢;obtain ⟨c0,c1,c2,c3⟩:=hr1.four;have R1:=Lib.hid hr1;have K1:=Lib.hid hk1;clear hr1 hk1 hb1;rcases (show q=false \/ q=true by (cases q <;> simp)) with h0 | h0
 ·subst h0
  exact J25 _
 subst h0;rcases (show ¬ num=0 \/ num=0 by omega) with h1 | h1
 ·have h1b:(num==0)=false:=by simpa using h1
  exact J25 _
 rcases (show ¬ n=0 \/ n=0 by omega) with h2 | h2
 ·have h2i:¬ (n:Int)=0:=by omega
  have h2b:((n:Int)==0)=false:=by simpa using h2
  exact J25 _
 have E0:Hid (res=true):=by show _=_;rw [hx];simp [*] <;> omega
 clear hx;go_wp2_with (go_at_call 133;refine (HI.out _).mono ?_;rintro e w1 ⟨rfl,g1⟩;have r:=R1.out.keeps g1 (fun h=>h);obtain ⟨c0,c1,c2,c3⟩:=r.four;have G1:=Lib.hid g1;clear g1 r)
 go_ret
 exact ⟨by exact J182 _,K1.out.zB G1.out⟩
theorem zJ6 (num:Int) (nm:ByteArray) (n:Nat) (w:World) (ad:Option Addr) (cap:Nat) :
 Calls Tryz.prog 137 #[.agg #[.int .i64 3, .int .i64 num, .string nm, .slice ad n cap]] w fun e w'=>e=.returned (.bool (zAX 3 num nm n)) /\ Keeps zA w w':=by
 have hx:zAX 3 num nm n=(n==1&&num==0&&zV nm):=by rw [zEk (by decide) (by decide)];simp
 rcases (show ¬ n=1 \/ n=1 by omega) with h0 | h0
 ·have h0i:¬ (n:Int)=1:=by omega
  have h0b:((n:Int)==1)=false:=J154 _;exact J134 _
 have h0i:(n:Int)=1:=by omega
 rcases (show ¬ num=0 \/ num=0 by omega) with h1 | h1
 ·have h1b:(num==0)=false:=by simpa using h1
  exact J134 _
 rcases (show zV nm=false \/ zV nm=true by exact J202 _) with h2 | h2
 ·have s1:=zAj h2
  have s2:=zAc h2;exact J134 _
 have s1:=zAm h2;have E0:Hid (zAX 3 num nm n=true):=by show _=_;rw [hx];simp [*] <;> omega
 clear hx;go_enter Tryz.func137,Tryz.ntmps137
 go_wp2_with fail
 go_ret
 exact ⟨by exact J182 _,(Keeps.refl _ _).alloc _⟩
theorem zLm (num:Int) (nm:ByteArray) (n:Nat) (w:World) (ad:Option Addr) (cap:Nat) :
 Calls Tryz.prog 137 #[.agg #[.int .i64 4, .int .i64 num, .string nm, .slice ad n cap]] w fun e w'=>e=.returned (.bool (zAX 4 num nm n)) /\ Keeps zA w w':=by
 have hx:zAX 4 num nm n=(n==1&&num==0&&zV nm):=by rw [zEk (by decide) (by decide)];simp
 rcases (show ¬ n=1 \/ n=1 by omega) with h0 | h0
 ·have h0i:¬ (n:Int)=1:=by omega
  have h0b:((n:Int)==1)=false:=J154 _;exact J135 _
 have h0i:(n:Int)=1:=by omega
 rcases (show ¬ num=0 \/ num=0 by omega) with h1 | h1
 ·have h1b:(num==0)=false:=by simpa using h1
  exact J135 _
 rcases (show zV nm=false \/ zV nm=true by exact J202 _) with h2 | h2
 ·have s1:=zAj h2
  have s2:=zAc h2;exact J135 _
 have s1:=zAm h2;have E0:Hid (zAX 4 num nm n=true):=by show _=_;rw [hx];simp [*] <;> omega
 clear hx;go_enter Tryz.func137,Tryz.ntmps137
 go_wp2_with fail
 go_ret
 exact ⟨by exact J182 _,(Keeps.refl _ _).alloc _⟩
theorem zLG (k:Int) (num:Int) (nm:ByteArray) (n:Nat) (w:World) (ad:Option Addr) (cap:Nat) (k1:¬ k=1) (k2:¬ k=2) (k3:¬ k=3) (k4:¬ k=4) :
 Calls Tryz.prog 137 #[.agg #[.int .i64 k, .int .i64 num, .string nm, .slice ad n cap]] w fun e w'=>e=.returned (.bool (zAX k num nm n)) /\ Keeps zA w w':=by
 have hx:zAX k num nm n=(decide (3 <= k)&&decide (k <= 17)&&n==2&&num==0&&zV nm):=by rw [zEk k1 k2];simp [k3,k4]
 have kb1:(k==1)=false:=by simpa using k1
 have kb2:(k==2)=false:=by simpa using k2
 have kb3:(k==3)=false:=by simpa using k3
 have kb4:(k==4)=false:=by simpa using k4
 rcases (show k < 3 \/ 3 <= k by omega) with h0 | h0
 ·exact J121 _
 rcases (show 17 < k \/ k <= 17 by omega) with h1 | h1
 ·exact J121 _
 rcases (show ¬ n=2 \/ n=2 by omega) with h2 | h2
 ·have h2i:¬ (n:Int)=2:=by omega
  have h2b:((n:Int)==2)=false:=J154 _;exact J121 _
 have h2i:(n:Int)=2:=by omega
 rcases (show ¬ num=0 \/ num=0 by omega) with h3 | h3
 ·have h3b:(num==0)=false:=by simpa using h3
  exact J121 _
 rcases (show zV nm=false \/ zV nm=true by exact J202 _) with h4 | h4
 ·have s1:=zAj h4
  have s2:=zAc h4;exact J121 _
 have s1:=zAm h4;have E0:Hid (zAX k num nm n=true):=by show _=_;rw [hx];simp [*] <;> omega
 clear hx;go_enter Tryz.func137,Tryz.ntmps137
 go_wp2_with fail
 go_ret
 exact ⟨by exact J182 _,(Keeps.refl _ _).alloc _⟩
theorem zIJ (x:Ex) (hnm:x.kind=2 -> x.nm=xNm \/ x.nm=zn) (w:World) (ad:Option Addr) (cap:Nat) :
 Calls Tryz.prog 137 #[exV x ad cap] w fun e w'=>e=.returned (.bool (zAX x.kind x.num x.nm x.args.length)) /\ Keeps zA w w':=by
 obtain ⟨k,num,nm,l⟩:=x;show Calls _ _ #[.agg #[.int .i64 k, .int .i64 num, .string nm, .slice ad l.length cap]] _ fun e w'=>e=.returned (.bool (zAX k num nm l.length)) /\ Keeps zA w w'
 by_cases k1:k=1
 ·subst k1;exact zKC num nm _ w ad cap
 by_cases k2:k=2
 ·subst k2;exact zKN num nm _ w ad cap (hnm rfl)
 by_cases k3:k=3
 ·subst k3;exact zJ6 num nm _ w ad cap
 by_cases k4:k=4
 ·subst k4;exact zLm num nm _ w ad cap
 exact zLG k num nm _ w ad cap k1 k2 k3 k4
section
variable {P:Program}
def zLF (md:Region.Mode) (ops:Array Oper) (n p:Nat):Bool :=
 (List.range n).all fun i=>decide (i=p) || (List.range (n+1)).any fun j=>decide (i < j)&&decide (j ≠ p)&&Region.waitsFor md ops j i
theorem zHh {md:Region.Mode} {ops:Array Oper} {n p:Nat} {listed:Array Bool} (hs:zLF md ops n p=true) (hc:Region.chainB md ops n=true) (hn:n < ops.size) (inv:HeadInv md ops n listed) :
 ∀ (d i:Nat),n - i=d -> i ≠ p -> i < n -> listed.getD i true=false -> ∀ t,n <= t -> t ∉ Region.ready md ops listed:=by
 intro d
 induction d using Nat.strongRecOn with
 | _ d ih =>
   intro i hd hip hi hun t ht hr
   obtain ⟨_,ot,hot,hall⟩:=mem_ready.1 hr;have htlt:t < ops.size:=(Array.getElem?_eq_some_iff.1 hot).1;by_cases htn:t=n
   ·exact J20 _
   ·exact J40 _
def zCR (n g p:Nat):Array Bool:=(zo n g).setIfInBounds p false
def zIx (md:Region.Mode) (l:List Oper) (n p:Nat):Bool :=
 decide (n < l.length)&&decide (p < n)&&zLF md l.toArray n p&&Region.chainB md l.toArray n&&zKY md l n&&((List.range (n+1)).all fun m=>zBz l m)&&Region.seqB md l.toArray (l.length - n) n (zo n (l.length - n)) &&
  Region.free md l.toArray (zCR n (l.length - n) p) p&&(Region.ready md l.toArray (zCR n (l.length - n) p)).contains p&&Region.noSelect l.toArray
theorem zEc {id:Nat} {Q:Exit -> Act -> World -> Prop} {a:Act} {w:World} {l:List Oper} (n p:Nat) (hm:P.follows .mixedOrders=true) (hB:zIx .any l n p=true) (op:Oper) (hop:l[p]?=some op) (hQ:∀ c a w v,Q (.panic c) (a.put op.dst v) w -> Q (.panic c) a w)
 (R:World -> World -> Prop) (hrefl:∀ w,R w w) (htrans:∀ a b c,R a b -> R b c -> R a c) (F:Nat -> Value -> World -> Prop) (hst:∀ j v W W',F j v W -> R W W' -> F j v W')
 (hstep:∀ i o,i < n -> l[i]?=some o -> ∀ (vs:Nat -> Value) (W:World) (Q':Exit -> Act -> World -> Prop),R w.drew W -> (∀ j,(o.after.any fun e=>Region.binds .any e&&decide (e.on=j))=true -> F j (vs j) W) →
   (∀ v W',R W W' -> F i v W' -> Q' .normal ((zJ l vs a n).put o.dst v) W') -> wpList P l.toArray Q' [o] (zJ l vs a n) W)
 (hy:∀ (vs:Nat -> Value) (W:World),R w.drew W -> (∀ j,j < n -> j ≠ p -> F j (vs j) W) -> ∃ v,Yields P l.toArray op v (zJ l vs a n) /\ F p v W)
 (htail:∀ (vs:Nat -> Value) (W:World),R w.drew W -> (∀ j,j < n -> F j (vs j) W) -> wpList P l.toArray Q (l.drop n) (zJ l vs a n) W):(Code.region id l.toArray true).wp P Q a w:=by
 simp only [zIx,Bool.and_eq_true,decide_eq_true_eq,List.all_eq_true,List.mem_range] at hB;obtain ⟨⟨⟨⟨⟨⟨⟨⟨⟨hn,hpn⟩,hs⟩,hc⟩,hback⟩,hdis⟩,hseq⟩,hfr⟩,hrd⟩,hsel⟩:=hB;have hop':l.toArray[p]?=some op:=by simpa using hop
 have key:∀ (f:Nat) (listed:Array Bool) (vs:Nat -> Value) (W:World),HeadInv .any l.toArray n listed -> zBO listed n=f -> R w.drew W -> (∀ j,j < n -> listed.getD j true=true -> F j (vs j) W) →
  wpAny P .any l.toArray Q (f+(l.length - n)) listed (zJ l vs a n) W:=by
  intro f
  induction f with
  | zero =>
    intro listed vs W inv hcnt hR hF
    have hall:=zB0 n hcnt
    have he:listed=zo n (l.length - n):=by
     exact J10 _
    have h1:=htail vs W hR (fun j hj=>hF j hj (hall j hj));have hdl:(l.drop n).length=l.length - n:=by simp
    have:=wpAny_of_seq (P:=P) (md:=.any) (ops:=l.toArray) (Q':=Q) (l.drop n) n listed (zJ l vs a n) W (fun j=>by simp [List.getElem?_drop]) (by rw [hdl,he];exact hseq) h1
    rw [hdl] at this;rw [Nat.zero_add];exact this
  | succ f ih =>
    intro listed vs W inv hcnt hR hF
    by_cases hall:∀ i,i < n -> i ≠ p -> listed.getD i true=true
    ·have hup:listed.getD p true=false:=by
      cases e:listed.getD p true with
      | false=>rfl
      | true =>
        obtain ⟨i,h1,h2,_⟩:=zA9 n (by omega:zBO listed n ≠ 0);by_cases ei:i=p
        ·rw [ei,e] at h2;cases h2
        ·rw [hall i h1 ei] at h2;cases h2
     have he:listed=zCR n (l.length - n) p:=by
      apply Array.ext
      ·rw [inv.size];simp [zCR,zo];omega
      ·intro k h1 h2
       unfold zCR;have hkl:k < l.toArray.size:=by rw [<- inv.size];exact h1
       by_cases hkp:k=p
       ·exact J69 _
       ·by_cases hk:k < n
        ·have:=hall k hk hkp
         simp only [Array.getD,h1,dif_pos] at this;rw [show listed[k]=true from this];have hpk:¬ p=k:=fun e=>hkp e.symm
         exact J65 _
        ·have:=inv.tail k (by omega) hkl
         simp only [Array.getD,h1,dif_pos] at this;rw [show listed[k]=false from this];have hpk:¬ p=k:=fun e=>hkp e.symm
         exact J65 _
     have hrp:p ∈ Region.ready .any l.toArray listed:=by rw [he];simpa using hrd
     obtain ⟨v,hyv,hFp⟩:=hy vs W hR (fun j hj hjp=>hF j hj (hall j hj hjp))
     have h1:wpAny P .any l.toArray Q (f+(l.length - n)) (listed.setIfInBounds p true) ((zJ l vs a n).put op.dst v) W:=by
      have hd:op.dst=(l[p]?).bind (·.dst):=by rw [hop];rfl
      rw [hd,zBU v n vs hpn (hdis n (by omega)) (fun m hm=>hdis m (by omega))];refine ih _ _ _ (inv.set hrp hpn) ?_ hR (fun j hj hl=>?_)
      ·have:=zCV hup n
       rw [if_pos hpn] at this;omega
      ·by_cases e:j=p
       ·subst e;rw [if_pos rfl];exact hFp
       ·rw [if_neg e];exact hF j hj (hall j hj e)
     have h2:=wpAny_first (P:=P) (ops:=l.toArray) (Q:=Q) (md:=.any) hop' (Region.noSelect_spec hsel) (fun c a w=>hQ c a w v) (f+(l.length - n)) listed (zJ l vs a n) W (by rw [he];exact Region.free_spec hop' hfr) hrp hyv h1;rw [show f+1+(l.length - n)=(f+(l.length - n))+1 by omega];exact h2
    have hex:∃ i,i < n /\ i ≠ p /\ listed.getD i true=false:=Classical.byContradiction fun hno=>hall fun i hi hip=>by
     exact J113 _
    obtain ⟨iu,hiu,hiup,hiuu⟩:=hex;obtain ⟨i0,hi0,hu0,hb0⟩:=zA9 n (by omega:zBO listed n ≠ 0)
    have hr0:i0 ∈ Region.ready .any l.toArray listed:=by
     exact J19 _
    rw [show f+1+(l.length - n)=(f+(l.length - n))+1 by omega];refine ⟨fun h0=>by exact J191 _,fun i hi=>?_⟩
    have hin:i < n:=by
     rcases Nat.lt_or_ge i n with h | h
     ·exact h
     ·exact absurd hi (zHh hs hc (by simpa using hn) inv _ iu rfl hiup hiu hiuu i h)
    have hun:=(mem_ready.1 hi).1;obtain ⟨_,o,ho,hafter⟩:=mem_ready.1 hi;have ho':l[i]?=some o:=by simpa using ho
    refine zBw ho (hstep i o hin ho' vs W _ hR (fun j hj=>?_) (fun v W' hR' hF'=>?_))
    ·exact J17 _
    ·exact J29 _
 refine wp_region_any hm ?_
 have inv0:HeadInv .any l.toArray n (Array.replicate l.toArray.size false) :=
  ⟨by simp,fun j oj _ hl=>(J195 _),fun t _ ht=>getD_in (by simpa using ht) (getD_replicate_false _ _)⟩
 have hcn:∀ m,m <= l.length -> zBO (Array.replicate l.toArray.size false) m=m:=by
  exact J33 _
 have:=key n (Array.replicate l.toArray.size false) (slotsOf l a) w.drew inv0 (hcn n (by omega)) (hrefl _) (fun j hj hl=>by
  have h1:j < l.length:=by omega
  have:(Array.replicate l.toArray.size false).getD j true=false:=by simp [h1]
  rw [this] at hl;cases hl)
 rw [zBe l a n,show n+(l.length - n)=l.toArray.size by simp;omega] at this;exact this
end
end Go.Proofs.YtoapgjjepiopbaaGreatDoor
