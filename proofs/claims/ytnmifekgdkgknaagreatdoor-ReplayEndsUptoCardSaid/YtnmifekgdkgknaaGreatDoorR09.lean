/- Layer R: texts joined. -/
import Derived.Test.YtnmifekgdkgknaaGreatDoorR08
import Derived.Test.YtnmifekgdkgknaaGreatDoorR05
set_option linter.unusedVariables false
set_option linter.unusedSimpArgs false
set_option linter.unnecessarySimpa false
namespace Go.Proofs.YtnmifekgdkgknaaGreatDoor
open Go.RowKit
theorem exIs_else {k num:Int} {nm:ByteArray} {n:Nat} (h1:¬ k=1) (h2:¬ k=2) :
 exIs k num nm n=(decide (3 <= k)&&decide (k <= 17)&&n==(if k=3 \/ k=4 then 1 else 2)&&num==0&&noName nm):=by
 unfold exIs;rw [if_neg h1,if_neg h2]
theorem exprIs_1 (num:Int) (nm:ByteArray) (n:Nat) (w:World) (ad:Option Addr) (cap:Nat) :
 Calls Tryz.prog 128 #[.agg #[.int .i64 1, .int .i64 num, .string nm, .slice ad n cap]] w fun e w'=>e=.returned (.bool (exIs 1 num nm n)) /\ Keeps NoBlk w w':=by
 have hx:exIs 1 num nm n=(decide (0 <= num)&&decide (num <= 2147483647)&&noName nm&&n==0):=rfl;rcases (show num < 0 \/ 0 <= num by omega) with h0 | h0
 ·have E0:Hid (exIs 1 num nm n=false):=by show _=_;rw [hx];simp [*] <;> omega
  clear hx;go_enter Tryz.func128,Tryz.ntmps128
  go_wp2_with fail
  go_ret
  exact ⟨by rw [E0.out];first | rfl | (simp;omega),(Keeps.refl _ _).alloc _⟩
 rcases (show 2147483647 < num \/ num <= 2147483647 by omega) with h1 | h1
 ·have E0:Hid (exIs 1 num nm n=false):=by show _=_;rw [hx];simp [*] <;> omega
  clear hx;go_enter Tryz.func128,Tryz.ntmps128
  go_wp2_with fail
  go_ret
  exact ⟨by rw [E0.out];first | rfl | (simp;omega),(Keeps.refl _ _).alloc _⟩
 rcases (show noName nm=false \/ noName nm=true by (cases noName nm <;> simp)) with h2 | h2
 ·have s1:=noName_F h2
  have s2:=noName_F' h2;have E0:Hid (exIs 1 num nm n=false):=by show _=_;rw [hx];simp [*] <;> omega
  clear hx;go_enter Tryz.func128,Tryz.ntmps128
  go_wp2_with fail
  go_ret
  exact ⟨by rw [E0.out];first | rfl | (simp;omega),(Keeps.refl _ _).alloc _⟩
 have s1:=noName_T h2;rcases (show ¬ n=0 \/ n=0 by omega) with h3 | h3
 ·have h3i:¬ (n:Int)=0:=by omega
  have h3b:((n:Int)==0)=false:=by simpa using h3
  have E0:Hid (exIs 1 num nm n=false):=by show _=_;rw [hx];simp [*] <;> omega
  clear hx;go_enter Tryz.func128,Tryz.ntmps128
  go_wp2_with fail
  go_ret
  exact ⟨by rw [E0.out];first | rfl | (simp;omega),(Keeps.refl _ _).alloc _⟩
 subst h3;have E0:Hid (exIs 1 num nm 0=true):=by show _=_;rw [hx];simp [*] <;> omega
 clear hx;go_enter Tryz.func128,Tryz.ntmps128
 go_wp2_with fail
 go_ret
 exact ⟨by rw [E0.out];first | rfl | (simp;omega),(Keeps.refl _ _).alloc _⟩
theorem exprIs_2 (num:Int) (nm:ByteArray) (n:Nat) (w:World) (ad:Option Addr) (cap:Nat) (hnm:nm=xNm \/ nm=noNm) :
 Calls Tryz.prog 128 #[.agg #[.int .i64 2, .int .i64 num, .string nm, .slice ad n cap]] w fun e w'=>e=.returned (.bool (exIs 2 num nm n)) /\ Keeps NoBlk w w':=by
 have HI:=Lib.hid (isName_any nm hnm);obtain ⟨q,hq⟩:∃ q,q=isNm nm:=⟨_,rfl⟩
 have hx:exIs 2 num nm n=(q&&num==0&&n==0):=by rw [hq];rfl
 rw [<- hq] at HI;clear hq hnm;obtain ⟨res,hres⟩:∃ b,b=exIs 2 num nm n:=⟨_,rfl⟩
 rw [<- hres];rw [<- hres] at hx;clear hres;go_enter Tryz.func128,Tryz.ntmps128
 go_upto_region 1 with fail
 obtain ⟨b1,hb1⟩:∃ z,z=w.heap.size:=⟨_,rfl⟩
 have hr1:RowAt (w.alloc (.cells #[.int .i64 2, .int .i64 num, .string nm, .slice ad n cap] 72)) b1 [.int .i64 2, .int .i64 num, .string nm, .slice ad n cap]:=by rw [hb1];exact RowAt.ofBlock (heap_alloc_new w _)
 have hk1:Keeps NoBlk w (w.alloc (.cells #[.int .i64 2, .int .i64 num, .string nm, .slice ad n cap] 72)):=(Keeps.refl _ _).alloc _;rw [<- hb1];generalize w.alloc (.cells #[.int .i64 2, .int .i64 num, .string nm, .slice ad n cap] 72)=w0 at hr1 hk1 ⊢;obtain ⟨c0,c1,c2,c3⟩:=hr1.four;have R1:=Lib.hid hr1;have K1:=Lib.hid hk1;clear hr1 hk1 hb1;rcases (show q=false \/ q=true by (cases q <;> simp)) with h0 | h0
 ·subst h0
  have E0:Hid (res=false):=by show _=_;rw [hx];simp [*] <;> omega
  clear hx;go_wp2_with (go_at_call 124;refine (HI.out _).mono ?_;rintro e w1 ⟨rfl,g1⟩;have r:=R1.out.keeps g1 (fun h=>h);obtain ⟨c0,c1,c2,c3⟩:=r.four;have G1:=Lib.hid g1;clear g1 r)
  go_ret
  exact ⟨by rw [E0.out];first | rfl | (simp;omega),K1.out.trans0 G1.out⟩
 subst h0;rcases (show ¬ num=0 \/ num=0 by omega) with h1 | h1
 ·have h1b:(num==0)=false:=by simpa using h1
  have E0:Hid (res=false):=by show _=_;rw [hx];simp [*] <;> omega
  clear hx;go_wp2_with (go_at_call 124;refine (HI.out _).mono ?_;rintro e w1 ⟨rfl,g1⟩;have r:=R1.out.keeps g1 (fun h=>h);obtain ⟨c0,c1,c2,c3⟩:=r.four;have G1:=Lib.hid g1;clear g1 r)
  go_ret
  exact ⟨by rw [E0.out];first | rfl | (simp;omega),K1.out.trans0 G1.out⟩
 rcases (show ¬ n=0 \/ n=0 by omega) with h2 | h2
 ·have h2i:¬ (n:Int)=0:=by omega
  have h2b:((n:Int)==0)=false:=by simpa using h2
  have E0:Hid (res=false):=by show _=_;rw [hx];simp [*] <;> omega
  clear hx;go_wp2_with (go_at_call 124;refine (HI.out _).mono ?_;rintro e w1 ⟨rfl,g1⟩;have r:=R1.out.keeps g1 (fun h=>h);obtain ⟨c0,c1,c2,c3⟩:=r.four;have G1:=Lib.hid g1;clear g1 r)
  go_ret
  exact ⟨by rw [E0.out];first | rfl | (simp;omega),K1.out.trans0 G1.out⟩
 have E0:Hid (res=true):=by show _=_;rw [hx];simp [*] <;> omega
 clear hx;go_wp2_with (go_at_call 124;refine (HI.out _).mono ?_;rintro e w1 ⟨rfl,g1⟩;have r:=R1.out.keeps g1 (fun h=>h);obtain ⟨c0,c1,c2,c3⟩:=r.four;have G1:=Lib.hid g1;clear g1 r)
 go_ret
 exact ⟨by rw [E0.out];first | rfl | (simp;omega),K1.out.trans0 G1.out⟩
theorem exprIs_3 (num:Int) (nm:ByteArray) (n:Nat) (w:World) (ad:Option Addr) (cap:Nat) :
 Calls Tryz.prog 128 #[.agg #[.int .i64 3, .int .i64 num, .string nm, .slice ad n cap]] w fun e w'=>e=.returned (.bool (exIs 3 num nm n)) /\ Keeps NoBlk w w':=by
 have hx:exIs 3 num nm n=(n==1&&num==0&&noName nm):=by rw [exIs_else (by decide) (by decide)];simp
 rcases (show ¬ n=1 \/ n=1 by omega) with h0 | h0
 ·have h0i:¬ (n:Int)=1:=by omega
  have h0b:((n:Int)==1)=false:=by rw [beq_eq_false_iff_ne];omega
  have E0:Hid (exIs 3 num nm n=false):=by show _=_;rw [hx];simp [*] <;> omega
  clear hx;go_enter Tryz.func128,Tryz.ntmps128
  go_wp2_with fail
  go_ret
  exact ⟨by rw [E0.out];first | rfl | (simp;omega),(Keeps.refl _ _).alloc _⟩
 have h0i:(n:Int)=1:=by omega
 rcases (show ¬ num=0 \/ num=0 by omega) with h1 | h1
 ·have h1b:(num==0)=false:=by simpa using h1
  have E0:Hid (exIs 3 num nm n=false):=by show _=_;rw [hx];simp [*] <;> omega
  clear hx;go_enter Tryz.func128,Tryz.ntmps128
  go_wp2_with fail
  go_ret
  exact ⟨by rw [E0.out];first | rfl | (simp;omega),(Keeps.refl _ _).alloc _⟩
 rcases (show noName nm=false \/ noName nm=true by (cases noName nm <;> simp)) with h2 | h2
 ·have s1:=noName_F h2
  have s2:=noName_F' h2;have E0:Hid (exIs 3 num nm n=false):=by show _=_;rw [hx];simp [*] <;> omega
  clear hx;go_enter Tryz.func128,Tryz.ntmps128
  go_wp2_with fail
  go_ret
  exact ⟨by rw [E0.out];first | rfl | (simp;omega),(Keeps.refl _ _).alloc _⟩
 have s1:=noName_T h2;have E0:Hid (exIs 3 num nm n=true):=by show _=_;rw [hx];simp [*] <;> omega
 clear hx;go_enter Tryz.func128,Tryz.ntmps128
 go_wp2_with fail
 go_ret
 exact ⟨by rw [E0.out];first | rfl | (simp;omega),(Keeps.refl _ _).alloc _⟩
theorem exprIs_4 (num:Int) (nm:ByteArray) (n:Nat) (w:World) (ad:Option Addr) (cap:Nat) :
 Calls Tryz.prog 128 #[.agg #[.int .i64 4, .int .i64 num, .string nm, .slice ad n cap]] w fun e w'=>e=.returned (.bool (exIs 4 num nm n)) /\ Keeps NoBlk w w':=by
 have hx:exIs 4 num nm n=(n==1&&num==0&&noName nm):=by rw [exIs_else (by decide) (by decide)];simp
 rcases (show ¬ n=1 \/ n=1 by omega) with h0 | h0
 ·have h0i:¬ (n:Int)=1:=by omega
  have h0b:((n:Int)==1)=false:=by rw [beq_eq_false_iff_ne];omega
  have E0:Hid (exIs 4 num nm n=false):=by show _=_;rw [hx];simp [*] <;> omega
  clear hx;go_enter Tryz.func128,Tryz.ntmps128
  go_wp2_with fail
  go_ret
  exact ⟨by rw [E0.out];first | rfl | (simp;omega),(Keeps.refl _ _).alloc _⟩
 have h0i:(n:Int)=1:=by omega
 rcases (show ¬ num=0 \/ num=0 by omega) with h1 | h1
 ·have h1b:(num==0)=false:=by simpa using h1
  have E0:Hid (exIs 4 num nm n=false):=by show _=_;rw [hx];simp [*] <;> omega
  clear hx;go_enter Tryz.func128,Tryz.ntmps128
  go_wp2_with fail
  go_ret
  exact ⟨by rw [E0.out];first | rfl | (simp;omega),(Keeps.refl _ _).alloc _⟩
 rcases (show noName nm=false \/ noName nm=true by (cases noName nm <;> simp)) with h2 | h2
 ·have s1:=noName_F h2
  have s2:=noName_F' h2;have E0:Hid (exIs 4 num nm n=false):=by show _=_;rw [hx];simp [*] <;> omega
  clear hx;go_enter Tryz.func128,Tryz.ntmps128
  go_wp2_with fail
  go_ret
  exact ⟨by rw [E0.out];first | rfl | (simp;omega),(Keeps.refl _ _).alloc _⟩
 have s1:=noName_T h2;have E0:Hid (exIs 4 num nm n=true):=by show _=_;rw [hx];simp [*] <;> omega
 clear hx;go_enter Tryz.func128,Tryz.ntmps128
 go_wp2_with fail
 go_ret
 exact ⟨by rw [E0.out];first | rfl | (simp;omega),(Keeps.refl _ _).alloc _⟩
theorem exprIs_e (k:Int) (num:Int) (nm:ByteArray) (n:Nat) (w:World) (ad:Option Addr) (cap:Nat) (k1:¬ k=1) (k2:¬ k=2) (k3:¬ k=3) (k4:¬ k=4) :
 Calls Tryz.prog 128 #[.agg #[.int .i64 k, .int .i64 num, .string nm, .slice ad n cap]] w fun e w'=>e=.returned (.bool (exIs k num nm n)) /\ Keeps NoBlk w w':=by
 have hx:exIs k num nm n=(decide (3 <= k)&&decide (k <= 17)&&n==2&&num==0&&noName nm):=by rw [exIs_else k1 k2];simp [k3,k4]
 have kb1:(k==1)=false:=by simpa using k1
 have kb2:(k==2)=false:=by simpa using k2
 have kb3:(k==3)=false:=by simpa using k3
 have kb4:(k==4)=false:=by simpa using k4
 rcases (show k < 3 \/ 3 <= k by omega) with h0 | h0
 ·have E0:Hid (exIs k num nm n=false):=by show _=_;rw [hx];simp [*] <;> omega
  clear hx;go_enter Tryz.func128,Tryz.ntmps128
  go_wp2_with fail
  go_ret
  exact ⟨by rw [E0.out];first | rfl | (simp;omega),(Keeps.refl _ _).alloc _⟩
 rcases (show 17 < k \/ k <= 17 by omega) with h1 | h1
 ·have E0:Hid (exIs k num nm n=false):=by show _=_;rw [hx];simp [*] <;> omega
  clear hx;go_enter Tryz.func128,Tryz.ntmps128
  go_wp2_with fail
  go_ret
  exact ⟨by rw [E0.out];first | rfl | (simp;omega),(Keeps.refl _ _).alloc _⟩
 rcases (show ¬ n=2 \/ n=2 by omega) with h2 | h2
 ·have h2i:¬ (n:Int)=2:=by omega
  have h2b:((n:Int)==2)=false:=by rw [beq_eq_false_iff_ne];omega
  have E0:Hid (exIs k num nm n=false):=by show _=_;rw [hx];simp [*] <;> omega
  clear hx;go_enter Tryz.func128,Tryz.ntmps128
  go_wp2_with fail
  go_ret
  exact ⟨by rw [E0.out];first | rfl | (simp;omega),(Keeps.refl _ _).alloc _⟩
 have h2i:(n:Int)=2:=by omega
 rcases (show ¬ num=0 \/ num=0 by omega) with h3 | h3
 ·have h3b:(num==0)=false:=by simpa using h3
  have E0:Hid (exIs k num nm n=false):=by show _=_;rw [hx];simp [*] <;> omega
  clear hx;go_enter Tryz.func128,Tryz.ntmps128
  go_wp2_with fail
  go_ret
  exact ⟨by rw [E0.out];first | rfl | (simp;omega),(Keeps.refl _ _).alloc _⟩
 rcases (show noName nm=false \/ noName nm=true by (cases noName nm <;> simp)) with h4 | h4
 ·have s1:=noName_F h4
  have s2:=noName_F' h4;have E0:Hid (exIs k num nm n=false):=by show _=_;rw [hx];simp [*] <;> omega
  clear hx;go_enter Tryz.func128,Tryz.ntmps128
  go_wp2_with fail
  go_ret
  exact ⟨by rw [E0.out];first | rfl | (simp;omega),(Keeps.refl _ _).alloc _⟩
 have s1:=noName_T h4;have E0:Hid (exIs k num nm n=true):=by show _=_;rw [hx];simp [*] <;> omega
 clear hx;go_enter Tryz.func128,Tryz.ntmps128
 go_wp2_with fail
 go_ret
 exact ⟨by rw [E0.out];first | rfl | (simp;omega),(Keeps.refl _ _).alloc _⟩
theorem exprIs_any (x:Ex) (hnm:x.kind=2 -> x.nm=xNm \/ x.nm=noNm) (w:World) (ad:Option Addr) (cap:Nat) :
 Calls Tryz.prog 128 #[exV x ad cap] w fun e w'=>e=.returned (.bool (exIs x.kind x.num x.nm x.args.length)) /\ Keeps NoBlk w w':=by
 obtain ⟨k,num,nm,l⟩:=x;show Calls _ _ #[.agg #[.int .i64 k, .int .i64 num, .string nm, .slice ad l.length cap]] _ fun e w'=>e=.returned (.bool (exIs k num nm l.length)) /\ Keeps NoBlk w w'
 by_cases k1:k=1
 ·subst k1;exact exprIs_1 num nm _ w ad cap
 by_cases k2:k=2
 ·subst k2;exact exprIs_2 num nm _ w ad cap (hnm rfl)
 by_cases k3:k=3
 ·subst k3;exact exprIs_3 num nm _ w ad cap
 by_cases k4:k=4
 ·subst k4;exact exprIs_4 num nm _ w ad cap
 exact exprIs_e k num nm _ w ad cap k1 k2 k3 k4
section
variable {P:Program}
def sinkPB (md:Region.Mode) (ops:Array Oper) (n p:Nat):Bool :=
 (List.range n).all fun i=>decide (i=p) || (List.range (n+1)).any fun j=>decide (i < j)&&decide (j ≠ p)&&Region.waitsFor md ops j i
theorem tail_waitsP {md:Region.Mode} {ops:Array Oper} {n p:Nat} {listed:Array Bool} (hs:sinkPB md ops n p=true) (hc:Region.chainB md ops n=true) (hn:n < ops.size) (inv:HeadInv md ops n listed) :
 ∀ (d i:Nat),n - i=d -> i ≠ p -> i < n -> listed.getD i true=false -> ∀ t,n <= t -> t ∉ Region.ready md ops listed:=by
 intro d
 induction d using Nat.strongRecOn with
 | _ d ih =>
   intro i hd hip hi hun t ht hr
   obtain ⟨_,ot,hot,hall⟩:=mem_ready.1 hr;have htlt:t < ops.size:=(Array.getElem?_eq_some_iff.1 hot).1;by_cases htn:t=n
   ·subst htn
    have h1:=List.all_eq_true.1 hs i (List.mem_range.2 hi);simp only [Bool.or_eq_true,decide_eq_true_eq] at h1;rcases h1 with h1 | h1
    ·exact absurd h1 hip
    obtain ⟨j,hj,hj2⟩:=List.any_eq_true.1 h1;simp only [Bool.and_eq_true,decide_eq_true_eq] at hj2;obtain ⟨oj,hoj,e,he,hb,hon⟩:=Region.waitsFor_spec hj2.2;have hjle:j <= t:=by have:=List.mem_range.1 hj;omega
    by_cases hjt:j=t
    ·subst hjt
     have:oj=ot:=Option.some.inj (hoj.symm.trans hot)
     subst this;have h2:=hall e he hb;rw [hon,getD_both hun] at h2;cases h2
    ·cases hl:listed.getD j false with
     | true =>
       have h2:=inv.closed j oj hoj hl e he hb;rw [hon,getD_both hun] at h2;cases h2
     | false =>
       have hjs:j < listed.size:=by rw [inv.size];omega
       exact ih (t - j) (by omega) j rfl hj2.1.2 (by omega) (getD_in hjs hl) t (Nat.le_refl _) hr
   ·have h1:=List.all_eq_true.1 hc t (List.mem_range.2 htlt)
    simp only [Bool.or_eq_true,decide_eq_true_eq] at h1;rcases h1 with h1 | h1
    ·omega
    ·obtain ⟨o',ho',e,he,hb,hon⟩:=Region.waitsFor_spec h1
     have:o'=ot:=Option.some.inj (ho'.symm.trans hot)
     subst this;have h2:=hall e he hb;rw [hon,getD_both (inv.tail (t - 1) (by omega) (by omega))] at h2;cases h2
def listedToP (n g p:Nat):Array Bool:=(listedTo n g).setIfInBounds p false
def table5B (md:Region.Mode) (l:List Oper) (n p:Nat):Bool :=
 decide (n < l.length)&&decide (p < n)&&sinkPB md l.toArray n p&&Region.chainB md l.toArray n&&backB md l n&&((List.range (n+1)).all fun m=>distinctB l m)&&Region.seqB md l.toArray (l.length - n) n (listedTo n (l.length - n)) &&
  Region.free md l.toArray (listedToP n (l.length - n) p) p&&(Region.ready md l.toArray (listedToP n (l.length - n) p)).contains p&&Region.noSelect l.toArray
theorem wp_region_table5 {id:Nat} {Q:Exit -> Act -> World -> Prop} {a:Act} {w:World} {l:List Oper} (n p:Nat) (hm:P.follows .mixedOrders=true) (hB:table5B .any l n p=true) (op:Oper) (hop:l[p]?=some op) (hQ:∀ c a w v,Q (.panic c) (a.put op.dst v) w -> Q (.panic c) a w)
 (R:World -> World -> Prop) (hrefl:∀ w,R w w) (htrans:∀ a b c,R a b -> R b c -> R a c) (F:Nat -> Value -> World -> Prop) (hst:∀ j v W W',F j v W -> R W W' -> F j v W')
 (hstep:∀ i o,i < n -> l[i]?=some o -> ∀ (vs:Nat -> Value) (W:World) (Q':Exit -> Act -> World -> Prop),R w.drew W -> (∀ j,(o.after.any fun e=>Region.binds .any e&&decide (e.on=j))=true -> F j (vs j) W) →
   (∀ v W',R W W' -> F i v W' -> Q' .normal ((putsTo l vs a n).put o.dst v) W') -> wpList P l.toArray Q' [o] (putsTo l vs a n) W)
 (hy:∀ (vs:Nat -> Value) (W:World),R w.drew W -> (∀ j,j < n -> j ≠ p -> F j (vs j) W) -> ∃ v,Yields P l.toArray op v (putsTo l vs a n) /\ F p v W)
 (htail:∀ (vs:Nat -> Value) (W:World),R w.drew W -> (∀ j,j < n -> F j (vs j) W) -> wpList P l.toArray Q (l.drop n) (putsTo l vs a n) W):(Code.region id l.toArray true).wp P Q a w:=by
 simp only [table5B,Bool.and_eq_true,decide_eq_true_eq,List.all_eq_true,List.mem_range] at hB;obtain ⟨⟨⟨⟨⟨⟨⟨⟨⟨hn,hpn⟩,hs⟩,hc⟩,hback⟩,hdis⟩,hseq⟩,hfr⟩,hrd⟩,hsel⟩:=hB;have hop':l.toArray[p]?=some op:=by simpa using hop
 have key:∀ (f:Nat) (listed:Array Bool) (vs:Nat -> Value) (W:World),HeadInv .any l.toArray n listed -> cntU listed n=f -> R w.drew W -> (∀ j,j < n -> listed.getD j true=true -> F j (vs j) W) →
  wpAny P .any l.toArray Q (f+(l.length - n)) listed (putsTo l vs a n) W:=by
  intro f
  induction f with
  | zero =>
    intro listed vs W inv hcnt hR hF
    have hall:=cntU_zero n hcnt
    have he:listed=listedTo n (l.length - n):=by
     apply Array.ext
     ·rw [inv.size];simp [listedTo];omega
     ·intro k h1 h2
      by_cases hk:k < n
      ·have:=hall k hk
       simp only [Array.getD,h1,dif_pos] at this;rw [show listed[k]=true from this];simp [listedTo,hk,List.getElem_append]
      ·have hk2:k < l.toArray.size:=by rw [<- inv.size];exact h1
       have:=inv.tail k (by omega) hk2
       simp only [Array.getD,h1,dif_pos] at this;rw [show listed[k]=false from this];simp [listedTo,hk,List.getElem_append]
    have h1:=htail vs W hR (fun j hj=>hF j hj (hall j hj));have hdl:(l.drop n).length=l.length - n:=by simp
    have:=wpAny_of_seq (P:=P) (md:=.any) (ops:=l.toArray) (Q':=Q) (l.drop n) n listed (putsTo l vs a n) W (fun j=>by simp [List.getElem?_drop]) (by rw [hdl,he];exact hseq) h1
    rw [hdl] at this;rw [Nat.zero_add];exact this
  | succ f ih =>
    intro listed vs W inv hcnt hR hF
    by_cases hall:∀ i,i < n -> i ≠ p -> listed.getD i true=true
    ·have hup:listed.getD p true=false:=by
      cases e:listed.getD p true with
      | false=>rfl
      | true =>
        obtain ⟨i,h1,h2,_⟩:=cntU_first n (by omega:cntU listed n ≠ 0);by_cases ei:i=p
        ·rw [ei,e] at h2;cases h2
        ·rw [hall i h1 ei] at h2;cases h2
     have he:listed=listedToP n (l.length - n) p:=by
      apply Array.ext
      ·rw [inv.size];simp [listedToP,listedTo];omega
      ·intro k h1 h2
       unfold listedToP;have hkl:k < l.toArray.size:=by rw [<- inv.size];exact h1
       by_cases hkp:k=p
       ·subst hkp
        have:=hup
        simp only [Array.getD,h1,dif_pos] at this;rw [show listed[k]=false from this];first | exact (Array.getElem_setIfInBounds_self _).symm | (rw [Array.getElem_setIfInBounds];simp)
       ·by_cases hk:k < n
        ·have:=hall k hk hkp
         simp only [Array.getD,h1,dif_pos] at this;rw [show listed[k]=true from this];have hpk:¬ p=k:=fun e=>hkp e.symm
         simp [Array.getElem_setIfInBounds,hpk,listedTo,hk,List.getElem_append]
        ·have:=inv.tail k (by omega) hkl
         simp only [Array.getD,h1,dif_pos] at this;rw [show listed[k]=false from this];have hpk:¬ p=k:=fun e=>hkp e.symm
         simp [Array.getElem_setIfInBounds,hpk,listedTo,hk,List.getElem_append]
     have hrp:p ∈ Region.ready .any l.toArray listed:=by rw [he];simpa using hrd
     obtain ⟨v,hyv,hFp⟩:=hy vs W hR (fun j hj hjp=>hF j hj (hall j hj hjp))
     have h1:wpAny P .any l.toArray Q (f+(l.length - n)) (listed.setIfInBounds p true) ((putsTo l vs a n).put op.dst v) W:=by
      have hd:op.dst=(l[p]?).bind (·.dst):=by rw [hop];rfl
      rw [hd,putsTo_put v n vs hpn (hdis n (by omega)) (fun m hm=>hdis m (by omega))];refine ih _ _ _ (inv.set hrp hpn) ?_ hR (fun j hj hl=>?_)
      ·have:=cntU_set hup n
       rw [if_pos hpn] at this;omega
      ·by_cases e:j=p
       ·subst e;rw [if_pos rfl];exact hFp
       ·rw [if_neg e];exact hF j hj (hall j hj e)
     have h2:=wpAny_first (P:=P) (ops:=l.toArray) (Q:=Q) (md:=.any) hop' (Region.noSelect_spec hsel) (fun c a w=>hQ c a w v) (f+(l.length - n)) listed (putsTo l vs a n) W (by rw [he];exact Region.free_spec hop' hfr) hrp hyv h1;rw [show f+1+(l.length - n)=(f+(l.length - n))+1 by omega];exact h2
    have hex:∃ i,i < n /\ i ≠ p /\ listed.getD i true=false:=Classical.byContradiction fun hno=>hall fun i hi hip=>by
     cases e:listed.getD i true with
     | true=>rfl
     | false=>exact absurd ⟨i,hi,hip,e⟩ hno
    obtain ⟨iu,hiu,hiup,hiuu⟩:=hex;obtain ⟨i0,hi0,hu0,hb0⟩:=cntU_first n (by omega:cntU listed n ≠ 0)
    have hr0:i0 ∈ Region.ready .any l.toArray listed:=by
     have hil:i0 < l.length:=by omega
     rw [mem_ready];refine ⟨hu0,l[i0],by simp [hil],fun e he hb=>?_⟩
     have h1:=List.all_eq_true.1 hback i0 (List.mem_range.2 hi0);simp only [List.getElem?_eq_getElem hil,Option.map_some,Option.getD_some,Array.all_eq_true_iff_forall_mem] at h1;have h2:=h1 e he;simp only [hb,Bool.not_true,Bool.false_or,decide_eq_true_eq] at h2;have h3:=hb0 e.on h2;have h4:e.on < listed.size:=by rw [inv.size];simp;omega
     simpa [h4] using h3
    rw [show f+1+(l.length - n)=(f+(l.length - n))+1 by omega];refine ⟨fun h0=>by rw [h0] at hr0;exact absurd hr0 (by simp),fun i hi=>?_⟩
    have hin:i < n:=by
     rcases Nat.lt_or_ge i n with h | h
     ·exact h
     ·exact absurd hi (tail_waitsP hs hc (by simpa using hn) inv _ iu rfl hiup hiu hiuu i h)
    have hun:=(mem_ready.1 hi).1;obtain ⟨_,o,ho,hafter⟩:=mem_ready.1 hi;have ho':l[i]?=some o:=by simpa using ho
    refine wpOp_of_list ho (hstep i o hin ho' vs W _ hR (fun j hj=>?_) (fun v W' hR' hF'=>?_))
    ·simp only [Array.any_eq_true',Bool.and_eq_true,decide_eq_true_eq] at hj
     obtain ⟨e,he,hb,rfl⟩:=hj;have h1:=hafter e he hb
     have hle:e.on < i:=by
      have h1:=List.all_eq_true.1 hback i (List.mem_range.2 hin);simp only [ho',Option.map_some,Option.getD_some,Array.all_eq_true_iff_forall_mem] at h1;have h2:=h1 e he;simpa only [hb,Bool.not_true,Bool.false_or,decide_eq_true_eq] using h2
     have h4:e.on < listed.size:=by rw [inv.size];simp;omega
     exact hF e.on (by omega) (by simpa [h4] using h1)
    ·have hd:o.dst=(l[i]?).bind (·.dst):=by rw [ho'];rfl
     show wpAny P .any l.toArray Q (f+(l.length - n)) (listed.setIfInBounds i true) ((putsTo l vs a n).put o.dst v) W'
     rw [hd,putsTo_put v n vs hin (hdis n (by omega)) (fun m hm=>hdis m (by omega))];refine ih _ _ _ (inv.set hi hin) ?_ (htrans _ _ _ hR hR') (fun j hj hl=>?_)
     ·have:=cntU_set hun n
      rw [if_pos hin] at this;omega
     ·by_cases e:j=i
      ·subst e;rw [if_pos rfl];exact hF'
      ·rw [if_neg e]
       rw [getD_set_ne true (fun h=>e h.symm)] at hl;exact hst j _ _ _ (hF j hj hl) hR'
 refine wp_region_any hm ?_
 have inv0:HeadInv .any l.toArray n (Array.replicate l.toArray.size false) :=
  ⟨by simp,fun j oj _ hl=>(by rw [getD_replicate_false] at hl;cases hl),fun t _ ht=>getD_in (by simpa using ht) (getD_replicate_false _ _)⟩
 have hcn:∀ m,m <= l.length -> cntU (Array.replicate l.toArray.size false) m=m:=by
  intro m
  induction m with
  | zero=>intro _;rfl
  | succ m ih =>
    intro hm
    unfold cntU;rw [ih (by omega)]
    have:(Array.replicate l.toArray.size false).getD m true=false:=by
     have:m < l.length:=by omega
     simp [this]
    rw [this];simp
 have:=key n (Array.replicate l.toArray.size false) (slotsOf l a) w.drew inv0 (hcn n (by omega)) (hrefl _) (fun j hj hl=>by
  have h1:j < l.length:=by omega
  have:(Array.replicate l.toArray.size false).getD j true=false:=by simp [h1]
  rw [this] at hl;cases hl)
 rw [putsTo_self l a n,show n+(l.length - n)=l.toArray.size by simp;omega] at this;exact this
end
end Go.Proofs.YtnmifekgdkgknaaGreatDoor
