/- Layer K: texts joined. -/
import Derived.Test.YtfokdllgnblamaaGreatDoorK10
set_option linter.all false
set_option maxRecDepth 8000
namespace Go.Proofs.YtfokdllgnblamaaGreatDoor
open Go.RowKit
abbrev yi:=@Nat.div_eq_of_lt
abbrev kY:=@List.getElem?_map
abbrev kG:=@Nat.mod_eq_of_lt
abbrev vS:=@Nat.le_mul_of_pos_right
abbrev vC:=@Nat.mul_le_mul_right
abbrev xG:=@Go.Proofs.Tryz.underlying22
theorem J56 (P:Prop) (h:P:=by
 by_cases e:j=i
 ·subst e;rw [if_pos rfl];exact hF'
 ·rw [if_neg e]
  rw [uL true (fun h=>e h.symm)] at hl;refine hloc _ _ gs _ _ (fun b hb=>?_) (hst j _ _ _ _ (hF j hj hl) hR')
  have h1:=hL j hj hl b hb;have h2:b ≠ i:=fun e=>by subst e;rw [hun] at h1;cases h1
  exact (if_neg h2).symm):P:=h
theorem J64 (P:Prop) (h:P:=by
 have h0:m=0:=by omega
 subst h0
 have hiN:i=N:=by
  rcases xR i N with h | h
  ·have:=hrun.2 h;omega
  ·omega
 subst hiN;go_wp2_with fail
 go_ret
 exact ⟨da,dc,by go_num,zAW.ofRow HO.out HN.out (fun kb e=>⟨HB.out kb e,zO HO.out e⟩),HK.out⟩):P:=h
theorem J128 (P:Prop) (h:P:=by
 have h5:e.on < listed.size:=by rw [inv.size];simp;omega
 exact hL e.on (by omega) (by simpa [h5] using h4) b h3):P:=h
theorem J132 (P:Prop) (h:P:=by
 intro i hi
 obtain ⟨g,o,e,hg,c0⟩:=h i hi;exact ⟨g,o,e,hg,hk.cell (p:=⟨g,_,none⟩) (hS g hg) c0⟩):P:=h
theorem J146 (P:Prop) (h:P:=by
 clear h;go_enter Tryz.func98,Tryz.ntmps98
 go_wp2_with fail
 go_ret
 exact ⟨rfl,rfl⟩):P:=h
theorem J196 (P:Prop) (h:P:=by first | rfl | (congr 1 <;> omega)):P:=h
theorem J206 (P:Prop) (h:P:=by rw [<- HD.out.1];congr 1 <;> omega):P:=h
def zAW (w:World) (F:Nat -> Prop) (b n:Nat) (ad:Option Addr):Prop :=
 ∀ i,i < (dig b n).length -> ∃ g o,ad=some ⟨g,o,none⟩ /\ F g /\ w.cell? ⟨g,o+i,none⟩=some (.int .i64 ((n / b ^ i % b:Nat):Int))
theorem zAW.keeps {S F:Nat -> Prop} {w w':World} {b n:Nat} {ad:Option Addr} (h:zAW w F b n ad) (hk:Keeps S w w') (hS:∀ k,F k -> ¬ S k):zAW w' F b n ad:=by
 exact J132 _
theorem zAW.mono {F F':Nat -> Prop} {w:World} {b n:Nat} {ad:Option Addr} (h:zAW w F b n ad) (hF:∀ k,F k -> F' k):zAW w F' b n ad:=by
 intro i hi
 obtain ⟨g,o,e,hg,c0⟩:=h i hi;exact ⟨g,o,e,hF g hg,c0⟩
theorem zAW.zero (w:World) (F:Nat -> Prop) (b:Nat) (ad:Option Addr):zAW w F b 0 ad:=by
 intro i hi;rw [zCJ] at hi;cases hi
def zCF (b m n:Nat):List Value:=(List.range n).map fun j=>.int .i64 ((m / b ^ j % b:Nat):Int)
theorem zKE (b m n:Nat):zCF b m (n+1)=zCF b m n++[.int .i64 ((m / b ^ n % b:Nat):Int)]:=by
 unfold zCF;rw [List.range_succ,yt];rfl
theorem zAW.ofRow {w:World} {F:Nat -> Prop} {b m n cap:Nat} {ty:TypeId} {ad:Option Addr} (h:w.ownsRow 0 ty 1 (.slice ad n cap) n (zCF b m n)) (hn:n=(dig b m).length) (hF:∀ kb,(Value.slice ad n cap).ownBlock=some kb -> F kb):zAW w F b m ad:=by
 intro i hi
 rw [<- hn] at hi;obtain ⟨g,c,hv,_,_⟩:=h.form (by omega);cases hv;have hr:=uC h;refine ⟨g,0,rfl,hF g rfl,?_⟩
 rw [yZ];refine hr.cell ?_
 unfold zCF;rw [kY,List.getElem?_range hi];rfl
theorem zDL {b n i:Nat} (hb:2 <= b) (h:n < b ^ i):(dig b n).length <= i:=by
 rcases xR i (dig b n).length with h1 | h1
 ·have:=(zl hb i n).1 h1;omega
 ·exact h1
theorem zEn {b n i:Nat} (hb:2 <= b) (h:(dig b n).length <= i):n / b ^ i % b=0:=by
 have h1:¬ b ^ i <= n:=fun e=>by have:=(zl hb i n).2 e;omega
 rw [yi (by omega)];exact Nat.zero_mod b
theorem zGm {b:Nat} (hb:2 <= b) (n i:Nat):0 < n / b ^ i ↔ i < (dig b n).length:=by
 rw [zl hb,Nat.div_pos_iff];have:0 < b ^ i:=vY (by omega)
 exact ⟨fun h=>h.2,fun h=>⟨this,h⟩⟩
theorem zIL {b:Nat} (hb:2 <= b) (x y i:Nat):(i < max (dig b x).length (dig b y).length \/ 0 < (x % b ^ i+y % b ^ i) / b ^ i) ↔ i < (dig b (x+y)).length:=by
 have hp:0 < b ^ i:=vY (by omega);have h1:=zl hb i x;have h2:=zl hb i y;rw [zl hb,Nat.div_pos_iff];constructor
 ·rintro (h | h)
  ·rcases (show i < (dig b x).length \/ i < (dig b y).length by omega) with h | h
   ·have:=h1.1 h;omega
   ·have:=h2.1 h;omega
  ·have:=Nat.mod_le x (b ^ i);have:=Nat.mod_le y (b ^ i);omega
 ·intro h
  by_cases hx:b ^ i <= x
  ·have:=h1.2 hx;left;omega
  ·by_cases hy:b ^ i <= y
   ·have:=h2.2 hy;left;omega
   ·right;rw [kG (by omega),kG (by omega)];exact ⟨hp,h⟩
theorem zGr {b:Nat} (hb:2 <= b) (x k i:Nat) (hk:0 < k):(i < (dig b x).length \/ 0 < x % b ^ i*k / b ^ i) ↔ i < (dig b (x*k)).length:=by
 have hp:0 < b ^ i:=vY (by omega);have h1:=zl hb i x;have h3:x <= x*k:=vS x hk;rw [zl hb i (x*k),Nat.div_pos_iff];constructor
 ·rintro (h | h)
  ·have:=h1.1 h;omega
  ·have:=vC k (Nat.mod_le x (b ^ i));omega
 ·intro h
  by_cases hx:b ^ i <= x
  ·have:=h1.2 hx;left;omega
  ·right;rw [kG (by omega)];exact ⟨hp,h⟩
theorem zGK {b:Nat} (hb:2 <= b) (x y i:Nat):(x % b ^ i+y % b ^ i) / b ^ i < 2:=by
 have hp:0 < b ^ i:=vY (by omega);have h1:=Nat.mod_lt x hp;have h2:=Nat.mod_lt y hp;rw [Nat.div_lt_iff_lt_mul hp];omega
theorem zFc {b:Nat} (hb:2 <= b) (x k i:Nat) (hk:0 < k):x % b ^ i*k / b ^ i < k:=by
 have hp:0 < b ^ i:=vY (by omega);have h1:=Nat.mod_lt x hp;rw [Nat.div_lt_iff_lt_mul hp,Nat.mul_comm k];exact Nat.mul_lt_mul_of_pos_right h1 hk
theorem zC8 {b:Nat} (hb:2 <= b) (x i:Nat):x / b ^ i % b < b:=Nat.mod_lt _ (by omega)
theorem zA3:(Tryz.prog.info? 3).map (fun i=>(i.zero,i.size,i.bytes))=some (some (.int .i64 0),1,8):=by kernel_rfl
def zBb (b m:Nat) (w:World) (r:Ending) (w':World):Prop :=
 ∃ ad cap,r=.returned (.slice ad (dig b m).length cap) /\ zAW w' (Since w.heap.size w') b m ad /\ Keeps zA w w'
theorem grow {b m i dc2:Nat} {da da2:Option Addr} {dc:Nat} {w wr w4:World} {z:Value} {o:Obj} (HO:wr.ownsRow 0 3 1 (.slice da i dc) i (zCF b m i)) (HK:Keeps zA w wr) (HB:∀ kb,(Value.slice da i dc).ownBlock=some kb -> w.heap.size <= kb)
 (hz:z=.int .i64 ((m / b ^ i % b:Nat):Int)) (HA:zAB (wr.alloc o) 0 3 1 (.slice da i dc) (i+1) (zCF b m i++[z]) da2 dc2 w4) :
 w4.ownsRow 0 3 1 (.slice da2 (i+1) dc2) (i+1) (zCF b m (i+1)) /\ Keeps zA w w4 /\ ∀ kb,(Value.slice da2 (i+1) dc2).ownBlock=some kb -> w.heap.size <= kb:=by
 subst hz;refine ⟨?_,?_,?_⟩
 ·have h1:=HA.1
  rw [<- zKE] at h1;exact h1
 ·exact xV HA (HK.alloc _) (fun q e hq=>by have:=HB q e;omega)
 ·intro kb e
  rcases HA.2.2 kb e with h1 | h1
  ·exact HB kb h1
  ·rw [h1];have:=HK.size;simp;omega
theorem zKr (n:Nat) (hn:n < 9000000000000000000) (w:World):Calls Tryz.prog 69 #[.int .i64 n] w (zBb 1000000000 n w):=by
 obtain ⟨j0,hj0,hz0,hz1,hz2⟩:=info_parts zA3;obtain ⟨N,hN⟩:=eX ((dig 1000000000 n).length);have HN:=yB hN;have hN2:N <= 64:=by rw [hN];exact zDL (by decide) (yI hn (by decide))
 unfold zBb;rw [<- hN];clear hN;go_enter Tryz.func69,Tryz.ntmps69
 go_wp2_with fail
 go_loopw [0,3] (fun nv ov wr=>∃ (i m:Nat) (da:Option Addr) (dc:Nat),i <= N /\ nv=.int .i64 m /\ ov=.slice da i dc /\ Hid (m=n / 1000000000 ^ i) /\ m < 9000000000000000000 /\ Hid (wr.ownsRow 0 3 1 (.slice da i dc) i (zCF 1000000000 n i)) /\ Hid (Keeps zA w wr) /\ Hid (∀ kb,(Value.slice da i dc).ownBlock=some kb -> w.heap.size <= kb)) (fun nv _ _=>(intOf nv).toNat)
 case atStart=>exact ⟨0,n,none,0,yJ _,rfl,rfl,by show _=_;simp,hn,xJ _ _ _ _,yC _ _,fun kb e=>by exact J190 _⟩
 case round =>
  obtain ⟨i,m,da,dc,hi,rfl,rfl,HM,hm9,HO,HK,HB⟩:=hrel;have hrun:=zGm (b:=1000000000) (by decide) n i;rw [<- HM.out,<- HN.out] at hrun;by_cases hlt:0 < m
  ·have i1:(0:Int) < m:=by omega
   have hiN:=hrun.1 hlt;have HD:Hid (m % 1000000000=n / 1000000000 ^ i % 1000000000 /\ m / 1000000000=n / 1000000000 ^ (i+1)):=⟨by rw [HM.out],by rw [HM.out,vW,uV]⟩;clear hrun;go_wp2_with (at_builtin;refine zI _ (by rfl) _ _ 128 (by rfl) 0 3 j0 _ 1 8 Tryz.underlying128 hj0 hz0 hz1 hz2 rfl (by decide) (.slice da i dc) i (zCF 1000000000 n i) (by rfl) (zG HO.out ((yC zA wr).alloc _) (fun _ _ h=>h)) (.slice (some ⟨wr.heap.size,0,none⟩) 1 1) 1 _ (by rfl) (xN (yN (yK wr _))) rfl (J185 _) (by unfold maxLen;omega) (by omega) (yJ _) ?_;intro da2 dc2 w4 ha;have HA:=yB ha;clear ha)
   go_roundw
   case rel =>
    obtain ⟨g1,g2,g3⟩:=grow HO.out HK.out HB.out (J206 _) HA.out;exact ⟨i+1,m / 1000000000,da2,dc2,by omega,by exact J196 _,by go_num,HD.out.2,by omega,g1,g2,g3⟩
   case measure=>simp [intOf];omega
  ·exact J64 _
theorem zIw (n:Nat) (hn:n < 9000000000000000000) (w:World):Calls Tryz.prog 58 #[.int .i64 n] w (zBb 10 n w):=by
 obtain ⟨j0,hj0,hz0,hz1,hz2⟩:=info_parts zA3;obtain ⟨N,hN⟩:=eX ((dig 10 n).length);have HN:=yB hN;have hN2:N <= 64:=by rw [hN];exact zDL (by decide) (yI hn (by decide))
 unfold zBb;rw [<- hN];clear hN;go_enter Tryz.func58,Tryz.ntmps58
 go_wp2_with fail
 go_loopw [0,3] (fun nv ov wr=>∃ (i m:Nat) (da:Option Addr) (dc:Nat),i <= N /\ nv=.int .i64 m /\ ov=.slice da i dc /\ Hid (m=n / 10 ^ i) /\ m < 9000000000000000000 /\ Hid (wr.ownsRow 0 3 1 (.slice da i dc) i (zCF 10 n i)) /\ Hid (Keeps zA w wr) /\ Hid (∀ kb,(Value.slice da i dc).ownBlock=some kb -> w.heap.size <= kb)) (fun nv _ _=>(intOf nv).toNat)
 case atStart=>exact ⟨0,n,none,0,yJ _,rfl,rfl,by show _=_;simp,hn,xJ _ _ _ _,yC _ _,fun kb e=>by exact J190 _⟩
 case round =>
  obtain ⟨i,m,da,dc,hi,rfl,rfl,HM,hm9,HO,HK,HB⟩:=hrel;have hrun:=zGm (b:=10) (by decide) n i;rw [<- HM.out,<- HN.out] at hrun;by_cases hlt:0 < m
  ·have i1:(0:Int) < m:=by omega
   have hiN:=hrun.1 hlt;have HD:Hid (m % 10=n / 10 ^ i % 10 /\ m / 10=n / 10 ^ (i+1)):=⟨by rw [HM.out],by rw [HM.out,vW,uV]⟩;clear hrun;go_wp2_with (at_builtin;refine zI _ (by rfl) _ _ 22 (by rfl) 0 3 j0 _ 1 8 xG hj0 hz0 hz1 hz2 rfl (by decide) (.slice da i dc) i (zCF 10 n i) (by rfl) (zG HO.out ((yC zA wr).alloc _) (fun _ _ h=>h)) (.slice (some ⟨wr.heap.size,0,none⟩) 1 1) 1 _ (by rfl) (xN (yN (yK wr _))) rfl (J185 _) (by unfold maxLen;omega) (by omega) (yJ _) ?_;intro da2 dc2 w4 ha;have HA:=yB ha;clear ha)
   go_roundw
   case rel =>
    obtain ⟨g1,g2,g3⟩:=grow HO.out HK.out HB.out (J206 _) HA.out;exact ⟨i+1,m / 10,da2,dc2,by omega,by exact J196 _,by go_num,HD.out.2,by omega,g1,g2,g3⟩
   case measure=>simp [intOf];omega
  ·exact J64 _
theorem zDE (b:Nat) (hb:2 <= b) (n:Nat) (i:Nat) (w:World) (F:Nat -> Prop) (ad:Option Addr) (cap:Nat) (h:zAW w F b n ad) :
 Calls Tryz.prog 98 #[.slice ad (dig b n).length cap, .int .i64 i] w fun e w'=>e=.returned (.int .i64 ((n / b ^ i % b:Nat):Int)) /\ w=w':=by
 by_cases hi:i < (dig b n).length
 ·obtain ⟨g,o,e,hg,c0⟩:=h i hi
  subst e;generalize n / b ^ i % b=d at c0 ⊢;generalize (dig b n).length=l at hi ⊢;have i1:(0:Int) <= i:=by omega
  have i2:(i:Int) < l:=by omega
  exact J146 _
 ·rw [zEn hb (by omega)]
  generalize (dig b n).length=l at hi ⊢;have i2:¬ (i:Int) < l:=by omega
  exact J146 _
def zFq (gs:Nat -> Nat × Nat) (i:Nat) (p:Nat × Nat) (j:Nat):Nat × Nat:=if j=i then p else gs j
def zM9 (md:Region.Mode) (l:List Oper) (n:Nat) (D:Nat -> List Nat):Bool :=
 (List.range n).all fun i=>((l[i]?).map fun o=>(D i).all fun a=>decide (a=i) || o.after.any fun e=>Region.binds md e&&(D e.on).contains a).getD true
section
variable {P:Program}
theorem zCA {id:Nat} {Q:Exit -> Act -> World -> Prop} {a:Act} {w:World} {l:List Oper} (n:Nat) (hm:P.follows .mixedOrders=true) (hB:zHN .any l n=true) (D:Nat -> List Nat) (hDB:zM9 .any l n D=true)
 (R:World -> World -> Prop) (hrefl:∀ w,R w w) (htrans:∀ a b c,R a b -> R b c -> R a c) (hsz:∀ a b,R a b -> a.heap.size <= b.heap.size) (F:Nat -> Value -> (Nat -> Nat × Nat) -> World -> Prop) (hst:∀ j v gs W W',F j v gs W -> R W W' -> F j v gs W') (hloc:∀ j v gs gs' W,(∀ a,a ∈ D j -> gs a=gs' a) -> F j v gs W -> F j v gs' W)
 (hstep:∀ i o,i < n -> l[i]?=some o -> ∀ (vs:Nat -> Value) (gs:Nat -> Nat × Nat) (W:World) (Q':Exit -> Act -> World -> Prop),R w.drew W -> (∀ j,(o.after.any fun e=>Region.binds .any e&&decide (e.on=j))=true -> F j (vs j) gs W) →
   (∀ v W',R W W' -> F i v (zFq gs i (W.heap.size,W'.heap.size)) W' -> Q' .normal ((zJ l vs a n).put o.dst v) W') -> wpList P l.toArray Q' [o] (zJ l vs a n) W)
 (htail:∀ (vs:Nat -> Value) (gs:Nat -> Nat × Nat) (W:World),R w.drew W -> (∀ j,j < n -> F j (vs j) gs W) -> (∀ j,j < n -> (gs j).2 <= W.heap.size) -> (∀ i j,i < n -> j < n -> i ≠ j -> (gs i).2 <= (gs j).1 \/ (gs j).2 <= (gs i).1) -> wpList P l.toArray Q (l.drop n) (zJ l vs a n) W):(Code.region id l.toArray true).wp P Q a w:=by
 simp only [zHN,yT,yU,xI,xW] at hB;obtain ⟨⟨⟨⟨⟨hn,hs⟩,hc⟩,hback⟩,hdis⟩,hseq⟩:=hB
 have key:∀ (f:Nat) (listed:Array Bool) (vs:Nat -> Value) (gs:Nat -> Nat × Nat) (W:World),HeadInv .any l.toArray n listed -> zBn listed n=f -> R w.drew W -> (∀ j,j < n -> listed.getD j true=true -> F j (vs j) gs W) -> (∀ j,j < n -> listed.getD j true=true -> ∀ a,a ∈ D j -> listed.getD a true=true) -> (∀ j,j < n -> listed.getD j true=true -> (gs j).2 <= W.heap.size) -> (∀ i j,i < n -> j < n -> i ≠ j -> listed.getD i true=true -> listed.getD j true=true -> (gs i).2 <= (gs j).1 \/ (gs j).2 <= (gs i).1) →
  wpAny P .any l.toArray Q (f+(l.length - n)) listed (zJ l vs a n) W:=by
  intro f
  induction f with
  | zero =>
    intro listed vs gs W inv hcnt hR hF hL hG hD
    have hall:=zB8 n hcnt
    have he:listed=zn n (l.length - n):=by
     exact J9 _
    have h1:=htail vs gs W hR (fun j hj=>hF j hj (hall j hj)) (fun j hj=>hG j hj (hall j hj)) (fun i j hi hj hne=>hD i j hi hj hne (hall i hi) (hall j hj));have hdl:(l.drop n).length=l.length - n:=by simp
    have:=wpAny_of_seq (P:=P) (md:=.any) (ops:=l.toArray) (Q':=Q) (l.drop n) n listed (zJ l vs a n) W (fun j=>by simp [yl]) (by rw [hdl,he];exact hseq) h1
    rw [hdl] at this;rw [yZ];exact this
  | succ f ih =>
    intro listed vs gs W inv hcnt hR hF hL hG hD
    obtain ⟨i0,hi0,hu0,hb0⟩:=zBP n (by omega:zBn listed n ≠ 0)
    have hr0:i0 ∈ Region.ready .any l.toArray listed:=by
     exact J12 _
    rw [show f+1+(l.length - n)=(f+(l.length - n))+1 by omega];refine ⟨fun h0=>by exact J218 _,fun i hi=>?_⟩
    have hin:i < n:=by
     exact J116 _
    have hun:=(vJ.1 hi).1;obtain ⟨_,o,ho,hafter⟩:=vJ.1 hi;have ho':l[i]?=some o:=by simpa using ho
    refine zBv ho (hstep i o hin ho' vs gs W _ hR (fun j hj=>?_) (fun v W' hR' hF'=>?_))
    ·exact J10 _
    ·have hd:o.dst=(l[i]?).bind (·.dst):=by rw [ho'];rfl
     show wpAny P .any l.toArray Q (f+(l.length - n)) (listed.setIfInBounds i true) ((zJ l vs a n).put o.dst v) W'
     rw [hd,zBT v n vs hin (hdis n (by omega)) (fun m hm=>hdis m (by omega))];have hne0:∀ j,j < n -> listed.getD j true=true -> j ≠ i:=fun j hj hl e=>by subst e;rw [hun] at hl;cases hl
     refine ih _ _ (zFq gs i (W.heap.size,W'.heap.size)) _ (inv.set hi hin) ?_ (htrans _ _ _ hR hR') (fun j hj hl=>?_) (fun j hj hl b hb=>?_) (fun j hj hl=>?_) (fun i1 j1 hi1 hj1 hne hl1 hl2=>?_)
     ·exact J79 _
     ·exact J56 _
     ·by_cases eb:b=i
      ·subst eb
       by_cases hs2:b < listed.size
       ·simp [hs2]
       ·simp [hs2]
      ·rw [uL true (fun h=>eb h.symm)]
       by_cases e:j=i
       ·subst e
        have h1:=xI.1 hDB j (xW.2 hin);simp only [ho',vU,yh,xI] at h1;have h2:=h1 b hb;simp only [kP,yU,Array.any_eq_true',yT,List.contains_iff_mem] at h2;rcases h2 with h2 | ⟨e,he,hbe,h3⟩
        ·exact absurd h2 eb
        ·have h4:=hafter e he hbe
         have hle:e.on < j:=by
          have h1:=xI.1 hback j (xW.2 hin);simp only [ho',vU,yh,vG] at h1;have h2:=h1 e he;simpa only [hbe,Bool.not_true,Bool.false_or,yU] using h2
         exact J128 _
       ·rw [uL true (fun h=>e h.symm)] at hl
        exact hL j hj hl b hb
     ·by_cases e:j=i
      ·subst e;unfold zFq;rw [if_pos rfl];exact yV _
      ·rw [uL true (fun h=>e h.symm)] at hl
       unfold zFq;rw [if_neg e];exact yX (hG j hj hl) (hsz _ _ hR')
     ·by_cases e1:i1=i
      ·subst e1
       have e2:¬ j1=i1:=fun h=>hne h.symm
       rw [uL true hne] at hl2;unfold zFq;rw [if_pos rfl,if_neg e2];exact .inr (hG j1 hj1 hl2)
      ·rw [uL true (fun h=>e1 h.symm)] at hl1
       by_cases e2:j1=i
       ·subst e2
        unfold zFq;rw [if_pos rfl,if_neg e1];exact .inl (hG i1 hi1 hl1)
       ·rw [uL true (fun h=>e2 h.symm)] at hl2
        unfold zFq;rw [if_neg e1,if_neg e2];exact hD i1 j1 hi1 hj1 hne hl1 hl2
 refine wp_region_any hm ?_
 have inv0:HeadInv .any l.toArray n (Array.replicate l.toArray.size false) :=
  ⟨by simp,fun j oj _ hl=>(J220 _),fun t _ ht=>getD_in (by simpa using ht) (vQ _ _)⟩
 have hcn:∀ m,m <= l.length -> zBn (Array.replicate l.toArray.size false) m=m:=by
  exact J29 _
 have hno:∀ j,j < n -> (Array.replicate l.toArray.size false).getD j true=true -> False:=fun j hj hl=>by
  have h1:j < l.length:=by omega
  have:(Array.replicate l.toArray.size false).getD j true=false:=by simp [h1]
  rw [this] at hl;cases hl
 have:=key n (Array.replicate l.toArray.size false) (slotsOf l a) (fun _=>(0,0)) w.drew inv0 (hcn n (by omega)) (hrefl _) (fun j hj hl=>(hno j hj hl).elim) (fun j hj hl=>(hno j hj hl).elim) (fun j hj hl=>(hno j hj hl).elim) (fun i j hi hj _ hl _=>(hno i hi hl).elim)
 rw [zBs l a n,show n+(l.length - n)=l.toArray.size by simp;omega] at this;exact this
end
end Go.Proofs.YtfokdllgnblamaaGreatDoor
