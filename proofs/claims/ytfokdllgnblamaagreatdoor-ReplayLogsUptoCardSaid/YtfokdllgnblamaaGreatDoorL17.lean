/- Layer L: texts joined. -/
import Derived.Test.YtfokdllgnblamaaGreatDoorL12
import Derived.Test.YtfokdllgnblamaaGreatDoorL13
set_option linter.all false
set_option maxRecDepth 8000
namespace Go.Proofs.YtfokdllgnblamaaGreatDoor
abbrev kR:=@Nat.mul_add
abbrev kQ:=@Nat.mod_eq_of_lt
abbrev kP:=@Nat.div_eq_of_lt
abbrev vT:=@Nat.pow_pos
abbrev vQ:=@Nat.le_mul_of_pos_right
abbrev vM:=@Nat.mul_le_mul_right
abbrev uX:=@Nat.div_div_eq_div_mul
abbrev uL:=@Nat.pow_succ
abbrev uI:=@Nat.lt_of_not_le
abbrev xO:=@Go.Proofs.Tryz.underlying22
theorem J49 (P:Prop) (h:P:=by
 have h0:m=0:=by omega
 subst h0
 have hiN:i=N:=by
  rcases xL i N with h | h
  ·have:=hrun.2 h;omega
  ·omega
 subst hiN;go_wp2_with fail
 go_ret
 exact ⟨da,dc,by go_num,zAG.ofRow HO.out HN.out (fun kb e=>⟨HB.out kb e,zM HO.out e⟩),HK.out⟩):P:=h
theorem J70 (P:Prop) (h:P:=by
 go_wp2_with fail
 go_ret
 exact ⟨rfl,rfl⟩):P:=h
theorem J91 (P:Prop) (h:P:=by rw [this,Nat.add_mul_div_left _ _ hp];omega):P:=h
theorem J104x16 (P:Prop) (h:P:=by
 intro i hi
 obtain ⟨g,o,e,hg,c0⟩:=h i hi;exact ⟨g,o,e,hg,hk.cell (p:=⟨g,_,none⟩) (hS g hg) c0⟩):P:=h
theorem J131 (P:Prop) (h:P:=by
 have hd2:v=tot:=by rw [<- hd];omega
 exact J13 _):P:=h
theorem J159 (P:Prop) (h:P:=by first | rfl | (congr 1 <;> omega)):P:=h
theorem J173 (P:Prop) (h:P:=by rw [<- HD.out.1];congr 1 <;> omega):P:=h
def zn (b n:Nat):List Nat :=
 if h:n=0 \/ b < 2 then [] else n % b :: zn b (n / b)
termination_by n
decreasing_by
 have h1:n ≠ 0:=fun e=>h (.inl e)
 have h2:¬ b < 2:=fun e=>h (.inr e)
 exact Nat.div_lt_self (by omega) (by omega)
theorem zA1 (b:Nat):zn b 0=[]:=by rw [zn];simp
theorem zCe {b n:Nat} (hb:2 <= b) (hn:n ≠ 0):zn b n=n % b :: zn b (n / b):=by
 rw [zn,dif_neg (by omega)]
theorem zh {b:Nat} (hb:2 <= b) (i:Nat):∀ n,i < (zn b n).length ↔ b ^ i <= n:=by
 induction i with
 | zero =>
   intro n
   by_cases hn:n=0
   ·subst hn;simp [zA1]
   ·rw [zCe hb hn];simp;omega
 | succ i ih =>
   intro n
   by_cases hn:n=0
   ·subst hn
    have:0 < b ^ (i+1):=vT (by omega)
    simp [zA1];omega
   ·rw [zCe hb hn]
    simp only [xQ,Nat.add_lt_add_iff_right];rw [ih,Nat.le_div_iff_mul_le (by omega),uL]
theorem zNQ {b:Nat} (hb:2 <= b) (i:Nat):∀ n,(zn b n).getD i 0=n / b ^ i % b:=by
 induction i with
 | zero =>
   intro n
   by_cases hn:n=0
   ·subst hn;simp [zA1]
   ·rw [zCe hb hn];simp
 | succ i ih =>
   intro n
   by_cases hn:n=0
   ·subst hn;simp [zA1]
   ·rw [zCe hb hn]
    have:=ih (n / b)
    rw [List.getD_cons_succ,this,uX,uL,Nat.mul_comm b]
theorem zGN {b:Nat} (hb:2 <= b) (x y i:Nat) :
 (x / b ^ i % b+y / b ^ i % b+(x % b ^ i+y % b ^ i) / b ^ i) % b=(x+y) / b ^ i % b ∧
 (x / b ^ i % b+y / b ^ i % b+(x % b ^ i+y % b ^ i) / b ^ i) / b=(x % b ^ (i+1)+y % b ^ (i+1)) / b ^ (i+1):=by
 have hp:0 < b ^ i:=vT (by omega)
 have e1:(x+y) / b ^ i=x / b ^ i+y / b ^ i+(x % b ^ i+y % b ^ i) / b ^ i:=by
  have hx:=Nat.div_add_mod x (b ^ i);have hy:=Nat.div_add_mod y (b ^ i)
  have:x+y=x % b ^ i+y % b ^ i+b ^ i*(x / b ^ i+y / b ^ i):=by
   rw [kR];omega
  exact J91 _
 constructor
 ·rw [e1]
  simp [Nat.add_mod]
 ·have hx:x % b ^ (i+1)=x % b ^ i+b ^ i*(x / b ^ i % b):=Nat.mod_pow_succ
  have hy:y % b ^ (i+1)=y % b ^ i+b ^ i*(y / b ^ i % b):=Nat.mod_pow_succ;rw [hx,hy,uL,<- uX];congr 1
  have:x % b ^ i+b ^ i*(x / b ^ i % b)+(y % b ^ i+b ^ i*(y / b ^ i % b))=x % b ^ i+y % b ^ i+b ^ i*(x / b ^ i % b+y / b ^ i % b):=by rw [kR];omega
  exact J91 _
theorem zGe {b:Nat} (hb:2 <= b) (x k i:Nat) :
 (x / b ^ i % b*k+x % b ^ i*k / b ^ i) % b=x*k / b ^ i % b /\ (x / b ^ i % b*k+x % b ^ i*k / b ^ i) / b=x % b ^ (i+1)*k / b ^ (i+1):=by
 have hp:0 < b ^ i:=vT (by omega)
 have e1:x*k / b ^ i=x / b ^ i*k+x % b ^ i*k / b ^ i:=by
  have hx:=Nat.div_add_mod x (b ^ i)
  have:x*k=x % b ^ i*k+b ^ i*(x / b ^ i*k):=by
   rw [<- Nat.mul_assoc,<- vH];congr 1;omega
  exact J91 _
 constructor
 ·rw [e1]
  simp [Nat.add_mod,Nat.mul_mod]
 ·have hx:x % b ^ (i+1)=x % b ^ i+b ^ i*(x / b ^ i % b):=Nat.mod_pow_succ
  rw [hx,uL,<- uX];congr 1
  have:(x % b ^ i+b ^ i*(x / b ^ i % b))*k=x % b ^ i*k+b ^ i*(x / b ^ i % b*k):=by rw [vH,Nat.mul_assoc]
  exact J91 _
theorem zDl {b:Nat} (hb:2 <= b) {x y i:Nat} (h:x / b ^ (i+1)=y / b ^ (i+1)) :
 (x / b ^ i % b=y / b ^ i % b -> x / b ^ i=y / b ^ i) /\ (x / b ^ i % b < y / b ^ i % b -> x < y):=by
 have hp:0 < b ^ i:=vT (by omega);have ex:=Nat.div_add_mod (x / b ^ i) b;have ey:=Nat.div_add_mod (y / b ^ i) b;rw [uX,<- uL] at ex ey;rw [h] at ex;refine ⟨fun e=>by rw [<- ex,<- ey,e],fun e=>?_⟩
 have h1:x / b ^ i < y / b ^ i:=by
  generalize b*(y / b ^ (i+1))=z at ex ey;omega
 exact uI fun hle=>by
  have:=Nat.div_le_div_right (c:=b ^ i) hle
  omega
def zB7 (n:Nat):List UInt8:=if n=0 then [48] else ((zn 10 n).reverse.map fun d=>UInt8.ofNat (48+d))
end Go.Proofs.YtfokdllgnblamaaGreatDoor
namespace Go.Proofs.YtfokdllgnblamaaGreatDoor
open Go.RowKit
def zAG (w:World) (F:Nat -> Prop) (b n:Nat) (ad:Option Addr):Prop :=
 ∀ i,i < (zn b n).length -> ∃ g o,ad=some ⟨g,o,none⟩ /\ F g /\ w.cell? ⟨g,o+i,none⟩=some (.int .i64 ((n / b ^ i % b:Nat):Int))
theorem zAG.keeps {S F:Nat -> Prop} {w w':World} {b n:Nat} {ad:Option Addr} (h:zAG w F b n ad) (hk:Keeps S w w') (hS:∀ k,F k -> ¬ S k):zAG w' F b n ad:=by
 exact J104x16 _
theorem zAG.mono {F F':Nat -> Prop} {w:World} {b n:Nat} {ad:Option Addr} (h:zAG w F b n ad) (hF:∀ k,F k -> F' k):zAG w F' b n ad:=by
 intro i hi
 obtain ⟨g,o,e,hg,c0⟩:=h i hi;exact ⟨g,o,e,hF g hg,c0⟩
theorem zAG.zero (w:World) (F:Nat -> Prop) (b:Nat) (ad:Option Addr):zAG w F b 0 ad:=by
 intro i hi;rw [zA1] at hi;cases hi
def zCB (b m n:Nat):List Value:=(List.range n).map fun j=>.int .i64 ((m / b ^ j % b:Nat):Int)
theorem zKX (b m n:Nat):zCB b m (n+1)=zCB b m n++[.int .i64 ((m / b ^ n % b:Nat):Int)]:=by
 unfold zCB;rw [List.range_succ,kD];rfl
theorem zAG.ofRow {w:World} {F:Nat -> Prop} {b m n cap:Nat} {ty:TypeId} {ad:Option Addr} (h:w.ownsRow 0 ty 1 (.slice ad n cap) n (zCB b m n)) (hn:n=(zn b m).length) (hF:∀ kb,(Value.slice ad n cap).ownBlock=some kb -> F kb):zAG w F b m ad:=by
 intro i hi
 rw [<- hn] at hi;obtain ⟨g,c,hv,_,_⟩:=h.form (by omega);cases hv;have hr:=uG h;refine ⟨g,0,rfl,hF g rfl,?_⟩
 rw [xC];refine hr.cell ?_
 unfold zCB;rw [uO,List.getElem?_range hi];rfl
theorem zC4 {b n i:Nat} (hb:2 <= b) (h:n < b ^ i):(zn b n).length <= i:=by
 rcases xL i (zn b n).length with h1 | h1
 ·have:=(zh hb i n).1 h1;omega
 ·exact h1
theorem zEL {b n i:Nat} (hb:2 <= b) (h:(zn b n).length <= i):n / b ^ i % b=0:=by
 have h1:¬ b ^ i <= n:=fun e=>by have:=(zh hb i n).2 e;omega
 rw [kP (by omega)];exact Nat.zero_mod b
theorem zGK {b:Nat} (hb:2 <= b) (n i:Nat):0 < n / b ^ i ↔ i < (zn b n).length:=by
 rw [zh hb,Nat.div_pos_iff];have:0 < b ^ i:=vT (by omega)
 exact ⟨fun h=>h.2,fun h=>⟨this,h⟩⟩
theorem zHZ {b:Nat} (hb:2 <= b) (x y i:Nat):(i < max (zn b x).length (zn b y).length \/ 0 < (x % b ^ i+y % b ^ i) / b ^ i) ↔ i < (zn b (x+y)).length:=by
 have hp:0 < b ^ i:=vT (by omega);have h1:=zh hb i x;have h2:=zh hb i y;rw [zh hb,Nat.div_pos_iff];constructor
 ·rintro (h | h)
  ·rcases (show i < (zn b x).length \/ i < (zn b y).length by omega) with h | h
   ·have:=h1.1 h;omega
   ·have:=h2.1 h;omega
  ·have:=Nat.mod_le x (b ^ i);have:=Nat.mod_le y (b ^ i);omega
 ·intro h
  by_cases hx:b ^ i <= x
  ·have:=h1.2 hx;left;omega
  ·by_cases hy:b ^ i <= y
   ·have:=h2.2 hy;left;omega
   ·right;rw [kQ (by omega),kQ (by omega)];exact ⟨hp,h⟩
theorem zGJ {b:Nat} (hb:2 <= b) (x k i:Nat) (hk:0 < k):(i < (zn b x).length \/ 0 < x % b ^ i*k / b ^ i) ↔ i < (zn b (x*k)).length:=by
 have hp:0 < b ^ i:=vT (by omega);have h1:=zh hb i x;have h3:x <= x*k:=vQ x hk;rw [zh hb i (x*k),Nat.div_pos_iff];constructor
 ·rintro (h | h)
  ·have:=h1.1 h;omega
  ·have:=vM k (Nat.mod_le x (b ^ i));omega
 ·intro h
  by_cases hx:b ^ i <= x
  ·have:=h1.2 hx;left;omega
  ·right;rw [kQ (by omega)];exact ⟨hp,h⟩
theorem zFZ {b:Nat} (hb:2 <= b) (x y i:Nat):(x % b ^ i+y % b ^ i) / b ^ i < 2:=by
 have hp:0 < b ^ i:=vT (by omega);have h1:=Nat.mod_lt x hp;have h2:=Nat.mod_lt y hp;rw [Nat.div_lt_iff_lt_mul hp];omega
theorem zE7 {b:Nat} (hb:2 <= b) (x k i:Nat) (hk:0 < k):x % b ^ i*k / b ^ i < k:=by
 have hp:0 < b ^ i:=vT (by omega);have h1:=Nat.mod_lt x hp;rw [Nat.div_lt_iff_lt_mul hp,Nat.mul_comm k];exact Nat.mul_lt_mul_of_pos_right h1 hk
theorem zCT {b:Nat} (hb:2 <= b) (x i:Nat):x / b ^ i % b < b:=Nat.mod_lt _ (by omega)
theorem zBs:(Tryz.prog.info? 3).map (fun i=>(i.zero,i.size,i.bytes))=some (some (.int .i64 0),1,8):=by kernel_rfl
def zBU (b m:Nat) (w:World) (r:Ending) (w':World):Prop :=
 ∃ ad cap,r=.returned (.slice ad (zn b m).length cap) /\ zAG w' (Since w.heap.size w') b m ad /\ Keeps zA w w'
theorem grow {b m i dc2:Nat} {da da2:Option Addr} {dc:Nat} {w wr w4:World} {z:Value} {o:Obj} (HO:wr.ownsRow 0 3 1 (.slice da i dc) i (zCB b m i)) (HK:Keeps zA w wr) (HB:∀ kb,(Value.slice da i dc).ownBlock=some kb -> w.heap.size <= kb)
 (hz:z=.int .i64 ((m / b ^ i % b:Nat):Int)) (HA:zy (wr.alloc o) 0 3 1 (.slice da i dc) (i+1) (zCB b m i++[z]) da2 dc2 w4) :
 w4.ownsRow 0 3 1 (.slice da2 (i+1) dc2) (i+1) (zCB b m (i+1)) /\ Keeps zA w w4 /\ ∀ kb,(Value.slice da2 (i+1) dc2).ownBlock=some kb -> w.heap.size <= kb:=by
 subst hz;refine ⟨?_,?_,?_⟩
 ·have h1:=HA.1
  rw [<- zKX] at h1;exact h1
 ·exact xS HA (HK.alloc _) (fun q e hq=>by have:=HB q e;omega)
 ·intro kb e
  rcases HA.2.2 kb e with h1 | h1
  ·exact HB kb h1
  ·rw [h1];have:=HK.size;simp;omega
theorem zKO (n:Nat) (hn:n < 9000000000000000000) (w:World):Calls Tryz.prog 69 #[.int .i64 n] w (zBU 1000000000 n w):=by
 obtain ⟨j0,hj0,hz0,hz1,hz2⟩:=info_parts zBs;obtain ⟨N,hN⟩:∃ N,N=(zn 1000000000 n).length:=⟨_,rfl⟩
 have HN:=yA hN;have hN2:N <= 64:=by rw [hN];exact zC4 (by decide) (yI hn (by decide))
 unfold zBU;rw [<- hN];clear hN;go_enter Tryz.func69,Tryz.ntmps69
 go_wp2_with fail
 go_loopw [0,3] (fun nv ov wr=>∃ (i m:Nat) (da:Option Addr) (dc:Nat),i <= N /\ nv=.int .i64 m /\ ov=.slice da i dc /\ Hid (m=n / 1000000000 ^ i) /\ m < 9000000000000000000 /\ Hid (wr.ownsRow 0 3 1 (.slice da i dc) i (zCB 1000000000 n i)) /\ Hid (Keeps zA w wr) /\ Hid (∀ kb,(Value.slice da i dc).ownBlock=some kb -> w.heap.size <= kb)) (fun nv _ _=>(intOf nv).toNat)
 case atStart=>exact ⟨0,n,none,0,yH _,rfl,rfl,by show _=_;simp,hn,xB _ _ _ _,yB _ _,fun kb e=>by exact J153 _⟩
 case round =>
  obtain ⟨i,m,da,dc,hi,rfl,rfl,HM,hm9,HO,HK,HB⟩:=hrel;have hrun:=zGK (b:=1000000000) (by decide) n i;rw [<- HM.out,<- HN.out] at hrun;by_cases hlt:0 < m
  ·have i1:(0:Int) < m:=by omega
   have hiN:=hrun.1 hlt;have HD:Hid (m % 1000000000=n / 1000000000 ^ i % 1000000000 /\ m / 1000000000=n / 1000000000 ^ (i+1)):=⟨by rw [HM.out],by rw [HM.out,uX,uL]⟩;clear hrun;go_wp2_with (at_builtin;refine zH _ (by rfl) _ _ 128 (by rfl) 0 3 j0 _ 1 8 Tryz.underlying128 hj0 hz0 hz1 hz2 rfl (by decide) (.slice da i dc) i (zCB 1000000000 n i) (by rfl) (zF HO.out ((yB zA wr).alloc _) (fun _ _ h=>h)) (.slice (some ⟨wr.heap.size,0,none⟩) 1 1) 1 _ (by rfl) (xN (yM (yG wr _))) rfl (J150 _) (by unfold maxLen;omega) (by omega) (yH _) ?_;intro da2 dc2 w4 ha;have HA:=yA ha;clear ha)
   go_roundw
   case rel =>
    obtain ⟨g1,g2,g3⟩:=grow HO.out HK.out HB.out (J173 _) HA.out;exact ⟨i+1,m / 1000000000,da2,dc2,by omega,by exact J159 _,by go_num,HD.out.2,by omega,g1,g2,g3⟩
   case measure=>simp [intOf];omega
  ·exact J49 _
theorem zIs (n:Nat) (hn:n < 9000000000000000000) (w:World):Calls Tryz.prog 58 #[.int .i64 n] w (zBU 10 n w):=by
 obtain ⟨j0,hj0,hz0,hz1,hz2⟩:=info_parts zBs;obtain ⟨N,hN⟩:∃ N,N=(zn 10 n).length:=⟨_,rfl⟩
 have HN:=yA hN;have hN2:N <= 64:=by rw [hN];exact zC4 (by decide) (yI hn (by decide))
 unfold zBU;rw [<- hN];clear hN;go_enter Tryz.func58,Tryz.ntmps58
 go_wp2_with fail
 go_loopw [0,3] (fun nv ov wr=>∃ (i m:Nat) (da:Option Addr) (dc:Nat),i <= N /\ nv=.int .i64 m /\ ov=.slice da i dc /\ Hid (m=n / 10 ^ i) /\ m < 9000000000000000000 /\ Hid (wr.ownsRow 0 3 1 (.slice da i dc) i (zCB 10 n i)) /\ Hid (Keeps zA w wr) /\ Hid (∀ kb,(Value.slice da i dc).ownBlock=some kb -> w.heap.size <= kb)) (fun nv _ _=>(intOf nv).toNat)
 case atStart=>exact ⟨0,n,none,0,yH _,rfl,rfl,by show _=_;simp,hn,xB _ _ _ _,yB _ _,fun kb e=>by exact J153 _⟩
 case round =>
  obtain ⟨i,m,da,dc,hi,rfl,rfl,HM,hm9,HO,HK,HB⟩:=hrel;have hrun:=zGK (b:=10) (by decide) n i;rw [<- HM.out,<- HN.out] at hrun;by_cases hlt:0 < m
  ·have i1:(0:Int) < m:=by omega
   have hiN:=hrun.1 hlt;have HD:Hid (m % 10=n / 10 ^ i % 10 /\ m / 10=n / 10 ^ (i+1)):=⟨by rw [HM.out],by rw [HM.out,uX,uL]⟩;clear hrun;go_wp2_with (at_builtin;refine zH _ (by rfl) _ _ 22 (by rfl) 0 3 j0 _ 1 8 xO hj0 hz0 hz1 hz2 rfl (by decide) (.slice da i dc) i (zCB 10 n i) (by rfl) (zF HO.out ((yB zA wr).alloc _) (fun _ _ h=>h)) (.slice (some ⟨wr.heap.size,0,none⟩) 1 1) 1 _ (by rfl) (xN (yM (yG wr _))) rfl (J150 _) (by unfold maxLen;omega) (by omega) (yH _) ?_;intro da2 dc2 w4 ha;have HA:=yA ha;clear ha)
   go_roundw
   case rel =>
    obtain ⟨g1,g2,g3⟩:=grow HO.out HK.out HB.out (J173 _) HA.out;exact ⟨i+1,m / 10,da2,dc2,by omega,by exact J159 _,by go_num,HD.out.2,by omega,g1,g2,g3⟩
   case measure=>simp [intOf];omega
  ·exact J49 _
theorem zCv (b:Nat) (hb:2 <= b) (n:Nat) (i:Nat) (w:World) (F:Nat -> Prop) (ad:Option Addr) (cap:Nat) (h:zAG w F b n ad) :
 Calls Tryz.prog 98 #[.slice ad (zn b n).length cap, .int .i64 i] w fun e w'=>e=.returned (.int .i64 ((n / b ^ i % b:Nat):Int)) /\ w=w':=by
 by_cases hi:i < (zn b n).length
 ·obtain ⟨g,o,e,hg,c0⟩:=h i hi
  subst e;generalize n / b ^ i % b=d at c0 ⊢;generalize (zn b n).length=l at hi ⊢;have i1:(0:Int) <= i:=by omega
  have i2:(i:Int) < l:=by omega
  clear h;go_enter Tryz.func98,Tryz.ntmps98
  exact J70 _
 ·rw [zEL hb (by omega)]
  generalize (zn b n).length=l at hi ⊢;have i2:¬ (i:Int) < l:=by omega
  clear h;go_enter Tryz.func98,Tryz.ntmps98
  exact J70 _
theorem zOe (x:Ex) (ad:Option Addr) (cap:Nat) (w:World) (c d b:Nat) (hd:d < 1500000000) (hb:b < 1500000000) (h:zC w c [.int .i64 b]) :
 Calls Tryz.prog 133 #[exV x ad cap, .int .i64 d, .pointer (some ⟨c,0,none⟩)] w fun e w'=>e=.returned (.tuple #[]) /\ zC w' c [.int .i64 (max b d:Nat)] /\ Keeps (fun q=>q=c) w w':=by
 show Calls _ _ #[.agg #[.int .i64 x.kind, .int .i64 x.num, .string x.nm, .slice ad x.args.length cap],_,_] _ _
 have HC:=yA h;have hlt:=h.lt (by simp);clear h;have hmx:max (b:Int) (d:Int)=((max b d:Nat):Int):=by omega
 go_enter Tryz.func133,Tryz.ntmps133
 go_upto_region 1 with fail
 have k1:Keeps zA w (w.alloc (.cells #[.int .i64 x.kind, .int .i64 x.num, .string x.nm, .slice ad x.args.length cap] 65)):=(yB _ _).alloc _;generalize w.alloc (.cells #[.int .i64 x.kind, .int .i64 x.num, .string x.nm, .slice ad x.args.length cap] 65)=w1 at k1 ⊢;have rc:=HC.out.keeps k1 (fun h=>h);have cc:=rc.cell (k:=0) (v:=.int .i64 b) rfl;have fc:=rc.free (k:=0) (by simp);have RC:=yA rc;have K1:=yA k1;clear rc k1;go_wp2_with fail
 go_end0
 refine ⟨rfl,?_,(K1.out.mono (S:=fun q=>q=c) (fun _ _ h=>False.elim h)).setCell (p:=⟨c,0,none⟩) (fun _=>rfl) _⟩
 exact RC.out.set 0 (by simp) _
theorem zON (x:St) (xa ta ea:Option Addr) (xc tc ec:Nat) (w:World) (c d b:Nat) (hd:d < 1500000000) (hb:b < 1500000000) (h:zC w c [.int .i64 b]) :
 Calls Tryz.prog 132 #[stV x xa xc ta tc ea ec, .int .i64 d, .pointer (some ⟨c,0,none⟩)] w fun e w'=>e=.returned (.tuple #[]) /\ zC w' c [.int .i64 (max b d:Nat)] /\ Keeps (fun q=>q=c) w w':=by
 show Calls _ _ #[.agg #[.int .i64 x.kind, .string x.reg, .string x.name, .int .i64 x.ex.kind, .int .i64 x.ex.num, .string x.ex.nm, .slice xa x.ex.args.length xc, .int .i64 x.count, .slice ta x.thn.length tc, .slice ea x.els.length ec],_,_] _ _
 have HC:=yA h;have hlt:=h.lt (by simp);clear h;have hmx:max (b:Int) (d:Int)=((max b d:Nat):Int):=by omega
 go_enter Tryz.func132,Tryz.ntmps132
 go_upto_region 1 with fail
 have k1:Keeps zA w (w.alloc (.cells #[.int .i64 x.kind, .string x.reg, .string x.name, .int .i64 x.ex.kind, .int .i64 x.ex.num, .string x.ex.nm, .slice xa x.ex.args.length xc, .int .i64 x.count, .slice ta x.thn.length tc, .slice ea x.els.length ec] 182)):=(yB _ _).alloc _;generalize w.alloc (.cells #[.int .i64 x.kind, .string x.reg, .string x.name, .int .i64 x.ex.kind, .int .i64 x.ex.num, .string x.ex.nm, .slice xa x.ex.args.length xc, .int .i64 x.count, .slice ta x.thn.length tc, .slice ea x.els.length ec] 182)=w1 at k1 ⊢;have rc:=HC.out.keeps k1 (fun h=>h);have cc:=rc.cell (k:=0) (v:=.int .i64 b) rfl;have fc:=rc.free (k:=0) (by simp);have RC:=yA rc;have K1:=yA k1;clear rc k1;go_wp2_with fail
 go_end0
 refine ⟨rfl,?_,(K1.out.mono (S:=fun q=>q=c) (fun _ _ h=>False.elim h)).setCell (p:=⟨c,0,none⟩) (fun _=>rfl) _⟩
 exact RC.out.set 0 (by simp) _
theorem zM1:∀ (x:Ex) (w:World) (F:Nat -> Prop) (ad:Option Addr) (cap c d:Nat) (b:Nat),zQ w F x.args ad -> ¬ F c -> zC w c [(.int .i64 b)] -> d+x.cnt < 1000000000 -> b < 1000000000 →
 Calls Tryz.prog 147 #[.agg #[.func (.func 132) #[] #[.pointer (some ⟨c,0,none⟩)], .func (.func 133) #[] #[.pointer (some ⟨c,0,none⟩)]],exV x ad cap, .int .i64 d] w fun e w'=>e=.returned (.tuple #[]) /\ zC w' c [(.int .i64 ((max b (Ex.zCH d x)):Nat))] /\ Keeps (fun q=>q=c) w w':=by
 refine Ex.ind (fun k num nm l ih w F ad cap c d b h hF hc hb hbb=>?_)
 have HL:Hid (zQ w F l ad):=h;have IH:=yA ih;have HF:=yA hF;have HCR:=yA hc;have hl:=Ex.zAg l;have hcn:Ex.cnt (.mk k num nm l)=1+Ex.zY l:=by simp [Ex.cnt]
 rw [hcn] at hb;have hb2:l.length < 1000000000:=by omega
 have hd2:d < 1000000000:=by omega
 have HB:=yA hb;have HBB:=yA hbb;obtain ⟨tot,ht⟩:∃ t:Nat,t=(max b (Ex.zCH d (Ex.mk k num nm l))):=⟨_,rfl⟩
 have HT:Hid ((max (max b d) (Ex.zCN (d+1) l))=tot):=by
  show _=_
  rw [ht];simp only [Ex.zCH];omega
 rw [<- ht];have HCL:Hid (∀ W,zC W c [(.int .i64 b)] -> Calls Tryz.prog 133 #[.agg #[.int .i64 k, .int .i64 num, .string nm, .slice ad l.length cap], .int .i64 d, .pointer (some ⟨c,0,none⟩)] W fun e w'=>e=.returned (.tuple #[]) /\ zC w' c [(.int .i64 (max b d:Nat))] /\ Keeps (fun q=>q=c) W w'):=fun W h=>zOe (.mk k num nm l) ad cap W c d b (by omega) (by omega) h
 have hlt0:=hc.lt (by simp);have hlt:=yA hlt0;clear h hF hc ih hl hcn hb ht hlt0 hbb;show Calls _ _ #[_, .agg #[.int .i64 k, .int .i64 num, .string nm, .slice ad l.length cap],_] _ _
 have hw:IntKind.i64.wrap ((d:Int)+1)=(d:Int)+1:=vR _ (by omega) (by omega);go_enter Tryz.func147,Tryz.ntmps147
 go_upto_region 1 with fail
 obtain ⟨b3,hb3⟩:∃ z,z=w.heap.size:=⟨_,rfl⟩
 obtain ⟨b4,hb4⟩:∃ z,z=w.heap.size+1:=⟨_,rfl⟩
 have hr3:zC ((w.alloc (.cells #[.func (.func 132) #[] #[.pointer (some ⟨c,0,none⟩)], .func (.func 133) #[] #[.pointer (some ⟨c,0,none⟩)]] 217)).alloc (.cells #[.int .i64 k, .int .i64 num, .string nm, .slice ad l.length cap] 65)) b3 [.func (.func 132) #[] #[.pointer (some ⟨c,0,none⟩)], .func (.func 133) #[] #[.pointer (some ⟨c,0,none⟩)]]:=J161 _;have hr4:zC ((w.alloc (.cells #[.func (.func 132) #[] #[.pointer (some ⟨c,0,none⟩)], .func (.func 133) #[] #[.pointer (some ⟨c,0,none⟩)]] 217)).alloc (.cells #[.int .i64 k, .int .i64 num, .string nm, .slice ad l.length cap] 65)) b4 [.int .i64 k, .int .i64 num, .string nm, .slice ad l.length cap]:=J172 _;have hk1:Keeps zA w ((w.alloc (.cells #[.func (.func 132) #[] #[.pointer (some ⟨c,0,none⟩)], .func (.func 133) #[] #[.pointer (some ⟨c,0,none⟩)]] 217)).alloc (.cells #[.int .i64 k, .int .i64 num, .string nm, .slice ad l.length cap] 65)):=((yB _ _).alloc _).alloc _;rw [<- hb4,<- hb3];generalize (w.alloc (.cells #[.func (.func 132) #[] #[.pointer (some ⟨c,0,none⟩)], .func (.func 133) #[] #[.pointer (some ⟨c,0,none⟩)]] 217)).alloc (.cells #[.int .i64 k, .int .i64 num, .string nm, .slice ad l.length cap] 65)=w1 at hr3 hr4 hk1 ⊢;have HNE:Hid (b3 ≠ c /\ b4 ≠ c):=⟨by have:=hlt.out;omega,by have:=hlt.out;omega⟩;have R3:=yA hr3;have R4:=yA hr4;have K1:=yA hk1;have RC:Hid (zC w1 c [(.int .i64 b)]):=HCR.out.keeps hk1 (fun h=>h);have y0:=hr3.cell (k:=1) (v:=.func (.func 133) #[] #[.pointer (some ⟨c,0,none⟩)]) rfl;obtain ⟨d0,d1,d2,d3⟩:=hr4.four;clear hr3 hr4 hk1 hb3 hb4;go_upto_region 2 with (go_at_call 133;refine (HCL.out _ RC.out).mono ?_;rintro e w2 ⟨rfl,r2,g2⟩;have R2:=yA r2;have G2:=yA g2;clear r2 g2)
 have c3:=(R4.out.keeps G2.out (fun e=>HNE.out.2 e)).cell (k:=3) (v:=.slice ad l.length cap) rfl;clear d0 d1 d2 d3 y0 RC HCL HCR;go_wp2_with fail
 go_loopw [16] (fun iv wr=>∃ (i:Nat) (v:Nat),i <= l.length /\ iv=.int .i64 i /\ Hid (zC wr c [(.int .i64 v)]) /\ Hid ((max v (Ex.zCN (d+1) (l.drop i)))=tot) /\ Hid (Keeps (fun q=>q=c) w1 wr)) (fun iv _=>l.length - (intOf iv).toNat)
 case atStart=>exact ⟨0,(max b d),yH _,rfl,R2,by show _=_;rw [yQ];exact HT.out,G2⟩
 case round =>
  obtain ⟨i,v,hi,rfl,HV,HD,HK⟩:=hrel;by_cases hlt:i < l.length
  ·have i1:(0:Int) <= i:=by omega
   have i2:(i:Int) < l.length:=by omega
   have hd:=HD.out;rw [drop_at hlt] at hd;simp only [Ex.zCN] at hd;have hFc:∀ q,F q -> ¬ (fun q=>q=c) q:=fun q hq e=>HF.out (J169 _)
   obtain ⟨g,o,a,ca,e1,hg,d0,d1,d2,d3,hx⟩:=((HL.out.keeps K1.out (fun _ _ h=>h):zQ w1 F l ad).keeps HK.out hFc).at hlt;subst e1
   have HC:Hid (∀ W,Keeps zA wr W -> Calls Tryz.prog 147 #[.agg #[.func (.func 132) #[] #[.pointer (some ⟨c,0,none⟩)], .func (.func 133) #[] #[.pointer (some ⟨c,0,none⟩)]], .agg #[.int .i64 l[i].kind, .int .i64 l[i].num, .string l[i].nm, .slice a l[i].args.length ca], .int .i64 ((d:Int)+1)] W fun e w'=>e=.returned (.tuple #[]) /\ zC w' c [(.int .i64 ((max v (Ex.zCH (d+1) l[i])):Nat))] /\ Keeps (fun q=>q=c) W w'):=fun W hk=>by
    have e:((d+1:Nat):Int)=(d:Int)+1:=by omega
    rw [<- e];have hcl:=Ex.zB6 (yL hlt);have hbt:=HB.out;have hdt:=HD.out;have hbb:=HBB.out;have htt:=HT.out;have hle:=Ex.zEA (d+1) l;have hdl:Ex.zCZ l <= Ex.zY l:=by have:=Ex.zHE (.mk 0 0 zu l);simp only [Ex.dep,Ex.cnt] at this;omega
    exact IH.out _ (yL hlt) W F a ca c (d+1) v (hx.keeps hk (fun _ _ h=>h)) HF.out (HV.out.keeps hk (fun h=>h)) (by omega) (by split at hle <;> omega)
   obtain ⟨v2,hv2⟩:∃ v2:Nat,v2=(max v (Ex.zCH (d+1) l[i])):=⟨_,rfl⟩
   have HD2:Hid ((max v2 (Ex.zCN (d+1) (l.drop (i+1))))=tot):=by
    show _=_
    rw [hv2,<- hd];omega
   rw [<- hv2] at HC;clear hx hFc hd hv2;generalize l[i].kind=x0 at d0 HC;generalize l[i].num=x1 at d1 HC;generalize l[i].nm=x2 at d2 HC;generalize l[i].args.length=x3 at d3 HC;go_upto_region 5 with fail
   obtain ⟨b7,hb7⟩:∃ z,z=wr.heap.size:=⟨_,rfl⟩
   have hr7:zC (wr.alloc (.cells #[.int .i64 x0, .int .i64 x1, .string x2, .slice a x3 ca] 65)) b7 [.int .i64 x0, .int .i64 x1, .string x2, .slice a x3 ca]:=J156 _;have hk7:Keeps zA wr (wr.alloc (.cells #[.int .i64 x0, .int .i64 x1, .string x2, .slice a x3 ca] 65)):=(yB _ _).alloc _;rw [<- hb7];generalize wr.alloc (.cells #[.int .i64 x0, .int .i64 x1, .string x2, .slice a x3 ca] 65)=w7 at hr7 hk7 ⊢;obtain ⟨y0,y1,y2,y3⟩:=hr7.four;have r3:=(R3.out.keeps HK.out (fun e=>HNE.out.1 e)).keeps hk7 (fun h=>h);have q0:=r3.cell (k:=0) (v:=.func (.func 132) #[] #[.pointer (some ⟨c,0,none⟩)]) rfl;have q1:=r3.cell (k:=1) (v:=.func (.func 133) #[] #[.pointer (some ⟨c,0,none⟩)]) rfl;exact J22 _
  ·obtain rfl:i=l.length:=by omega
   have hd:=HD.out;rw [xI] at hd;simp only [Ex.zCN] at hd;exact J131 _
end Go.Proofs.YtfokdllgnblamaaGreatDoor
