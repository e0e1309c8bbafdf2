/- Layer L: texts joined. -/
import Derived.Test.YtfokdllgnblamaaGreatDoorL32
import Derived.Test.YtfokdllgnblamaaGreatDoorL26
set_option linter.all false
set_option maxHeartbeats 2000000
set_option maxRecDepth 8000
namespace Go.Proofs.YtfokdllgnblamaaGreatDoor
open Go.RowKit
theorem J50 (P:Prop) (h:P:=by
 go_roundw
 case rel=>exact ⟨i+1,by omega,by go_num,by show zN _ _ _ _ _;rw [HTK2.out];exact N7.out.mono (fun k hk=>⟨by have:=hk.1;have:=HK.out.size;have:=HS3.out;have:=G6.out.size;omega,hk.2⟩),HK.out.zB G7.out⟩
 case measure=>simp [intOf];omega):P:=h
theorem J54 (P:Prop) (h:P:=by
 go_roundw
 case rel=>exact ⟨i+1,by omega,by go_num,by show zN _ _ _ _ _;rw [HTK2.out];exact N5.out.mono (fun k hk=>⟨yU (yU HK.out.size G4.out.size) hk.1,hk.2⟩),HK.out.zB G5.out⟩
 case measure=>simp [intOf];omega):P:=h
theorem J81 (P:Prop) (h:P:=by
 obtain rfl:i=l.length:=by omega
 go_wp2_with fail
 go_ret
 have h:=HN.out;rw [xJ] at h;first | exact ⟨h,HK.out⟩ | exact ⟨_,rfl,h,HK.out⟩):P:=h
theorem J184 (P:Prop) (h:P:=by have:=HLL.out (Ac.zX (l.take i)) (by have:=HST.out;have:=HP2.out;omega);omega):P:=h
theorem J190x41 (P:Prop) (h:P:=by rw [zCk (by decide)];simp):P:=h
theorem J191x41 (P:Prop) (h:P:=by have:=HTL.out ts (by have:=HST.out;omega);omega):P:=h
theorem J210x41 (P:Prop) (h:P:=by have:=HTL.out tw (by omega);omega):P:=h
theorem zJz (x y:Nat) (w:World) (F:Nat -> Prop) (xa ya:Option Addr) (xc yc:Nat) (hx:zAG w F 10 x xa) (hy:zAG w F 10 y ya) (lx:(zn 10 x).length <= 100000000000) (ly:(zn 10 y).length <= 100000000000) :
 Calls Tryz.prog 88 #[.slice xa (zn 10 x).length xc, .slice ya (zn 10 y).length yc] w (zBU 10 (x+y) w):=by
 obtain ⟨j0,hj0,hz0,hz1,hz2⟩:=info_parts zBs;have HX:=yA hx;have HY:=yA hy;obtain ⟨N,hN⟩:∃ N,N=(zn 10 (x+y)).length:=⟨_,rfl⟩
 have HN:=yA hN;obtain ⟨p,hp⟩:∃ p,p=(zn 10 x).length:=⟨_,rfl⟩
 obtain ⟨q,hq⟩:∃ q,q=(zn 10 y).length:=⟨_,rfl⟩
 have HPQ:Hid (p=(zn 10 x).length /\ q=(zn 10 y).length):=⟨hp,hq⟩;have hrun:∀ i,(i < max p q \/ 0 < (x % 10 ^ i+y % 10 ^ i) / 10 ^ i) ↔ i < N:=fun i=>by rw [hp,hq,hN];exact zHZ (by decide) x y i
 have HRUN:=yA hrun
 have hNL:N <= max p q+1:=by
  rcases xL (max p q+1) N with h | h
  ·have hx2:x < 10 ^ (max p q):=uI fun e=>by have:=(zh (by decide) (max p q) x).2 e;omega
   have hy2:y < 10 ^ (max p q):=uI fun e=>by have:=(zh (by decide) (max p q) y).2 e;omega
   have h2:10 ^ (max p q+1) <= x+y:=(zh (by decide) (max p q+1) (x+y)).1 (by omega);rw [uL] at h2;omega
  ·exact h
 unfold zBU;rw [<- hN];rw [<- hp] at lx ⊢;rw [<- hq] at ly ⊢;have hN9:N <= 100000000001:=by omega
 clear hN hx hy hp hq hrun hNL;go_enter Tryz.func88,Tryz.ntmps88
 go_wp2_with fail
 go_loopw [5,6,7] (fun ov cv iv wr=>∃ (i c:Nat) (da:Option Addr) (dc:Nat),i <= N /\ iv=.int .i64 i /\ cv=.int .i64 c /\ ov=.slice da i dc /\ Hid (c=(x % 10 ^ i+y % 10 ^ i) / 10 ^ i) /\ c < 2 /\ Hid (wr.ownsRow 0 3 1 (.slice da i dc) i (zCB 10 (x+y) i)) /\ Hid (Keeps zA w wr) /\ Hid (∀ kb,(Value.slice da i dc).ownBlock=some kb -> w.heap.size <= kb)) (fun _ _ iv _=>N - (intOf iv).toNat)
 case atStart=>exact ⟨0,0,none,0,yH _,rfl,rfl,rfl,by show _=_;simp [Nat.mod_one],by decide,xB _ _ _ _,yB _ _,fun kb e=>by exact J153 _⟩
 case round =>
  obtain ⟨i,c,da,dc,hi,rfl,rfl,rfl,HC,hc2,HO,HK,HB⟩:=hrel;have hrun:=HRUN.out i;rw [<- HC.out] at hrun;by_cases hlt:i < N
  ·have hs:=zGN (b:=10) (by decide) x y i
   have hcn:=zFZ (b:=10) (by decide) x y (i+1);have hd1:=zCT (b:=10) (by decide) x i;have hd2:=zCT (b:=10) (by decide) y i;rw [<- HC.out] at hs;rw [<- hs.2] at hcn;have HD:Hid ((x / 10 ^ i % 10+y / 10 ^ i % 10+c) % 10=(x+y) / 10 ^ i % 10 /\ (x / 10 ^ i % 10+y / 10 ^ i % 10+c) / 10=(x % 10 ^ (i+1)+y % 10 ^ (i+1)) / 10 ^ (i+1)):=hs;have HC2:Hid ((x / 10 ^ i % 10+y / 10 ^ i % 10+c) / 10 < 2):=hcn
   have HCX:Hid (i < p -> ∃ g o,xa=some ⟨g,o,none⟩ /\ wr.cell? ⟨g,o+i,none⟩=some (.int .i64 ((x / 10 ^ i % 10:Nat):Int))):=fun h=>by
    obtain ⟨g,o,e,_,c0⟩:=(HX.out.keeps HK.out (fun _ _ h=>h)) i (by have:=HPQ.out.1;omega);exact ⟨g,o,e,c0⟩
   have HCY:Hid (i < q -> ∃ g o,ya=some ⟨g,o,none⟩ /\ wr.cell? ⟨g,o+i,none⟩=some (.int .i64 ((y / 10 ^ i % 10:Nat):Int))):=fun h=>by
    obtain ⟨g,o,e,_,c0⟩:=(HY.out.keeps HK.out (fun _ _ h=>h)) i (by have:=HPQ.out.2;omega);exact ⟨g,o,e,c0⟩
   have HZX:Hid (¬ i < p -> x / 10 ^ i % 10=0):=fun h=>zEL (by decide) (by have:=HPQ.out.1;omega)
   have HZY:Hid (¬ i < q -> y / 10 ^ i % 10=0):=fun h=>zEL (by decide) (by have:=HPQ.out.2;omega)
   clear hs hcn;generalize x / 10 ^ i % 10=d1 at HD hd1 HC2 HCX HZX;generalize y / 10 ^ i % 10=d2 at HD hd2 HC2 HCY HZY;have hor:=hrun.2 hlt;clear hrun;have i0:(0:Int) <= i:=by omega
   rcases (show (i < p /\ i < q) \/ (i < p /\ ¬ i < q) \/ (¬ i < p /\ i < q) \/ (¬ i < p /\ ¬ i < q /\ 0 < c) by omega) with ⟨h1,h2⟩ | ⟨h1,h2⟩ | ⟨h1,h2⟩ | ⟨h1,h2,h3⟩
   ·obtain ⟨g,o,e1,c1⟩:=HCX.out h1
    subst e1;have i1:(i:Int) < p:=by omega
    obtain ⟨g2,o2,e2,c2⟩:=HCY.out h2;subst e2;have i2:(i:Int) < q:=by omega
    clear HCX HCY HZX HZY;go_wp2_with (at_builtin;refine zH _ (by rfl) _ _ 22 (by rfl) 0 3 j0 _ 1 8 xO hj0 hz0 hz1 hz2 rfl (by decide) (.slice da i dc) i (zCB 10 (x+y) i) (by rfl) (zF HO.out ((yB zA wr).alloc _) (fun _ _ h=>h)) (.slice (some ⟨wr.heap.size,0,none⟩) 1 1) 1 _ (by rfl) (xN (yM (yG wr _))) rfl (J150 _) (by unfold maxLen;omega) (by omega) (yH _) ?_;intro da2 dc2 w4 ha;have HA:=yA ha;clear ha)
    go_roundw
    case rel =>
     obtain ⟨g1,g2,g3⟩:=grow HO.out HK.out HB.out (J173 _) HA.out;exact ⟨i+1,(d1+d2+c) / 10,da2,dc2,by omega,by exact J159 _,by exact J159 _,by go_num,HD.out.2,by have:=HC2.out;omega,g1,g2,g3⟩
    case measure=>simp [intOf];omega
   ·obtain ⟨g,o,e1,c1⟩:=HCX.out h1
    subst e1;have i1:(i:Int) < p:=by omega
    obtain rfl:=HZY.out h2;have i2:¬ (i:Int) < q:=by omega
    clear HCX HCY HZX HZY;go_wp2_with (at_builtin;refine zH _ (by rfl) _ _ 22 (by rfl) 0 3 j0 _ 1 8 xO hj0 hz0 hz1 hz2 rfl (by decide) (.slice da i dc) i (zCB 10 (x+y) i) (by rfl) (zF HO.out ((yB zA wr).alloc _) (fun _ _ h=>h)) (.slice (some ⟨wr.heap.size,0,none⟩) 1 1) 1 _ (by rfl) (xN (yM (yG wr _))) rfl (J150 _) (by unfold maxLen;omega) (by omega) (yH _) ?_;intro da2 dc2 w4 ha;have HA:=yA ha;clear ha)
    go_roundw
    case rel =>
     obtain ⟨g1,g2,g3⟩:=grow HO.out HK.out HB.out (J173 _) HA.out;exact ⟨i+1,(d1+0+c) / 10,da2,dc2,by omega,by exact J159 _,by exact J159 _,by go_num,HD.out.2,by have:=HC2.out;omega,g1,g2,g3⟩
    case measure=>simp [intOf];omega
   ·obtain rfl:=HZX.out h1
    have i1:¬ (i:Int) < p:=by omega
    obtain ⟨g2,o2,e2,c2⟩:=HCY.out h2;subst e2;have i2:(i:Int) < q:=by omega
    clear HCX HCY HZX HZY;go_wp2_with (at_builtin;refine zH _ (by rfl) _ _ 22 (by rfl) 0 3 j0 _ 1 8 xO hj0 hz0 hz1 hz2 rfl (by decide) (.slice da i dc) i (zCB 10 (x+y) i) (by rfl) (zF HO.out ((yB zA wr).alloc _) (fun _ _ h=>h)) (.slice (some ⟨wr.heap.size,0,none⟩) 1 1) 1 _ (by rfl) (xN (yM (yG wr _))) rfl (J150 _) (by unfold maxLen;omega) (by omega) (yH _) ?_;intro da2 dc2 w4 ha;have HA:=yA ha;clear ha)
    go_roundw
    case rel =>
     obtain ⟨g1,g2,g3⟩:=grow HO.out HK.out HB.out (J173 _) HA.out;exact ⟨i+1,(0+d2+c) / 10,da2,dc2,by omega,by exact J159 _,by exact J159 _,by go_num,HD.out.2,by have:=HC2.out;omega,g1,g2,g3⟩
    case measure=>simp [intOf];omega
   ·obtain rfl:=HZX.out h1
    have i1:¬ (i:Int) < p:=by omega
    obtain rfl:=HZY.out h2;have i2:¬ (i:Int) < q:=by omega
    have i3:(0:Int) < c:=by omega
    clear HCX HCY HZX HZY;go_wp2_with (at_builtin;refine zH _ (by rfl) _ _ 22 (by rfl) 0 3 j0 _ 1 8 xO hj0 hz0 hz1 hz2 rfl (by decide) (.slice da i dc) i (zCB 10 (x+y) i) (by rfl) (zF HO.out ((yB zA wr).alloc _) (fun _ _ h=>h)) (.slice (some ⟨wr.heap.size,0,none⟩) 1 1) 1 _ (by rfl) (xN (yM (yG wr _))) rfl (J150 _) (by unfold maxLen;omega) (by omega) (yH _) ?_;intro da2 dc2 w4 ha;have HA:=yA ha;clear ha)
    go_roundw
    case rel =>
     obtain ⟨g1,g2,g3⟩:=grow HO.out HK.out HB.out (J173 _) HA.out;exact ⟨i+1,(0+0+c) / 10,da2,dc2,by omega,by exact J159 _,by exact J159 _,by go_num,HD.out.2,by have:=HC2.out;omega,g1,g2,g3⟩
    case measure=>simp [intOf];omega
  ·have h1:¬ i < max p q:=fun h=>hlt (hrun.1 (.inl h))
   have h2:¬ 0 < c:=fun h=>hlt (hrun.1 (.inr h))
   have i1:¬ (i:Int) < p:=by omega
   have i2:¬ (i:Int) < q:=by omega
   exact J16 _
theorem zIU (x k:Nat) (w:World) (F:Nat -> Prop) (xa:Option Addr) (xc:Nat) (hx:zAG w F 10 x xa) (lx:(zn 10 x).length <= 100000000000) (hk:k <= 1000) :
 Calls Tryz.prog 107 #[.slice xa (zn 10 x).length xc, .int .i64 k] w (zBU 10 (x*k) w):=by
 obtain ⟨j0,hj0,hz0,hz1,hz2⟩:=info_parts zBs;by_cases hk0:k=0
 ·subst hk0
  unfold zBU;rw [Nat.mul_zero,zA1];generalize (zn 10 x).length=p;clear hx lx;go_enter Tryz.func107,Tryz.ntmps107
  go_wp2_with fail
  go_ret
  exact ⟨none,0,rfl,zAG.zero _ _ _ _,yB _ _⟩
 have HX:=yA hx;have k0:0 < k:=by omega
 have k0':¬ (k:Int)=0:=by omega
 have k0b:((k:Int)==0)=false:=by simpa using k0'
 obtain ⟨N,hN⟩:∃ N,N=(zn 10 (x*k)).length:=⟨_,rfl⟩
 have HN:=yA hN;obtain ⟨p,hp⟩:∃ p,p=(zn 10 x).length:=⟨_,rfl⟩
 have HPQ:Hid (p=(zn 10 x).length):=hp;have hrun:∀ i,(i < p \/ 0 < x % 10 ^ i*k / 10 ^ i) ↔ i < N:=fun i=>by rw [hp,hN];exact zGJ (by decide) x k i k0
 have HRUN:=yA hrun
 have hNL:N <= p+3:=by
  rcases xL (p+3) N with h | h
  ·have hx2:x < 10 ^ p:=uI fun e=>by exact J216 _
   have h2:10 ^ (p+3) <= x*k:=(zh (by decide) (p+3) (x*k)).1 (by omega);rw [uL,uL,uL] at h2;have h3:x*k <= x*1000:=Nat.mul_le_mul_left x hk;omega
  ·exact h
 unfold zBU;rw [<- hN];rw [<- hp] at lx ⊢;have hN9:N <= 100000000003:=by omega
 clear hN hx hp hrun hNL hk0;go_enter Tryz.func107,Tryz.ntmps107
 go_wp2_with fail
 go_loopw [5,6,7] (fun ov cv iv wr=>∃ (i c:Nat) (da:Option Addr) (dc:Nat),i <= N /\ iv=.int .i64 i /\ cv=.int .i64 c /\ ov=.slice da i dc /\ Hid (c=x % 10 ^ i*k / 10 ^ i) /\ c < 1000 /\ Hid (wr.ownsRow 0 3 1 (.slice da i dc) i (zCB 10 (x*k) i)) /\ Hid (Keeps zA w wr) /\ Hid (∀ kb,(Value.slice da i dc).ownBlock=some kb -> w.heap.size <= kb)) (fun _ _ iv _=>N - (intOf iv).toNat)
 case atStart=>exact ⟨0,0,none,0,yH _,rfl,rfl,rfl,by show _=_;simp [Nat.mod_one],by decide,xB _ _ _ _,yB _ _,fun kb e=>by exact J153 _⟩
 case round =>
  obtain ⟨i,c,da,dc,hi,rfl,rfl,rfl,HC,hc2,HO,HK,HB⟩:=hrel;have hrun:=HRUN.out i;rw [<- HC.out] at hrun;by_cases hlt:i < N
  ·have hs:=zGe (b:=10) (by decide) x k i
   have hcn:=zE7 (b:=10) (by decide) x k (i+1) k0;have hd1:=zCT (b:=10) (by decide) x i;rw [<- HC.out] at hs;rw [<- hs.2] at hcn;obtain ⟨m,hm⟩:∃ m,m=x / 10 ^ i % 10*k:=⟨_,rfl⟩
   have hm2:m <= 10*1000:=by rw [hm];exact Nat.mul_le_mul (by omega) hk
   have HD:Hid ((m+c) % 10=x*k / 10 ^ i % 10 /\ (m+c) / 10=x % 10 ^ (i+1)*k / 10 ^ (i+1)):=by rw [hm];exact hs
   have HC2:Hid ((m+c) / 10 < 1000):=by rw [hm];show _ < _;omega
   have HCX:Hid (i < p -> ∃ g o,xa=some ⟨g,o,none⟩ /\ wr.cell? ⟨g,o+i,none⟩=some (.int .i64 ((x / 10 ^ i % 10:Nat):Int))):=fun h=>by
    obtain ⟨g,o,e,_,c0⟩:=(HX.out.keeps HK.out (fun _ _ h=>h)) i (by have:=HPQ.out;omega);exact ⟨g,o,e,c0⟩
   have HZX:Hid (¬ i < p -> m=0):=fun h=>by rw [hm,zEL (by decide) (by have:=HPQ.out;omega)];simp
   clear hs hcn;generalize x / 10 ^ i % 10=d1 at hd1 hm HCX;have hmi:((d1:Int)*(k:Int))=(m:Int):=by rw [hm,Int.natCast_mul]
   have hor:=hrun.2 hlt;clear hrun hm;have i0:(0:Int) <= i:=by omega
   rcases (show (i < p) \/ (¬ i < p /\ 0 < c) by omega) with h1 | ⟨h1,h2⟩
   ·obtain ⟨g,o,e1,c1⟩:=HCX.out h1
    subst e1;have i1:(i:Int) < p:=by omega
    clear HCX HZX;go_wp2_with (at_builtin;refine zH _ (by rfl) _ _ 22 (by rfl) 0 3 j0 _ 1 8 xO hj0 hz0 hz1 hz2 rfl (by decide) (.slice da i dc) i (zCB 10 (x*k) i) (by rfl) (zF HO.out ((yB zA wr).alloc _) (fun _ _ h=>h)) (.slice (some ⟨wr.heap.size,0,none⟩) 1 1) 1 _ (by rfl) (xN (yM (yG wr _))) rfl (J150 _) (by unfold maxLen;omega) (by omega) (yH _) ?_;intro da2 dc2 w4 ha;have HA:=yA ha;clear ha)
    go_roundw
    case rel =>
     obtain ⟨g1,g2,g3⟩:=grow HO.out HK.out HB.out (J173 _) HA.out;exact ⟨i+1,(m+c) / 10,da2,dc2,by omega,by exact J159 _,by exact J159 _,by go_num,HD.out.2,by have:=HC2.out;omega,g1,g2,g3⟩
    case measure=>simp [intOf];omega
   ·have hm0:=HZX.out h1
    clear hmi;subst hm0;have i1:¬ (i:Int) < p:=by omega
    have i3:(0:Int) < c:=by omega
    clear HCX HZX;go_wp2_with (at_builtin;refine zH _ (by rfl) _ _ 22 (by rfl) 0 3 j0 _ 1 8 xO hj0 hz0 hz1 hz2 rfl (by decide) (.slice da i dc) i (zCB 10 (x*k) i) (by rfl) (zF HO.out ((yB zA wr).alloc _) (fun _ _ h=>h)) (.slice (some ⟨wr.heap.size,0,none⟩) 1 1) 1 _ (by rfl) (xN (yM (yG wr _))) rfl (J150 _) (by unfold maxLen;omega) (by omega) (yH _) ?_;intro da2 dc2 w4 ha;have HA:=yA ha;clear ha)
    go_roundw
    case rel =>
     obtain ⟨g1,g2,g3⟩:=grow HO.out HK.out HB.out (J173 _) HA.out;exact ⟨i+1,(0+c) / 10,da2,dc2,by omega,by exact J159 _,by exact J159 _,by go_num,HD.out.2,by have:=HC2.out;omega,g1,g2,g3⟩
    case measure=>simp [intOf];omega
  ·exact J140 _
theorem infoByte:(Tryz.prog.info? 5).map (fun i=>(i.zero,i.size,i.bytes))=some (some (.int .u8 0),1,1):=by kernel_rfl
theorem zHh {n:Nat} (hn:n ≠ 0):(zB7 n).length=(zn 10 n).length:=by
 unfold zB7;rw [if_neg hn,vC,List.length_reverse]
theorem zMG {b n m:Nat} (hb:2 <= b) (hm:m < (zn b n).length):(zn b n)[m]=n / b ^ m % b:=by
 have:=zNQ hb m n
 rw [List.getD,yJ hm] at this;exact this
theorem zMb {n m:Nat} (hn:n ≠ 0) (hm:m < (zn 10 n).length) (h:(zn 10 n).length - 1 - m < (zB7 n).length):(zB7 n)[(zn 10 n).length - 1 - m]=UInt8.ofNat (48+n / 10 ^ m % 10):=by
 have h2:zB7 n=((zn 10 n).reverse.map fun d=>UInt8.ofNat (48+d)):=by unfold zB7;rw [if_neg hn]
 have key:(zB7 n)[(zn 10 n).length - 1 - m]?=some (UInt8.ofNat (48+n / 10 ^ m % 10)):=by
  rw [h2,uO,List.getElem?_reverse (by omega),show (zn 10 n).length - 1 - ((zn 10 n).length - 1 - m)=m by omega,yJ hm,zMG (by decide) hm];rfl
 rw [yJ h] at key;exact vZ key
theorem zKk (n:Nat) (w:World) (F:Nat -> Prop) (xa:Option Addr) (xc:Nat) (hx:zAG w F 10 n xa) (hl:(zn 10 n).length <= 100000000000) :
 Calls Tryz.prog 61 #[.slice xa (zn 10 n).length xc] w fun e w'=>e=.returned (.string ⟨(zB7 n).toArray⟩) /\ Keeps zA w w':=by
 by_cases hn:n=0
 ·subst hn
  rw [zA1];clear hx hl;show Calls _ _ #[.slice xa 0 xc] _ _
  go_enter Tryz.func61,Tryz.ntmps61
  exact J31 _
 obtain ⟨j0,hj0,hz0,hz1,hz2⟩:=info_parts infoByte;have HX:=yA hx;obtain ⟨K,hK⟩:∃ K,K=(zn 10 n).length:=⟨_,rfl⟩
 have HK:=yA hK;have hK1:0 < K:=by rw [hK,zh (by decide)];simp;omega
 have hK0:¬ (K:Int)=0:=by omega
 have hK0b:((K:Int)==0)=false:=by simpa using hK0
 have HDL:Hid ((zB7 n).length=K):=by show _=_;rw [zHh hn,hK]
 have HAT:Hid (∀ m,m < K -> (zB7 n).take (K - m)=(zB7 n).take (K - (m+1))++[UInt8.ofNat (48+n / 10 ^ m % 10)]):=fun m hm=>by
  have h1:K - 1 - m < (zB7 n).length:=by have:=HDL.out;omega
  have h2:=zMb hn (m:=m) (by omega) (by rw [<- hK];exact h1);rw [show K - m=(K - 1 - m)+1 by omega,take_at h1];simp only [<- hK] at h2;rw [h2,show K - (m+1)=K - 1 - m by omega]
 rw [<- hK] at hl ⊢;clear hx hK hn;go_enter Tryz.func61,Tryz.ntmps61
 go_wp2_with fail
 go_loopw [3,4] (fun ov iv wr=>∃ (j t:Nat) (z:Int) (da:Option Addr) (dc:Nat),j <= K /\ t=K - j /\ iv=.int .i64 z /\ z=(j:Int) - 1 /\ ov=.slice da t dc /\ Hid (wr.ownsRow 0 5 1 (.slice da t dc) t (Lib.byteCells ((zB7 n).take t))) /\ Hid (Keeps zA w wr) /\ Hid (∀ kb,(Value.slice da t dc).ownBlock=some kb -> w.heap.size <= kb)) (fun _ iv _=>(intOf iv+1).toNat)
 case atStart=>exact ⟨K,0,_,none,0,yV _,by omega,rfl,rfl,rfl,by show World.ownsRow _ _ _ _ _ _ _;exact xB _ _ _ _,yB _ _,fun kb e=>by exact J153 _⟩
 case round =>
  obtain ⟨j,t,z,da,dc,hj,htj,rfl,hz,rfl,HO,HKW,HB⟩:=hrel;cases j with
  | zero =>
    obtain rfl:z=-1:=by omega
    obtain rfl:t=K:=by omega
    clear hz htj;have hO:=HO.out;rw [show (zB7 n).take t=zB7 n by rw [<- HDL.out,xJ]] at hO;obtain ⟨g,c,hv,_,_⟩:=hO.form (by omega);have hv2:da=some ⟨g,0,none⟩ /\ dc=c:=by simpa using hv
    obtain ⟨rfl,rfl⟩:=hv2;have hrow:=uG hO
    have hconv:(convert 165 9 (.slice (some ⟨g,0,none⟩) t dc)).run Tryz.prog wr=.ok (.string ⟨(zB7 n).toArray⟩) wr:=by
     have h:=run_convert_bytes_back (P:=Tryz.prog) wr 165 9 5 ⟨g,0,none⟩ dc (zB7 n) Tryz.underlying165 Tryz.underlying5 Tryz.underlying9 (fun j hj=>by
      rw [Addr.add_lit,xC];refine hrow.cell ?_
      unfold Lib.byteCells;rw [uO,yJ hj];rfl)
     rw [HDL.out] at h;exact h
    clear hO hv hrow;go_wp2_with fail
    go_ret
    exact ⟨rfl,HKW.out⟩
  | succ m =>
    obtain rfl:z=(m:Int):=by omega
    clear hz;have i0:(0:Int) <= m:=by omega
    have i1:(m:Int) < K:=by omega
    obtain ⟨g,o,e1,hg,c1⟩:=(HX.out.keeps HKW.out (fun _ _ h=>h)) m (by have:=HK.out;omega);subst e1;have hd:=zCT (b:=10) (by decide) n m;have HA1:=yA (HAT.out m (by omega));generalize n / 10 ^ m % 10=d at c1 hd HA1;have ht9:t+1 <= 100000000000:=by omega
    clear hg
    have hcl:Lib.byteCells ((zB7 n).take t)++[.int .u8 (48+(d:Int))]=Lib.byteCells ((zB7 n).take (t+1)):=by
     have h1:=HA1.out;rw [show K - m=t+1 by omega,show K - (m+1)=t by omega] at h1;rw [h1];simp only [Lib.byteCells,kD,uQ,List.map_nil];congr 3
     have h2:(UInt8.ofNat (48+d)).toNat=48+d:=by rw [UInt8.toNat_ofNat'];exact kQ (by omega)
     rw [h2];omega
    have HCL:=yA hcl;have HTJ:=yA htj;clear hcl htj;go_wp2_with (at_builtin;refine zH _ (by rfl) _ _ 165 (by rfl) 0 5 j0 _ 1 1 Tryz.underlying165 hj0 hz0 hz1 hz2 rfl (by decide) (.slice da t dc) t (Lib.byteCells ((zB7 n).take t)) (by rfl) (zF HO.out ((yB zA wr).alloc _) (fun _ _ h=>h)) (.slice (some ⟨wr.heap.size,0,none⟩) 1 1) 1 [.int .u8 (48+(d:Int))] (by rfl) (xN (yM (yG wr _))) rfl (J150 _) (by unfold maxLen;omega) (by omega) (yH _) ?_;intro da2 dc2 w4 ha;have HA:=yA ha;clear ha)
    go_roundw
    case rel =>
     refine ⟨m,t+1,_,da2,dc2,by omega,by have:=HTJ.out;omega,rfl,by omega,rfl,?_,?_,?_⟩
     ·have h1:=HA.out.1
      rw [HCL.out] at h1;exact h1
     ·exact xS HA.out (HKW.out.alloc _) (fun q e hq=>by have:=HB.out q e;omega)
     ·show ∀ kb,_ -> _
      intro kb e
      rcases HA.out.2.2 kb e with h1 | h1
      ·exact HB.out kb h1
      ·rw [h1];have:=HKW.out.size;simp;omega
    case measure=>(try simp [intOf]) <;> (try omega)
theorem zCE {x y:Nat} {w:World} {F:Nat -> Prop} {v u:Value} (hx:zN w F 10 x v) (hy:zN w F 10 y u) (lx:(zn 10 x).length <= 100000000000) (ly:(zn 10 y).length <= 100000000000) :
 Calls Tryz.prog 88 #[v,u] w fun e w'=>∃ z,e=.returned z /\ zN w' (Since w.heap.size w') 10 (x+y) z /\ Keeps zA w w':=by
 obtain ⟨xa,xc,rfl,h1⟩:=hx;obtain ⟨ya,yc,rfl,h2⟩:=hy;exact (zJz x y w F xa ya xc yc h1 h2 lx ly).mono fun e w' h=>h.v
theorem zJT {x k:Nat} {w:World} {F:Nat -> Prop} {v:Value} (hx:zN w F 10 x v) (lx:(zn 10 x).length <= 100000000000) (hk:k <= 1000) :
 Calls Tryz.prog 107 #[v, .int .i64 k] w fun e w'=>∃ z,e=.returned z /\ zN w' (Since w.heap.size w') 10 (x*k) z /\ Keeps zA w w':=by
 obtain ⟨xa,xc,rfl,h1⟩:=hx;exact (zIU x k w F xa xc h1 lx hk).mono fun e w' h=>h.v
theorem zGP {x y:Nat} {w:World} {F:Nat -> Prop} {v u:Value} (hx:zN w F 10 x v) (hy:zN w F 10 y u) (lx:(zn 10 x).length <= 100000000000) (ly:(zn 10 y).length <= 100000000000) :
 Calls Tryz.prog 106 #[v,u] w fun e w'=>∃ z,e=.returned z /\ zN w' F 10 (max x y) z /\ Keeps zA w w':=by
 obtain ⟨xa,xc,rfl,h1⟩:=hx;obtain ⟨ya,yc,rfl,h2⟩:=hy
 exact (zGu x y w F xa ya xc yc h1 h2 lx ly).mono fun e w' h=>by
  obtain ⟨ad,cap,he,h3,h4⟩:=h;exact ⟨_,he,⟨ad,cap,rfl,h3⟩,h4⟩
theorem zFQ (n:Nat) (hn:n < 9000000000000000000) (w:World):Calls Tryz.prog 58 #[.int .i64 n] w fun e w'=>∃ z,e=.returned z /\ zN w' (Since w.heap.size w') 10 n z /\ Keeps zA w w' :=
 (zIs n hn w).mono fun e w' h=>h.v
def zFG (l:List Ac):Prop:=∀ (w:World) (F:Nat -> Prop) (ad:Option Addr) (cap:Nat),zAR w F l ad -> Ac.szL l < 1000000000 -> Ac.zDq l →
 Calls Tryz.prog 86 #[.slice ad l.length cap] w fun e w'=>∃ z,e=.returned z /\ zN w' (Since w.heap.size w') 10 (Ac.zX l) z /\ Keeps zA w w'
theorem zFm (l:List Ac) (ih:∀ y,y ∈ l -> zFG y.thn /\ zFG y.els):zFG l:=by
 intro w F ad cap h hb ho
 have HL:=yA h;have IH:=yA ih;have hl:=Ac.zAg l;have hb2:l.length < 1000000000:=by omega
 have HB:=yA hb;have HO:=yA ho;clear h ih hl hb ho;go_enter Tryz.func86,Tryz.ntmps86
 go_wp2_with fail
 go_loopw [3,4] (fun nv iv wr=>∃ i:Nat,i <= l.length /\ iv=.int .i64 i /\ Hid (zN wr (Since w.heap.size wr) 10 (Ac.zX (l.take i)) nv) /\ Hid (Keeps zA w wr)) (fun _ iv _=>l.length - (intOf iv).toNat)
 case atStart=>exact ⟨0,yH _,rfl,zN.zero _ _ _,yB _ _⟩
 case round =>
  rename_i nv _
  obtain ⟨i,hi,rfl,HN,HK⟩:=hrel;by_cases hlt:i < l.length
  ·have i1:(0:Int) <= i:=by omega
   have i2:(i:Int) < l.length:=by omega
   obtain ⟨g,o,xa,xc,ta,tc,ea,ec,e1,hg,d0,d1,d2,d3,d4,d5,d6,d7,d8,d9,hx,hxt,hxe⟩:=(HL.out.keeps HK.out (fun _ _ h=>h)).at hlt;subst e1;have hsz:=Ac.zBz (yL hlt);rw [Ac.zCI] at hsz;have hB:=HB.out;have hok:=Ac.zIf (Ac.zFV HO.out (yL hlt));have HTT:Hid (∀ W,Keeps zA wr W -> Calls Tryz.prog 86 #[.slice ta l[i].thn.length tc] W fun e w'=>∃ z,e=.returned z /\ zN w' (Since W.heap.size w') 10 (Ac.zX l[i].thn) z /\ Keeps zA W w'):=fun W hk=>(IH.out _ (yL hlt)).1 W F ta tc (hxt.keeps hk (fun _ _ h=>h)) (by omega) hok.2.2.1
   have HEE:Hid (∀ W,Keeps zA wr W -> Calls Tryz.prog 86 #[.slice ea l[i].els.length ec] W fun e w'=>∃ z,e=.returned z /\ zN w' (Since W.heap.size w') 10 (Ac.zX l[i].els) z /\ Keeps zA W w'):=fun W hk=>(IH.out _ (yL hlt)).2 W F ea ec (hxe.keeps hk (fun _ _ h=>h)) (by omega) hok.2.2.2
   have HTL:Hid (∀ m,m <= Ac.zU l[i].thn+1 -> (zn 10 m).length <= 12000000000):=fun m hm=>Ac.zCO (by decide) hok.2.2.1 (by omega) hm
   have HEL:Hid (∀ m,m <= Ac.zU l[i].els+1 -> (zn 10 m).length <= 12000000000):=fun m hm=>Ac.zCO (by decide) hok.2.2.2 (by omega) hm
   have HLL:Hid (∀ m,m <= Ac.zU l+1 -> (zn 10 m).length <= 12000000000):=fun m hm=>Ac.zCO (by decide) HO.out HB.out hm
   have HST:Hid (Ac.zX l[i].thn <= Ac.zU l[i].thn /\ Ac.zX l[i].els <= Ac.zU l[i].els /\ Ac.zX l <= Ac.zU l):=⟨Ac.zBP _,Ac.zBP _,Ac.zBP _⟩;have htk:=Ac.zGT hlt;have hpt:=Ac.zGU l (i+1);rw [htk,Ac.zE1] at hpt;rw [Ac.zE1] at htk;have HTK:=yA htk;have HPT:=yA hpt;have HCN:Hid (∃ n:Nat,l[i].count=(n:Int) /\ n <= 1000):=⟨l[i].count.toNat,by omega,by omega⟩;clear hx hxt hxe hsz hB hok htk hpt;generalize l[i].kind=k at d0 HTK HPT;generalize l[i].count=c at d7 HTK HPT HCN;generalize Ac.zU l[i].thn=tw at HTT HTL HST HTK HPT;generalize Ac.zU l[i].els=ew at HEE HEL HST HTK HPT;generalize Ac.zX l[i].thn=ts at HTT HST HTK HPT;generalize Ac.zX l[i].els=es at HEE HST HTK HPT;generalize l[i].thn.length=x8 at d8 HTT;generalize l[i].els.length=x9 at d9 HEE;rcases (show k=1 \/ k=10 \/ k=11 \/ (¬ k=1 /\ ¬ k=10 /\ ¬ k=11) by omega) with rfl | rfl | rfl | ⟨k1,k10,k11⟩
   ·have HTK2:Hid (Ac.zX (l.take (i+1))=Ac.zX (l.take i)):=by show _=_;rw [HTK.out];simp
    clear HTK HPT HTT HEE HCN;go_wp2_with fail
    go_roundw
    case rel=>exact ⟨i+1,by omega,by go_num,by show zN _ _ _ _ _;rw [HTK2.out];exact HN.out,HK.out⟩
    case measure=>simp [intOf];omega
   ·have HTK2:Hid (Ac.zX (l.take (i+1))=Ac.zX (l.take i)+max ts es):=by show _=_;rw [HTK.out];simp
    have HP2:Hid (Ac.zX (l.take i)+max ts es <= Ac.zX l):=by show _ <= _;have h:=HPT.out;simpa using h
    clear HTK HPT HCN;go_upto_region 10 with (go_at_call 86;refine (HTT.out _ (yB _ _)).mono ?_;rintro e w2 ⟨z2,rfl,n2,g2⟩;have d9':=g2.cell (p:=⟨g,o+i*10+9,none⟩) (fun h=>h) d9;have N2:=yA n2;have G2:=yA g2;clear g2 n2)
    go_upto_region 11 with (go_at_call 86;refine (HEE.out _ G2.out).mono ?_;rintro e w3 ⟨z3,rfl,n3,g3⟩;have N3:=yA n3;have G3:=yA g3;clear g3 n3 d9')
    go_upto_region 12 with (go_at_call 106;refine (zGP (F:=Since wr.heap.size w3) ((N2.out.zG G3.out).mono (fun k hk=>⟨hk.1,yI hk.2 G3.out.size⟩)) (N3.out.mono (fun k hk=>⟨yU G2.out.size hk.1,hk.2⟩)) (J191x41 _) (by have:=HEL.out es (by have:=HST.out;omega);omega)).mono ?_;rintro e w4 ⟨z4,rfl,n4,g4⟩;have N4:=yA n4;have G4:Hid (Keeps zA wr w4):=(G2.out.zB G3.out).zB g4;clear g4 n4)
    go_wp2_with (go_at_call 88;refine (zCE (F:=fun _=>True) ((HN.out.zG G4.out).mono (fun _ _=>trivial)) (N4.out.mono (fun _ _=>trivial)) (J184 _) (by have:=HLL.out (max ts es) (by have:=HST.out;have:=HP2.out;omega);omega)).mono ?_;rintro e w5 ⟨z5,rfl,n5,g5⟩;have N5:=yA n5;have G5:Hid (Keeps zA wr w5):=G4.out.zB g5;clear g5 n5)
    exact J54 _
   ·obtain ⟨cn,rfl,hcn⟩:=HCN.out
    have HTK2:Hid (Ac.zX (l.take (i+1))=Ac.zX (l.take i)+ts*cn):=by show _=_;rw [HTK.out];simp
    have HP2:Hid (Ac.zX (l.take i)+ts*cn <= Ac.zX l):=by show _ <= _;have h:=HPT.out;simpa using h
    clear HTK HPT HCN;go_upto_region 15 with (go_at_call 86;refine (HTT.out _ (yB _ _)).mono ?_;rintro e w2 ⟨z2,rfl,n2,g2⟩;have d7':=g2.cell (p:=⟨g,o+i*10+7,none⟩) (fun h=>h) d7;have N2:=yA n2;have G2:=yA g2;clear g2 n2)
    go_upto_region 16 with (go_at_call 107;refine (zJT N2.out (J191x41 _) hcn).mono ?_;rintro e w4 ⟨z4,rfl,n4,g4⟩;have N4:=yA n4;have G4:Hid (Keeps zA wr w4):=G2.out.zB g4;clear g4 n4 d7')
    go_wp2_with (go_at_call 88;refine (zCE (F:=fun _=>True) ((HN.out.zG G4.out).mono (fun _ _=>trivial)) (N4.out.mono (fun _ _=>trivial)) (J184 _) (by have:=HLL.out (ts*cn) (by have:=HST.out;have:=HP2.out;omega);omega)).mono ?_;rintro e w5 ⟨z5,rfl,n5,g5⟩;have N5:=yA n5;have G5:Hid (Keeps zA wr w5):=G4.out.zB g5;clear g5 n5)
    exact J54 _
   ·have HTK2:Hid (Ac.zX (l.take (i+1))=Ac.zX (l.take i)+1):=by show _=_;rw [HTK.out];simp [k1,k10,k11]
    have HP2:Hid (Ac.zX (l.take i)+1 <= Ac.zX l):=by show _ <= _;have h:=HPT.out;simpa [k1,k10,k11] using h
    have kb1:(k==1)=false:=by simpa using k1
    have kb10:(k==10)=false:=by simpa using k10
    have kb11:(k==11)=false:=by simpa using k11
    clear HTK HPT HCN;go_wp2_with (go_at_call 88;refine (zCE (F:=fun _=>True) ((HN.out.zG ((yB zA wr).alloc _)).mono (fun _ _=>trivial)) (zN.one (by decide) _ (yM (yG wr _)) trivial) (J184 _) (J190x41 _)).mono ?_;rintro e w5 ⟨z5,rfl,n5,g5⟩;have N5:=yA n5;have G5:Hid (Keeps zA wr w5):=((yB zA wr).alloc _).zB g5;clear g5 n5)
    go_roundw
    case rel=>exact ⟨i+1,by omega,by go_num,by show zN _ _ _ _ _;rw [HTK2.out];exact N5.out.mono (fun k hk=>⟨by have:=hk.1;have:=HK.out.size;simp at *;omega,hk.2⟩),HK.out.zB G5.out⟩
    case measure=>simp [intOf];omega
  ·exact J81 _
theorem zOY (l:List Ac):zFG l:=by
 have key:∀ x:Ac,zFG x.thn /\ zFG x.els:=fun x=>Ac.ind (P:=fun x=>zFG x.thn /\ zFG x.els) (fun k r o x c t e h1 h2=>⟨zFm t h1,zFm e h2⟩) x
 exact zFm l (fun y _=>key y)
def zFA (l:List Ac):Prop:=∀ (w:World) (F:Nat -> Prop) (ad:Option Addr) (cap:Nat),zAR w F l ad -> Ac.szL l < 1000000000 -> Ac.zDq l →
 Calls Tryz.prog 87 #[.slice ad l.length cap] w fun e w'=>∃ z,e=.returned z /\ zN w' (Since w.heap.size w') 10 (Ac.zU l) z /\ Keeps zA w w'
theorem zFr (l:List Ac) (ih:∀ y,y ∈ l -> zFA y.thn /\ zFA y.els):zFA l:=by
 intro w F ad cap h hb ho
 have HL:=yA h;have IH:=yA ih;have hl:=Ac.zAg l;have hb2:l.length < 1000000000:=by omega
 have HB:=yA hb;have HO:=yA ho;clear h ih hl hb ho;go_enter Tryz.func87,Tryz.ntmps87
 go_wp2_with fail
 go_loopw [3,4] (fun nv iv wr=>∃ i:Nat,i <= l.length /\ iv=.int .i64 i /\ Hid (zN wr (Since w.heap.size wr) 10 (Ac.zU (l.take i)) nv) /\ Hid (Keeps zA w wr)) (fun _ iv _=>l.length - (intOf iv).toNat)
 case atStart=>exact ⟨0,yH _,rfl,zN.zero _ _ _,yB _ _⟩
 case round =>
  rename_i nv _
  obtain ⟨i,hi,rfl,HN,HK⟩:=hrel;by_cases hlt:i < l.length
  ·have i1:(0:Int) <= i:=by omega
   have i2:(i:Int) < l.length:=by omega
   obtain ⟨g,o,xa,xc,ta,tc,ea,ec,e1,hg,d0,d1,d2,d3,d4,d5,d6,d7,d8,d9,hx,hxt,hxe⟩:=(HL.out.keeps HK.out (fun _ _ h=>h)).at hlt;subst e1;have hsz:=Ac.zBz (yL hlt);rw [Ac.zCI] at hsz;have hB:=HB.out;have hok:=Ac.zIf (Ac.zFV HO.out (yL hlt));have HTT:Hid (∀ W,Keeps zA wr W -> Calls Tryz.prog 87 #[.slice ta l[i].thn.length tc] W fun e w'=>∃ z,e=.returned z /\ zN w' (Since W.heap.size w') 10 (Ac.zU l[i].thn) z /\ Keeps zA W w'):=fun W hk=>(IH.out _ (yL hlt)).1 W F ta tc (hxt.keeps hk (fun _ _ h=>h)) (by omega) hok.2.2.1
   have HEE:Hid (∀ W,Keeps zA wr W -> Calls Tryz.prog 87 #[.slice ea l[i].els.length ec] W fun e w'=>∃ z,e=.returned z /\ zN w' (Since W.heap.size w') 10 (Ac.zU l[i].els) z /\ Keeps zA W w'):=fun W hk=>(IH.out _ (yL hlt)).2 W F ea ec (hxe.keeps hk (fun _ _ h=>h)) (by omega) hok.2.2.2
   have HTL:Hid (∀ m,m <= Ac.zU l[i].thn+1 -> (zn 10 m).length <= 12000000000):=fun m hm=>Ac.zCO (by decide) hok.2.2.1 (by omega) hm
   have HEL:Hid (∀ m,m <= Ac.zU l[i].els+1 -> (zn 10 m).length <= 12000000000):=fun m hm=>Ac.zCO (by decide) hok.2.2.2 (by omega) hm
   have HLL:Hid (∀ m,m <= Ac.zU l+1 -> (zn 10 m).length <= 12000000000):=fun m hm=>Ac.zCO (by decide) HO.out HB.out hm
   have HST:Hid (Ac.zX l[i].thn <= Ac.zU l[i].thn /\ Ac.zX l[i].els <= Ac.zU l[i].els /\ Ac.zX l <= Ac.zU l):=⟨Ac.zBP _,Ac.zBP _,Ac.zBP _⟩;have htk:=Ac.zGR hlt;have hpt:=Ac.zGV l (i+1);rw [htk,Ac.zHG] at hpt;rw [Ac.zHG] at htk;have HTK:=yA htk;have HPT:=yA hpt;have HCN:Hid (∃ n:Nat,l[i].count=(n:Int) /\ n <= 1000):=⟨l[i].count.toNat,by omega,by omega⟩;have HX:Hid (∀ W,Keeps zA wr W -> Calls Tryz.prog 108 #[.agg #[.int .i64 l[i].ex.kind, .int .i64 l[i].ex.num, .string l[i].ex.nm, .slice xa l[i].ex.args.length xc]] W fun e w'=>e=.returned (.int .i64 l[i].ex.cnt) /\ Keeps zA W w'):=fun W hk=>zDx l[i].ex W F xa xc (hx.keeps hk (fun _ _ h=>h)) (by omega)
   have HOW:Hid (l[i].ex.own=1+(if l[i].ex.kind=0 then 0 else l[i].ex.cnt)):=rfl;have hcnt:l[i].ex.cnt < 1000000000:=by omega
   generalize l[i].ex.own=ow at HOW HTK HPT;generalize l[i].ex.cnt=cx at HOW HX hcnt;generalize l[i].ex.kind=x3 at d3 HX HOW;generalize l[i].ex.num=x4 at d4 HX;generalize l[i].ex.nm=x5 at d5 HX;generalize l[i].ex.args.length=x6 at d6 HX;clear hx hxt hxe hsz hB hok htk hpt;generalize l[i].kind=k at d0 HTK HPT;generalize l[i].count=c at d7 HTK HPT HCN;generalize Ac.zU l[i].thn=tw at HTT HTL HST HTK HPT;generalize Ac.zU l[i].els=ew at HEE HEL HST HTK HPT;generalize Ac.zX l[i].thn=ts at HTT HST HTK HPT;generalize Ac.zX l[i].els=es at HEE HST HTK HPT;generalize l[i].thn.length=x8 at d8 HTT;generalize l[i].els.length=x9 at d9 HEE;have HOI:Hid (Ac.zU (l.take i)+ow <= Ac.zU l):=by have h:=HPT.out;show _ <= _;omega
   rcases (show x3=0 \/ ¬ x3=0 by omega) with hx3 | hx3
   case' inl =>
    have how:ow=1:=by have h:=HOW.out;rw [if_pos hx3] at h;omega
    have HOW1:=yA how;subst hx3;clear how
    go_upto_region 9 with (first
     | (go_at_call 58;refine (zFQ 1 (by decide) _).mono ?_;rintro e w2 ⟨z2,rfl,n2,g2⟩;rw [<- HOW1.out] at n2;have N2:=yA n2;have G2:=yA g2;clear g2 n2)
     | (go_at_call 88;refine (zCE (F:=fun _=>True) ((HN.out.zG G2.out).mono (fun _ _=>trivial)) (N2.out.mono (fun _ _=>trivial)) (by have:=HLL.out (Ac.zU (l.take i)) (by have:=HOI.out;omega);omega) (by have:=HLL.out ow (by have:=HOI.out;omega);omega)).mono ?_;rintro e w3 ⟨z3,rfl,n3,g3⟩;have N3:=yA n3;have G3:Hid (Keeps zA wr w3):=G2.out.zB g3;clear g3 n3))
   case' inr =>
    have HOW2:Hid (ow=1+cx):=by have h:=HOW.out;rw [if_neg hx3] at h;exact h
    have hxb:(x3==0)=false:=by simpa using hx3
    have hxb2:(x3 != 0)=true:=by simpa using hx3
    have hoi:((1:Int)+(cx:Int))=(ow:Int):=by have:=HOW2.out;omega
    go_upto_region 8 with (go_at_call 108;refine (HX.out _ (yB _ _)).mono ?_;rintro e w1 ⟨rfl,g1⟩;have G1:=yA g1;clear g1)
    go_upto_region 9 with (first
     | (go_at_call 58;refine (zFQ ow (by have:=HOW2.out;omega) _).mono ?_;rintro e w2 ⟨z2,rfl,n2,g2⟩;have N2:=yA n2;have G2:Hid (Keeps zA wr w2):=G1.out.zB g2;clear g2 n2)
     | (go_at_call 88;refine (zCE (F:=fun _=>True) ((HN.out.zG G2.out).mono (fun _ _=>trivial)) (N2.out.mono (fun _ _=>trivial)) (by have:=HLL.out (Ac.zU (l.take i)) (by have:=HOI.out;omega);omega) (by have:=HLL.out ow (by have:=HOI.out;omega);omega)).mono ?_;rintro e w3 ⟨z3,rfl,n3,g3⟩;have N3:=yA n3;have G3:Hid (Keeps zA wr w3):=G2.out.zB g3;clear g3 n3))
   all_goals (
    have d0':=G3.out.cell (p:=⟨g,o+i*10,none⟩) (fun h=>h) d0;have d7':=G3.out.cell (p:=⟨g,o+i*10+7,none⟩) (fun h=>h) d7;have d8':=G3.out.cell (p:=⟨g,o+i*10+8,none⟩) (fun h=>h) d8;have d9':=G3.out.cell (p:=⟨g,o+i*10+9,none⟩) (fun h=>h) d9;have HS3:Hid (wr.heap.size <= w3.heap.size):=G3.out.size;clear d0 d7 d8 d9;rcases (show k=10 \/ k=11 \/ (¬ k=10 /\ ¬ k=11) by omega) with rfl | rfl | ⟨k10,k11⟩
    ·have HTK2:Hid (Ac.zU (l.take (i+1))=Ac.zU (l.take i)+ow+max tw ew):=by show _=_;rw [HTK.out];simp [uD]
     have HP2:Hid (Ac.zU (l.take i)+ow+max tw ew <= Ac.zU l):=by show _ <= _;have h:=HPT.out;simpa [uD] using h
     clear HTK HPT HCN;go_upto_region 12 with (go_at_call 87;refine (HTT.out _ G3.out).mono ?_;rintro e w4 ⟨z4,rfl,n4,g4⟩;have d9b:=g4.cell (p:=⟨g,o+i*10+9,none⟩) (fun h=>h) d9';have N4:=yA n4;have G4:=yA g4;clear g4 n4)
     go_upto_region 13 with (go_at_call 87;refine (HEE.out _ (G3.out.zB G4.out)).mono ?_;rintro e w5 ⟨z5,rfl,n5,g5⟩;have N5:=yA n5;have G5:=yA g5;clear g5 n5 d9b)
     go_upto_region 14 with (go_at_call 106;refine (zGP (F:=fun _=>True) ((N4.out.zG G5.out).mono (fun _ _=>trivial)) (N5.out.mono (fun _ _=>trivial)) (J210x41 _) (by have:=HEL.out ew (by omega);omega)).mono ?_;rintro e w6 ⟨z6,rfl,n6,g6⟩;have N6:=yA n6;have G6:Hid (Keeps zA w3 w6):=(G4.out.zB G5.out).zB g6;clear g6 n6)
     go_wp2_with (go_at_call 88;refine (zCE (F:=fun _=>True) ((N3.out.zG G6.out).mono (fun _ _=>trivial)) N6.out (by have:=HLL.out (Ac.zU (l.take i)+ow) (by have:=HP2.out;omega);omega) (by have:=HLL.out (max tw ew) (by have:=HP2.out;omega);omega)).mono ?_;rintro e w7 ⟨z7,rfl,n7,g7⟩;have N7:=yA n7;have G7:Hid (Keeps zA wr w7):=(G3.out.zB G6.out).zB g7;clear g7 n7)
     exact J50 _
    ·obtain ⟨cn,rfl,hcn⟩:=HCN.out
     have HTK2:Hid (Ac.zU (l.take (i+1))=Ac.zU (l.take i)+ow+(tw+1)*cn):=by show _=_;rw [HTK.out];simp [uD]
     have HP2:Hid (Ac.zU (l.take i)+ow+(tw+1)*cn <= Ac.zU l):=by show _ <= _;have h:=HPT.out;simpa [uD] using h
     clear HTK HPT HCN;go_upto_region 17 with (go_at_call 87;refine (HTT.out _ G3.out).mono ?_;rintro e w4 ⟨z4,rfl,n4,g4⟩;have d7b:=g4.cell (p:=⟨g,o+i*10+7,none⟩) (fun h=>h) d7';have N4:=yA n4;have G4:=yA g4;clear g4 n4)
     go_upto_region 18 with (go_at_call 88;refine (zCE (F:=fun _=>True) ((N4.out.zG ((yB zA w4).alloc _)).mono (fun _ _=>trivial)) (zN.one (by decide) _ (yM (yG w4 _)) trivial) (J210x41 _) (J190x41 _)).mono ?_;rintro e w5 ⟨z5,rfl,n5,g5⟩;have d7c:=(((yB zA w4).alloc _).zB g5).cell (p:=⟨g,o+i*10+7,none⟩) (fun h=>h) d7b;have N5:=yA n5;have G5:Hid (Keeps zA w3 w5):=G4.out.zB (((yB zA w4).alloc _).zB g5);clear g5 n5)
     go_upto_region 19 with (go_at_call 107;refine (zJT N5.out (by have:=HTL.out (tw+1) (by omega);omega) hcn).mono ?_;rintro e w6 ⟨z6,rfl,n6,g6⟩;have N6:=yA n6;have G6:Hid (Keeps zA w3 w6):=G5.out.zB g6;clear g6 n6 d7c)
     go_wp2_with (go_at_call 88;refine (zCE (F:=fun _=>True) ((N3.out.zG G6.out).mono (fun _ _=>trivial)) (N6.out.mono (fun _ _=>trivial)) (by have:=HLL.out (Ac.zU (l.take i)+ow) (by have:=HP2.out;omega);omega) (by have:=HLL.out ((tw+1)*cn) (by have:=HP2.out;omega);omega)).mono ?_;rintro e w7 ⟨z7,rfl,n7,g7⟩;have N7:=yA n7;have G7:Hid (Keeps zA wr w7):=(G3.out.zB G6.out).zB g7;clear g7 n7)
     exact J50 _
    ·have HTK2:Hid (Ac.zU (l.take (i+1))=Ac.zU (l.take i)+ow):=by show _=_;rw [HTK.out];simp [k10,k11]
     have kb10:(k==10)=false:=by simpa using k10
     have kb11:(k==11)=false:=by simpa using k11
     clear HTK HPT HCN;go_wp2_with fail
     go_roundw
     case rel=>exact ⟨i+1,by omega,by go_num,by show zN _ _ _ _ _;rw [HTK2.out];exact N3.out.mono (fun k hk=>⟨by have:=hk.1;have:=HK.out.size;have:=G2.out.size;omega,hk.2⟩),HK.out.zB G3.out⟩
     case measure=>simp [intOf];omega)
  ·exact J81 _
theorem zOZ (l:List Ac):zFA l:=by
 have key:∀ x:Ac,zFA x.thn /\ zFA x.els:=fun x=>Ac.ind (P:=fun x=>zFA x.thn /\ zFA x.els) (fun k r o x c t e h1 h2=>⟨zFr t h1,zFr e h2⟩) x
 exact zFr l (fun y _=>key y)
end Go.Proofs.YtfokdllgnblamaaGreatDoor
