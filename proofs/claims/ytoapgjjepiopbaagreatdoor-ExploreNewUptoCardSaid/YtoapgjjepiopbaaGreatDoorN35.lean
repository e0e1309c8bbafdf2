/- Layer N: texts joined. -/
import Derived.Test.YtoapgjjepiopbaaGreatDoorN13
set_option linter.all false
set_option maxHeartbeats 1000000
set_option maxRecDepth 8000
namespace Go.Proofs.YtoapgjjepiopbaaGreatDoor
open Go.RowKit
theorem J15x34 (P:Prop) (h:P:=by
 have hc0:c=0:=by omega
 subst hc0;clear hrun h1 h2;obtain rfl:i=N:=by omega
 go_wp2_with fail
 go_ret
 first
  | exact ⟨da,dc,by first | rfl | go_num,zAD.ofRow HO.out HN.out (fun kb e=>⟨HB.out kb e,zS HO.out e⟩),HK.out⟩
  | exact ⟨da,⟨dc,by first | rfl | go_num⟩,zAD.ofRow HO.out HN.out (fun kb e=>⟨HB.out kb e,zS HO.out e⟩),HK.out⟩):P:=h
theorem J140x34 (P:Prop) (h:P:=by
 have h1:¬ i < p:=fun h=>hlt (hrun.1 (.inl h))
 have h2:¬ 0 < c:=fun h=>hlt (hrun.1 (.inr h))
 have i1:¬ (i:Int) < p:=by omega
 exact J15x34 _):P:=h
theorem J211x34 (P:Prop) (h:P:=by have:=(zZ (by decide) p x).2 e;omega):P:=h
theorem zJv (x y:Nat) (w:World) (F:Nat -> Prop) (xa ya:Option Addr) (xc yc:Nat) (hx:zAD w F 10 x xa) (hy:zAD w F 10 y ya) (lx:(zw 10 x).length <= 100000000000) (ly:(zw 10 y).length <= 100000000000) :
 Calls Tryz.prog 54 #[.slice xa (zw 10 x).length xc, .slice ya (zw 10 y).length yc] w (zAz 10 (x+y) w):=by
 obtain ⟨j0,hj0,hz0,hz1,hz2⟩:=info_parts zA8;have HX:=Lib.hid hx;have HY:=Lib.hid hy;obtain ⟨N,hN⟩:=eX ((zw 10 (x+y)).length);have HN:=Lib.hid hN;obtain ⟨p,hp⟩:=eX ((zw 10 x).length);obtain ⟨q,hq⟩:=eX ((zw 10 y).length);have HPQ:Hid (p=(zw 10 x).length /\ q=(zw 10 y).length):=⟨hp,hq⟩;have hrun:∀ i,(i < max p q \/ 0 < (x % 10 ^ i+y % 10 ^ i) / 10 ^ i) ↔ i < N:=fun i=>by rw [hp,hq,hN];exact zHU (by decide) x y i
 have HRUN:=Lib.hid hrun
 have hNL:N <= max p q+1:=by
  rcases Nat.lt_or_ge (max p q+1) N with h | h
  ·have hx2:x < 10 ^ (max p q):=Nat.lt_of_not_le fun e=>by have:=(zZ (by decide) (max p q) x).2 e;omega
   have hy2:y < 10 ^ (max p q):=Nat.lt_of_not_le fun e=>by have:=(zZ (by decide) (max p q) y).2 e;omega
   have h2:10 ^ (max p q+1) <= x+y:=(zZ (by decide) (max p q+1) (x+y)).1 (by omega);rw [Nat.pow_succ] at h2;omega
  ·exact h
 unfold zAz;rw [<- hN];rw [<- hp] at lx ⊢;rw [<- hq] at ly ⊢;have hN9:N <= 100000000001:=by omega
 clear hN hx hy hp hq hrun hNL;go_enter Tryz.func54,Tryz.ntmps54
 go_wp2_with fail
 go_loopw [5,6,7] (fun ov cv iv wr=>∃ (i c:Nat) (da:Option Addr) (dc:Nat),i <= N /\ iv=.int .i64 i /\ cv=.int .i64 c /\ ov=.slice da i dc /\ Hid (c=(x % 10 ^ i+y % 10 ^ i) / 10 ^ i) /\ c < 2 /\ Hid (wr.ownsRow 0 3 1 (.slice da i dc) i (zBd 10 (x+y) i)) /\ Hid (Keeps zA w wr) /\ Hid (∀ kb,(Value.slice da i dc).ownBlock=some kb -> w.heap.size <= kb)) (fun _ _ iv _=>N - (intOf iv).toNat)
 case atStart=>exact ⟨0,0,none,0,Nat.zero_le _,rfl,rfl,rfl,by show _=_;simp [Nat.mod_one],by decide,World.ownsRow_nil _ _ _ _,Keeps.refl _ _,fun kb e=>by exact J152 _⟩
 case round =>
  obtain ⟨i,c,da,dc,hi,rfl,rfl,rfl,HC,hc2,HO,HK,HB⟩:=hrel;have hrun:=HRUN.out i;rw [<- HC.out] at hrun;by_cases hlt:i < N
  ·have hs:=zGK (b:=10) (by decide) x y i
   have hcn:=zFH (b:=10) (by decide) x y (i+1);have hd1:=zCS (b:=10) (by decide) x i;have hd2:=zCS (b:=10) (by decide) y i;rw [<- HC.out] at hs;rw [<- hs.2] at hcn;have HD:Hid ((x / 10 ^ i % 10+y / 10 ^ i % 10+c) % 10=(x+y) / 10 ^ i % 10 /\ (x / 10 ^ i % 10+y / 10 ^ i % 10+c) / 10=(x % 10 ^ (i+1)+y % 10 ^ (i+1)) / 10 ^ (i+1)):=hs;have HC2:Hid ((x / 10 ^ i % 10+y / 10 ^ i % 10+c) / 10 < 2):=hcn
   have HCX:Hid (i < p -> ∃ g o,xa=some ⟨g,o,none⟩ /\ wr.cell? ⟨g,o+i,none⟩=some (.int .i64 ((x / 10 ^ i % 10:Nat):Int))):=fun h=>by
    obtain ⟨g,o,e,_,c0⟩:=(HX.out.keeps HK.out (fun _ _ h=>h)) i (by have:=HPQ.out.1;omega);exact ⟨g,o,e,c0⟩
   have HCY:Hid (i < q -> ∃ g o,ya=some ⟨g,o,none⟩ /\ wr.cell? ⟨g,o+i,none⟩=some (.int .i64 ((y / 10 ^ i % 10:Nat):Int))):=fun h=>by
    obtain ⟨g,o,e,_,c0⟩:=(HY.out.keeps HK.out (fun _ _ h=>h)) i (by have:=HPQ.out.2;omega);exact ⟨g,o,e,c0⟩
   have HZX:Hid (¬ i < p -> x / 10 ^ i % 10=0):=fun h=>zEH (by decide) (by have:=HPQ.out.1;omega)
   have HZY:Hid (¬ i < q -> y / 10 ^ i % 10=0):=fun h=>zEH (by decide) (by have:=HPQ.out.2;omega)
   clear hs hcn;generalize x / 10 ^ i % 10=d1 at HD hd1 HC2 HCX HZX;generalize y / 10 ^ i % 10=d2 at HD hd2 HC2 HCY HZY;have hor:=hrun.2 hlt;clear hrun;have i0:(0:Int) <= i:=by omega
   rcases (show (i < p /\ i < q) \/ (i < p /\ ¬ i < q) \/ (¬ i < p /\ i < q) \/ (¬ i < p /\ ¬ i < q /\ 0 < c) by omega) with ⟨h1,h2⟩ | ⟨h1,h2⟩ | ⟨h1,h2⟩ | ⟨h1,h2,h3⟩
   ·obtain ⟨g,o,e1,c1⟩:=HCX.out h1
    subst e1;have i1:(i:Int) < p:=by omega
    obtain ⟨g2,o2,e2,c2⟩:=HCY.out h2;subst e2;have i2:(i:Int) < q:=by omega
    clear HCX HCY HZX HZY;go_wp2_with (at_builtin;refine zI _ (by rfl) _ _ 22 (by rfl) 0 3 j0 _ 1 8 Tryz.underlying22 hj0 hz0 hz1 hz2 rfl (by decide) (.slice da i dc) i (zBd 10 (x+y) i) (by rfl) (zF HO.out ((Keeps.refl zA wr).alloc _) (fun _ _ h=>h)) (.slice (some ⟨wr.heap.size,0,none⟩) 1 1) 1 _ (by rfl) (zC.src (zC.zG (heap_alloc_new wr _))) rfl (J151 _) (by unfold maxLen;omega) (by omega) (Nat.zero_le _) ?_;intro da2 dc2 w4 ha;have HA:=Lib.hid ha;clear ha)
    go_roundw
    case rel =>
     obtain ⟨g1,g2,g3⟩:=grow HO.out HK.out HB.out (J172 _) HA.out;exact ⟨i+1,(d1+d2+c) / 10,da2,dc2,by omega,by exact J162 _,by exact J162 _,by go_num,HD.out.2,by have:=HC2.out;omega,g1,g2,g3⟩
    case measure=>simp [intOf];omega
   ·obtain ⟨g,o,e1,c1⟩:=HCX.out h1
    subst e1;have i1:(i:Int) < p:=by omega
    obtain rfl:=HZY.out h2;have i2:¬ (i:Int) < q:=by omega
    clear HCX HCY HZX HZY;go_wp2_with (at_builtin;refine zI _ (by rfl) _ _ 22 (by rfl) 0 3 j0 _ 1 8 Tryz.underlying22 hj0 hz0 hz1 hz2 rfl (by decide) (.slice da i dc) i (zBd 10 (x+y) i) (by rfl) (zF HO.out ((Keeps.refl zA wr).alloc _) (fun _ _ h=>h)) (.slice (some ⟨wr.heap.size,0,none⟩) 1 1) 1 _ (by rfl) (zC.src (zC.zG (heap_alloc_new wr _))) rfl (J151 _) (by unfold maxLen;omega) (by omega) (Nat.zero_le _) ?_;intro da2 dc2 w4 ha;have HA:=Lib.hid ha;clear ha)
    go_roundw
    case rel =>
     obtain ⟨g1,g2,g3⟩:=grow HO.out HK.out HB.out (J172 _) HA.out;exact ⟨i+1,(d1+0+c) / 10,da2,dc2,by omega,by exact J162 _,by exact J162 _,by go_num,HD.out.2,by have:=HC2.out;omega,g1,g2,g3⟩
    case measure=>simp [intOf];omega
   ·obtain rfl:=HZX.out h1
    have i1:¬ (i:Int) < p:=by omega
    obtain ⟨g2,o2,e2,c2⟩:=HCY.out h2;subst e2;have i2:(i:Int) < q:=by omega
    clear HCX HCY HZX HZY;go_wp2_with (at_builtin;refine zI _ (by rfl) _ _ 22 (by rfl) 0 3 j0 _ 1 8 Tryz.underlying22 hj0 hz0 hz1 hz2 rfl (by decide) (.slice da i dc) i (zBd 10 (x+y) i) (by rfl) (zF HO.out ((Keeps.refl zA wr).alloc _) (fun _ _ h=>h)) (.slice (some ⟨wr.heap.size,0,none⟩) 1 1) 1 _ (by rfl) (zC.src (zC.zG (heap_alloc_new wr _))) rfl (J151 _) (by unfold maxLen;omega) (by omega) (Nat.zero_le _) ?_;intro da2 dc2 w4 ha;have HA:=Lib.hid ha;clear ha)
    go_roundw
    case rel =>
     obtain ⟨g1,g2,g3⟩:=grow HO.out HK.out HB.out (J172 _) HA.out;exact ⟨i+1,(0+d2+c) / 10,da2,dc2,by omega,by exact J162 _,by exact J162 _,by go_num,HD.out.2,by have:=HC2.out;omega,g1,g2,g3⟩
    case measure=>simp [intOf];omega
   ·obtain rfl:=HZX.out h1
    have i1:¬ (i:Int) < p:=by omega
    obtain rfl:=HZY.out h2;have i2:¬ (i:Int) < q:=by omega
    have i3:(0:Int) < c:=by omega
    clear HCX HCY HZX HZY;go_wp2_with (at_builtin;refine zI _ (by rfl) _ _ 22 (by rfl) 0 3 j0 _ 1 8 Tryz.underlying22 hj0 hz0 hz1 hz2 rfl (by decide) (.slice da i dc) i (zBd 10 (x+y) i) (by rfl) (zF HO.out ((Keeps.refl zA wr).alloc _) (fun _ _ h=>h)) (.slice (some ⟨wr.heap.size,0,none⟩) 1 1) 1 _ (by rfl) (zC.src (zC.zG (heap_alloc_new wr _))) rfl (J151 _) (by unfold maxLen;omega) (by omega) (Nat.zero_le _) ?_;intro da2 dc2 w4 ha;have HA:=Lib.hid ha;clear ha)
    go_roundw
    case rel =>
     obtain ⟨g1,g2,g3⟩:=grow HO.out HK.out HB.out (J172 _) HA.out;exact ⟨i+1,(0+0+c) / 10,da2,dc2,by omega,by exact J162 _,by exact J162 _,by go_num,HD.out.2,by have:=HC2.out;omega,g1,g2,g3⟩
    case measure=>simp [intOf];omega
  ·have h1:¬ i < max p q:=fun h=>hlt (hrun.1 (.inl h))
   have h2:¬ 0 < c:=fun h=>hlt (hrun.1 (.inr h))
   have i1:¬ (i:Int) < p:=by omega
   have i2:¬ (i:Int) < q:=by omega
   exact J15x34 _
theorem zIE (x k:Nat) (w:World) (F:Nat -> Prop) (xa:Option Addr) (xc:Nat) (hx:zAD w F 10 x xa) (lx:(zw 10 x).length <= 100000000000) (hk:k <= 1000) :
 Calls Tryz.prog 97 #[.slice xa (zw 10 x).length xc, .int .i64 k] w (zAz 10 (x*k) w):=by
 obtain ⟨j0,hj0,hz0,hz1,hz2⟩:=info_parts zA8;by_cases hk0:k=0
 ·subst hk0
  unfold zAz;rw [Nat.mul_zero,zBc];generalize (zw 10 x).length=p;clear hx lx;go_enter Tryz.func97,Tryz.ntmps97
  go_wp2_with fail
  go_ret
  exact ⟨none,0,rfl,zAD.zero _ _ _ _,Keeps.refl _ _⟩
 have HX:=Lib.hid hx;have k0:0 < k:=by omega
 have k0':¬ (k:Int)=0:=by omega
 have k0b:((k:Int)==0)=false:=by simpa using k0'
 obtain ⟨N,hN⟩:=eX ((zw 10 (x*k)).length);have HN:=Lib.hid hN;obtain ⟨p,hp⟩:=eX ((zw 10 x).length);have HPQ:Hid (p=(zw 10 x).length):=hp;have hrun:∀ i,(i < p \/ 0 < x % 10 ^ i*k / 10 ^ i) ↔ i < N:=fun i=>by rw [hp,hN];exact zGF (by decide) x k i k0
 have HRUN:=Lib.hid hrun
 have hNL:N <= p+3:=by
  rcases Nat.lt_or_ge (p+3) N with h | h
  ·have hx2:x < 10 ^ p:=Nat.lt_of_not_le fun e=>by exact J211x34 _
   have h2:10 ^ (p+3) <= x*k:=(zZ (by decide) (p+3) (x*k)).1 (by omega);rw [Nat.pow_succ,Nat.pow_succ,Nat.pow_succ] at h2;have h3:x*k <= x*1000:=Nat.mul_le_mul_left x hk;omega
  ·exact h
 unfold zAz;rw [<- hN];rw [<- hp] at lx ⊢;have hN9:N <= 100000000003:=by omega
 clear hN hx hp hrun hNL hk0;go_enter Tryz.func97,Tryz.ntmps97
 go_wp2_with fail
 go_loopw [5,6,7] (fun ov cv iv wr=>∃ (i c:Nat) (da:Option Addr) (dc:Nat),i <= N /\ iv=.int .i64 i /\ cv=.int .i64 c /\ ov=.slice da i dc /\ Hid (c=x % 10 ^ i*k / 10 ^ i) /\ c < 1000 /\ Hid (wr.ownsRow 0 3 1 (.slice da i dc) i (zBd 10 (x*k) i)) /\ Hid (Keeps zA w wr) /\ Hid (∀ kb,(Value.slice da i dc).ownBlock=some kb -> w.heap.size <= kb)) (fun _ _ iv _=>N - (intOf iv).toNat)
 case atStart=>exact ⟨0,0,none,0,Nat.zero_le _,rfl,rfl,rfl,by show _=_;simp [Nat.mod_one],by decide,World.ownsRow_nil _ _ _ _,Keeps.refl _ _,fun kb e=>by exact J152 _⟩
 case round =>
  obtain ⟨i,c,da,dc,hi,rfl,rfl,rfl,HC,hc2,HO,HK,HB⟩:=hrel;have hrun:=HRUN.out i;rw [<- HC.out] at hrun;by_cases hlt:i < N
  ·have hs:=zGC (b:=10) (by decide) x k i
   have hcn:=zEq (b:=10) (by decide) x k (i+1) k0;have hd1:=zCS (b:=10) (by decide) x i;rw [<- HC.out] at hs;rw [<- hs.2] at hcn;obtain ⟨m,hm⟩:=eX (x / 10 ^ i % 10*k);have hm2:m <= 10*1000:=by rw [hm];exact Nat.mul_le_mul (by omega) hk
   have HD:Hid ((m+c) % 10=x*k / 10 ^ i % 10 /\ (m+c) / 10=x % 10 ^ (i+1)*k / 10 ^ (i+1)):=by rw [hm];exact hs
   have HC2:Hid ((m+c) / 10 < 1000):=by rw [hm];show _ < _;omega
   have HCX:Hid (i < p -> ∃ g o,xa=some ⟨g,o,none⟩ /\ wr.cell? ⟨g,o+i,none⟩=some (.int .i64 ((x / 10 ^ i % 10:Nat):Int))):=fun h=>by
    obtain ⟨g,o,e,_,c0⟩:=(HX.out.keeps HK.out (fun _ _ h=>h)) i (by have:=HPQ.out;omega);exact ⟨g,o,e,c0⟩
   have HZX:Hid (¬ i < p -> m=0):=fun h=>by rw [hm,zEH (by decide) (by have:=HPQ.out;omega)];simp
   clear hs hcn;generalize x / 10 ^ i % 10=d1 at hd1 hm HCX;have hmi:((d1:Int)*(k:Int))=(m:Int):=by rw [hm,Int.natCast_mul]
   have hor:=hrun.2 hlt;clear hrun hm;have i0:(0:Int) <= i:=by omega
   rcases (show (i < p) \/ (¬ i < p /\ 0 < c) by omega) with h1 | ⟨h1,h2⟩
   ·obtain ⟨g,o,e1,c1⟩:=HCX.out h1
    subst e1;have i1:(i:Int) < p:=by omega
    clear HCX HZX;go_wp2_with (at_builtin;refine zI _ (by rfl) _ _ 22 (by rfl) 0 3 j0 _ 1 8 Tryz.underlying22 hj0 hz0 hz1 hz2 rfl (by decide) (.slice da i dc) i (zBd 10 (x*k) i) (by rfl) (zF HO.out ((Keeps.refl zA wr).alloc _) (fun _ _ h=>h)) (.slice (some ⟨wr.heap.size,0,none⟩) 1 1) 1 _ (by rfl) (zC.src (zC.zG (heap_alloc_new wr _))) rfl (J151 _) (by unfold maxLen;omega) (by omega) (Nat.zero_le _) ?_;intro da2 dc2 w4 ha;have HA:=Lib.hid ha;clear ha)
    go_roundw
    case rel =>
     obtain ⟨g1,g2,g3⟩:=grow HO.out HK.out HB.out (J172 _) HA.out;exact ⟨i+1,(m+c) / 10,da2,dc2,by omega,by exact J162 _,by exact J162 _,by go_num,HD.out.2,by have:=HC2.out;omega,g1,g2,g3⟩
    case measure=>simp [intOf];omega
   ·have hm0:=HZX.out h1
    clear hmi;subst hm0;have i1:¬ (i:Int) < p:=by omega
    have i3:(0:Int) < c:=by omega
    clear HCX HZX;go_wp2_with (at_builtin;refine zI _ (by rfl) _ _ 22 (by rfl) 0 3 j0 _ 1 8 Tryz.underlying22 hj0 hz0 hz1 hz2 rfl (by decide) (.slice da i dc) i (zBd 10 (x*k) i) (by rfl) (zF HO.out ((Keeps.refl zA wr).alloc _) (fun _ _ h=>h)) (.slice (some ⟨wr.heap.size,0,none⟩) 1 1) 1 _ (by rfl) (zC.src (zC.zG (heap_alloc_new wr _))) rfl (J151 _) (by unfold maxLen;omega) (by omega) (Nat.zero_le _) ?_;intro da2 dc2 w4 ha;have HA:=Lib.hid ha;clear ha)
    go_roundw
    case rel =>
     obtain ⟨g1,g2,g3⟩:=grow HO.out HK.out HB.out (J172 _) HA.out;exact ⟨i+1,(0+c) / 10,da2,dc2,by omega,by exact J162 _,by exact J162 _,by go_num,HD.out.2,by have:=HC2.out;omega,g1,g2,g3⟩
    case measure=>simp [intOf];omega
  ·exact J140x34 _
end Go.Proofs.YtoapgjjepiopbaaGreatDoor
