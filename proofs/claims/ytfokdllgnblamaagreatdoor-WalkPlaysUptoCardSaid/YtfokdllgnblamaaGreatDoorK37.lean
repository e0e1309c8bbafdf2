/- Layer K: texts joined. -/
import Derived.Test.YtfokdllgnblamaaGreatDoorK22
set_option linter.all false
set_option maxHeartbeats 2000000
set_option maxRecDepth 8000
namespace Go.Proofs.YtfokdllgnblamaaGreatDoor
open Go.RowKit
theorem J67 (P:Prop) (h:P:=by
 go_roundw
 case rel=>exact ⟨i+1,by omega,by go_num,by show zQ _ _ _ _ _;rw [HTK2.out];exact N7.out.mono (fun k hk=>⟨by have:=hk.1;have:=HK.out.size;have:=HS3.out;have:=G6.out.size;omega,hk.2⟩),HK.out.zB G7.out⟩
 case measure=>simp [intOf];omega):P:=h
theorem J71 (P:Prop) (h:P:=by
 go_roundw
 case rel=>exact ⟨i+1,by omega,by go_num,by show zQ _ _ _ _ _;rw [HTK2.out];exact N5.out.mono (fun k hk=>⟨yX (yX HK.out.size G4.out.size) hk.1,hk.2⟩),HK.out.zB G5.out⟩
 case measure=>simp [intOf];omega):P:=h
theorem J105 (P:Prop) (h:P:=by
 obtain rfl:i=l.length:=by omega
 go_wp2_with fail
 go_ret
 have h:=HN.out;rw [xT] at h;first | exact ⟨h,HK.out⟩ | exact ⟨_,rfl,h,HK.out⟩):P:=h
theorem J221 (P:Prop) (h:P:=by have:=HLL.out (Ac.zk (l.take i)) (by have:=HST.out;have:=HP2.out;omega);omega):P:=h
theorem J229x36 (P:Prop) (h:P:=by rw [zCu (by decide)];simp):P:=h
theorem J230x36 (P:Prop) (h:P:=by have:=HTL.out ts (by have:=HST.out;omega);omega):P:=h
theorem J254x36 (P:Prop) (h:P:=by have:=HTL.out tw (by omega);omega):P:=h
theorem zKA (x y:Nat) (w:World) (F:Nat -> Prop) (xa ya:Option Addr) (xc yc:Nat) (hx:zAW w F 10 x xa) (hy:zAW w F 10 y ya) (lx:(dig 10 x).length <= 100000000000) (ly:(dig 10 y).length <= 100000000000) :
 Calls Tryz.prog 88 #[.slice xa (dig 10 x).length xc, .slice ya (dig 10 y).length yc] w (zBb 10 (x+y) w):=by
 obtain ⟨j0,hj0,hz0,hz1,hz2⟩:=info_parts zA3;have HX:=yB hx;have HY:=yB hy;obtain ⟨N,hN⟩:=eX ((dig 10 (x+y)).length);have HN:=yB hN;obtain ⟨p,hp⟩:=eX ((dig 10 x).length);obtain ⟨q,hq⟩:=eX ((dig 10 y).length);have HPQ:Hid (p=(dig 10 x).length /\ q=(dig 10 y).length):=⟨hp,hq⟩;have hrun:∀ i,(i < max p q \/ 0 < (x % 10 ^ i+y % 10 ^ i) / 10 ^ i) ↔ i < N:=fun i=>by rw [hp,hq,hN];exact zIL (by decide) x y i
 have HRUN:=yB hrun
 have hNL:N <= max p q+1:=by
  rcases xR (max p q+1) N with h | h
  ·have hx2:x < 10 ^ (max p q):=uO fun e=>by have:=(zl (by decide) (max p q) x).2 e;omega
   have hy2:y < 10 ^ (max p q):=uO fun e=>by have:=(zl (by decide) (max p q) y).2 e;omega
   have h2:10 ^ (max p q+1) <= x+y:=(zl (by decide) (max p q+1) (x+y)).1 (by omega);rw [uV] at h2;omega
  ·exact h
 unfold zBb;rw [<- hN];rw [<- hp] at lx ⊢;rw [<- hq] at ly ⊢;have hN9:N <= 100000000001:=by omega
 clear hN hx hy hp hq hrun hNL;go_enter Tryz.func88,Tryz.ntmps88
 go_wp2_with fail
 go_loopw [5,6,7] (fun ov cv iv wr=>∃ (i c:Nat) (da:Option Addr) (dc:Nat),i <= N /\ iv=.int .i64 i /\ cv=.int .i64 c /\ ov=.slice da i dc /\ Hid (c=(x % 10 ^ i+y % 10 ^ i) / 10 ^ i) /\ c < 2 /\ Hid (wr.ownsRow 0 3 1 (.slice da i dc) i (zCF 10 (x+y) i)) /\ Hid (Keeps zA w wr) /\ Hid (∀ kb,(Value.slice da i dc).ownBlock=some kb -> w.heap.size <= kb)) (fun _ _ iv _=>N - (intOf iv).toNat)
 case atStart=>exact ⟨0,0,none,0,yJ _,rfl,rfl,rfl,by show _=_;simp [Nat.mod_one],by decide,xJ _ _ _ _,yC _ _,fun kb e=>by exact J190 _⟩
 case round =>
  obtain ⟨i,c,da,dc,hi,rfl,rfl,rfl,HC,hc2,HO,HK,HB⟩:=hrel;have hrun:=HRUN.out i;rw [<- HC.out] at hrun;by_cases hlt:i < N
  ·have hs:=zGw (b:=10) (by decide) x y i
   have hcn:=zGK (b:=10) (by decide) x y (i+1);have hd1:=zC8 (b:=10) (by decide) x i;have hd2:=zC8 (b:=10) (by decide) y i;rw [<- HC.out] at hs;rw [<- hs.2] at hcn;have HD:Hid ((x / 10 ^ i % 10+y / 10 ^ i % 10+c) % 10=(x+y) / 10 ^ i % 10 /\ (x / 10 ^ i % 10+y / 10 ^ i % 10+c) / 10=(x % 10 ^ (i+1)+y % 10 ^ (i+1)) / 10 ^ (i+1)):=hs;have HC2:Hid ((x / 10 ^ i % 10+y / 10 ^ i % 10+c) / 10 < 2):=hcn
   have HCX:Hid (i < p -> ∃ g o,xa=some ⟨g,o,none⟩ /\ wr.cell? ⟨g,o+i,none⟩=some (.int .i64 ((x / 10 ^ i % 10:Nat):Int))):=fun h=>by
    obtain ⟨g,o,e,_,c0⟩:=(HX.out.keeps HK.out (fun _ _ h=>h)) i (by have:=HPQ.out.1;omega);exact ⟨g,o,e,c0⟩
   have HCY:Hid (i < q -> ∃ g o,ya=some ⟨g,o,none⟩ /\ wr.cell? ⟨g,o+i,none⟩=some (.int .i64 ((y / 10 ^ i % 10:Nat):Int))):=fun h=>by
    obtain ⟨g,o,e,_,c0⟩:=(HY.out.keeps HK.out (fun _ _ h=>h)) i (by have:=HPQ.out.2;omega);exact ⟨g,o,e,c0⟩
   have HZX:Hid (¬ i < p -> x / 10 ^ i % 10=0):=fun h=>zEn (by decide) (by have:=HPQ.out.1;omega)
   have HZY:Hid (¬ i < q -> y / 10 ^ i % 10=0):=fun h=>zEn (by decide) (by have:=HPQ.out.2;omega)
   clear hs hcn;generalize x / 10 ^ i % 10=d1 at HD hd1 HC2 HCX HZX;generalize y / 10 ^ i % 10=d2 at HD hd2 HC2 HCY HZY;have hor:=hrun.2 hlt;clear hrun;have i0:(0:Int) <= i:=by omega
   rcases (show (i < p /\ i < q) \/ (i < p /\ ¬ i < q) \/ (¬ i < p /\ i < q) \/ (¬ i < p /\ ¬ i < q /\ 0 < c) by omega) with ⟨h1,h2⟩ | ⟨h1,h2⟩ | ⟨h1,h2⟩ | ⟨h1,h2,h3⟩
   ·obtain ⟨g,o,e1,c1⟩:=HCX.out h1
    subst e1;have i1:(i:Int) < p:=by omega
    obtain ⟨g2,o2,e2,c2⟩:=HCY.out h2;subst e2;have i2:(i:Int) < q:=by omega
    clear HCX HCY HZX HZY;go_wp2_with (at_builtin;refine zI _ (by rfl) _ _ 22 (by rfl) 0 3 j0 _ 1 8 xG hj0 hz0 hz1 hz2 rfl (by decide) (.slice da i dc) i (zCF 10 (x+y) i) (by rfl) (zG HO.out ((yC zA wr).alloc _) (fun _ _ h=>h)) (.slice (some ⟨wr.heap.size,0,none⟩) 1 1) 1 _ (by rfl) (xN (yN (yK wr _))) rfl (J185 _) (by unfold maxLen;omega) (by omega) (yJ _) ?_;intro da2 dc2 w4 ha;have HA:=yB ha;clear ha)
    go_roundw
    case rel =>
     obtain ⟨g1,g2,g3⟩:=grow HO.out HK.out HB.out (J206 _) HA.out;exact ⟨i+1,(d1+d2+c) / 10,da2,dc2,by omega,by exact J196 _,by exact J196 _,by go_num,HD.out.2,by have:=HC2.out;omega,g1,g2,g3⟩
    case measure=>simp [intOf];omega
   ·obtain ⟨g,o,e1,c1⟩:=HCX.out h1
    subst e1;have i1:(i:Int) < p:=by omega
    obtain rfl:=HZY.out h2;have i2:¬ (i:Int) < q:=by omega
    clear HCX HCY HZX HZY;go_wp2_with (at_builtin;refine zI _ (by rfl) _ _ 22 (by rfl) 0 3 j0 _ 1 8 xG hj0 hz0 hz1 hz2 rfl (by decide) (.slice da i dc) i (zCF 10 (x+y) i) (by rfl) (zG HO.out ((yC zA wr).alloc _) (fun _ _ h=>h)) (.slice (some ⟨wr.heap.size,0,none⟩) 1 1) 1 _ (by rfl) (xN (yN (yK wr _))) rfl (J185 _) (by unfold maxLen;omega) (by omega) (yJ _) ?_;intro da2 dc2 w4 ha;have HA:=yB ha;clear ha)
    go_roundw
    case rel =>
     obtain ⟨g1,g2,g3⟩:=grow HO.out HK.out HB.out (J206 _) HA.out;exact ⟨i+1,(d1+0+c) / 10,da2,dc2,by omega,by exact J196 _,by exact J196 _,by go_num,HD.out.2,by have:=HC2.out;omega,g1,g2,g3⟩
    case measure=>simp [intOf];omega
   ·obtain rfl:=HZX.out h1
    have i1:¬ (i:Int) < p:=by omega
    obtain ⟨g2,o2,e2,c2⟩:=HCY.out h2;subst e2;have i2:(i:Int) < q:=by omega
    clear HCX HCY HZX HZY;go_wp2_with (at_builtin;refine zI _ (by rfl) _ _ 22 (by rfl) 0 3 j0 _ 1 8 xG hj0 hz0 hz1 hz2 rfl (by decide) (.slice da i dc) i (zCF 10 (x+y) i) (by rfl) (zG HO.out ((yC zA wr).alloc _) (fun _ _ h=>h)) (.slice (some ⟨wr.heap.size,0,none⟩) 1 1) 1 _ (by rfl) (xN (yN (yK wr _))) rfl (J185 _) (by unfold maxLen;omega) (by omega) (yJ _) ?_;intro da2 dc2 w4 ha;have HA:=yB ha;clear ha)
    go_roundw
    case rel =>
     obtain ⟨g1,g2,g3⟩:=grow HO.out HK.out HB.out (J206 _) HA.out;exact ⟨i+1,(0+d2+c) / 10,da2,dc2,by omega,by exact J196 _,by exact J196 _,by go_num,HD.out.2,by have:=HC2.out;omega,g1,g2,g3⟩
    case measure=>simp [intOf];omega
   ·obtain rfl:=HZX.out h1
    have i1:¬ (i:Int) < p:=by omega
    obtain rfl:=HZY.out h2;have i2:¬ (i:Int) < q:=by omega
    have i3:(0:Int) < c:=by omega
    clear HCX HCY HZX HZY;go_wp2_with (at_builtin;refine zI _ (by rfl) _ _ 22 (by rfl) 0 3 j0 _ 1 8 xG hj0 hz0 hz1 hz2 rfl (by decide) (.slice da i dc) i (zCF 10 (x+y) i) (by rfl) (zG HO.out ((yC zA wr).alloc _) (fun _ _ h=>h)) (.slice (some ⟨wr.heap.size,0,none⟩) 1 1) 1 _ (by rfl) (xN (yN (yK wr _))) rfl (J185 _) (by unfold maxLen;omega) (by omega) (yJ _) ?_;intro da2 dc2 w4 ha;have HA:=yB ha;clear ha)
    go_roundw
    case rel =>
     obtain ⟨g1,g2,g3⟩:=grow HO.out HK.out HB.out (J206 _) HA.out;exact ⟨i+1,(0+0+c) / 10,da2,dc2,by omega,by exact J196 _,by exact J196 _,by go_num,HD.out.2,by have:=HC2.out;omega,g1,g2,g3⟩
    case measure=>simp [intOf];omega
  ·have h1:¬ i < max p q:=fun h=>hlt (hrun.1 (.inl h))
   have h2:¬ 0 < c:=fun h=>hlt (hrun.1 (.inr h))
   have i1:¬ (i:Int) < p:=by omega
   have i2:¬ (i:Int) < q:=by omega
   exact J18 _
theorem zJD (x k:Nat) (w:World) (F:Nat -> Prop) (xa:Option Addr) (xc:Nat) (hx:zAW w F 10 x xa) (lx:(dig 10 x).length <= 100000000000) (hk:k <= 1000) :
 Calls Tryz.prog 107 #[.slice xa (dig 10 x).length xc, .int .i64 k] w (zBb 10 (x*k) w):=by
 obtain ⟨j0,hj0,hz0,hz1,hz2⟩:=info_parts zA3;by_cases hk0:k=0
 ·subst hk0
  unfold zBb;rw [Nat.mul_zero,zCJ];generalize (dig 10 x).length=p;clear hx lx;go_enter Tryz.func107,Tryz.ntmps107
  go_wp2_with fail
  go_ret
  exact ⟨none,0,rfl,zAW.zero _ _ _ _,yC _ _⟩
 have HX:=yB hx;have k0:0 < k:=by omega
 have k0':¬ (k:Int)=0:=by omega
 have k0b:((k:Int)==0)=false:=by simpa using k0'
 obtain ⟨N,hN⟩:=eX ((dig 10 (x*k)).length);have HN:=yB hN;obtain ⟨p,hp⟩:=eX ((dig 10 x).length);have HPQ:Hid (p=(dig 10 x).length):=hp;have hrun:∀ i,(i < p \/ 0 < x % 10 ^ i*k / 10 ^ i) ↔ i < N:=fun i=>by rw [hp,hN];exact zGr (by decide) x k i k0
 have HRUN:=yB hrun
 have hNL:N <= p+3:=by
  rcases xR (p+3) N with h | h
  ·have hx2:x < 10 ^ p:=uO fun e=>by exact J259 _
   have h2:10 ^ (p+3) <= x*k:=(zl (by decide) (p+3) (x*k)).1 (by omega);rw [uV,uV,uV] at h2;have h3:x*k <= x*1000:=Nat.mul_le_mul_left x hk;omega
  ·exact h
 unfold zBb;rw [<- hN];rw [<- hp] at lx ⊢;have hN9:N <= 100000000003:=by omega
 clear hN hx hp hrun hNL hk0;go_enter Tryz.func107,Tryz.ntmps107
 go_wp2_with fail
 go_loopw [5,6,7] (fun ov cv iv wr=>∃ (i c:Nat) (da:Option Addr) (dc:Nat),i <= N /\ iv=.int .i64 i /\ cv=.int .i64 c /\ ov=.slice da i dc /\ Hid (c=x % 10 ^ i*k / 10 ^ i) /\ c < 1000 /\ Hid (wr.ownsRow 0 3 1 (.slice da i dc) i (zCF 10 (x*k) i)) /\ Hid (Keeps zA w wr) /\ Hid (∀ kb,(Value.slice da i dc).ownBlock=some kb -> w.heap.size <= kb)) (fun _ _ iv _=>N - (intOf iv).toNat)
 case atStart=>exact ⟨0,0,none,0,yJ _,rfl,rfl,rfl,by show _=_;simp [Nat.mod_one],by decide,xJ _ _ _ _,yC _ _,fun kb e=>by exact J190 _⟩
 case round =>
  obtain ⟨i,c,da,dc,hi,rfl,rfl,rfl,HC,hc2,HO,HK,HB⟩:=hrel;have hrun:=HRUN.out i;rw [<- HC.out] at hrun;by_cases hlt:i < N
  ·have hs:=zGo (b:=10) (by decide) x k i
   have hcn:=zFc (b:=10) (by decide) x k (i+1) k0;have hd1:=zC8 (b:=10) (by decide) x i;rw [<- HC.out] at hs;rw [<- hs.2] at hcn;obtain ⟨m,hm⟩:=eX (x / 10 ^ i % 10*k);have hm2:m <= 10*1000:=by rw [hm];exact Nat.mul_le_mul (by omega) hk
   have HD:Hid ((m+c) % 10=x*k / 10 ^ i % 10 /\ (m+c) / 10=x % 10 ^ (i+1)*k / 10 ^ (i+1)):=by rw [hm];exact hs
   have HC2:Hid ((m+c) / 10 < 1000):=by rw [hm];show _ < _;omega
   have HCX:Hid (i < p -> ∃ g o,xa=some ⟨g,o,none⟩ /\ wr.cell? ⟨g,o+i,none⟩=some (.int .i64 ((x / 10 ^ i % 10:Nat):Int))):=fun h=>by
    obtain ⟨g,o,e,_,c0⟩:=(HX.out.keeps HK.out (fun _ _ h=>h)) i (by have:=HPQ.out;omega);exact ⟨g,o,e,c0⟩
   have HZX:Hid (¬ i < p -> m=0):=fun h=>by rw [hm,zEn (by decide) (by have:=HPQ.out;omega)];simp
   clear hs hcn;generalize x / 10 ^ i % 10=d1 at hd1 hm HCX;have hmi:((d1:Int)*(k:Int))=(m:Int):=by rw [hm,Int.natCast_mul]
   have hor:=hrun.2 hlt;clear hrun hm;have i0:(0:Int) <= i:=by omega
   rcases (show (i < p) \/ (¬ i < p /\ 0 < c) by omega) with h1 | ⟨h1,h2⟩
   ·obtain ⟨g,o,e1,c1⟩:=HCX.out h1
    subst e1;have i1:(i:Int) < p:=by omega
    clear HCX HZX;go_wp2_with (at_builtin;refine zI _ (by rfl) _ _ 22 (by rfl) 0 3 j0 _ 1 8 xG hj0 hz0 hz1 hz2 rfl (by decide) (.slice da i dc) i (zCF 10 (x*k) i) (by rfl) (zG HO.out ((yC zA wr).alloc _) (fun _ _ h=>h)) (.slice (some ⟨wr.heap.size,0,none⟩) 1 1) 1 _ (by rfl) (xN (yN (yK wr _))) rfl (J185 _) (by unfold maxLen;omega) (by omega) (yJ _) ?_;intro da2 dc2 w4 ha;have HA:=yB ha;clear ha)
    go_roundw
    case rel =>
     obtain ⟨g1,g2,g3⟩:=grow HO.out HK.out HB.out (J206 _) HA.out;exact ⟨i+1,(m+c) / 10,da2,dc2,by omega,by exact J196 _,by exact J196 _,by go_num,HD.out.2,by have:=HC2.out;omega,g1,g2,g3⟩
    case measure=>simp [intOf];omega
   ·have hm0:=HZX.out h1
    clear hmi;subst hm0;have i1:¬ (i:Int) < p:=by omega
    have i3:(0:Int) < c:=by omega
    clear HCX HZX;go_wp2_with (at_builtin;refine zI _ (by rfl) _ _ 22 (by rfl) 0 3 j0 _ 1 8 xG hj0 hz0 hz1 hz2 rfl (by decide) (.slice da i dc) i (zCF 10 (x*k) i) (by rfl) (zG HO.out ((yC zA wr).alloc _) (fun _ _ h=>h)) (.slice (some ⟨wr.heap.size,0,none⟩) 1 1) 1 _ (by rfl) (xN (yN (yK wr _))) rfl (J185 _) (by unfold maxLen;omega) (by omega) (yJ _) ?_;intro da2 dc2 w4 ha;have HA:=yB ha;clear ha)
    go_roundw
    case rel =>
     obtain ⟨g1,g2,g3⟩:=grow HO.out HK.out HB.out (J206 _) HA.out;exact ⟨i+1,(0+c) / 10,da2,dc2,by omega,by exact J196 _,by exact J196 _,by go_num,HD.out.2,by have:=HC2.out;omega,g1,g2,g3⟩
    case measure=>simp [intOf];omega
  ·exact J175 _
theorem zCK {x y:Nat} {w:World} {F:Nat -> Prop} {v u:Value} (hx:zQ w F 10 x v) (hy:zQ w F 10 y u) (lx:(dig 10 x).length <= 100000000000) (ly:(dig 10 y).length <= 100000000000) :
 Calls Tryz.prog 88 #[v,u] w fun e w'=>∃ z,e=.returned z /\ zQ w' (Since w.heap.size w') 10 (x+y) z /\ Keeps zA w w':=by
 obtain ⟨xa,xc,rfl,h1⟩:=hx;obtain ⟨ya,yc,rfl,h2⟩:=hy;exact (zKA x y w F xa ya xc yc h1 h2 lx ly).mono fun e w' h=>h.v
theorem zJs {x k:Nat} {w:World} {F:Nat -> Prop} {v:Value} (hx:zQ w F 10 x v) (lx:(dig 10 x).length <= 100000000000) (hk:k <= 1000) :
 Calls Tryz.prog 107 #[v, .int .i64 k] w fun e w'=>∃ z,e=.returned z /\ zQ w' (Since w.heap.size w') 10 (x*k) z /\ Keeps zA w w':=by
 obtain ⟨xa,xc,rfl,h1⟩:=hx;exact (zJD x k w F xa xc h1 lx hk).mono fun e w' h=>h.v
theorem zGx {x y:Nat} {w:World} {F:Nat -> Prop} {v u:Value} (hx:zQ w F 10 x v) (hy:zQ w F 10 y u) (lx:(dig 10 x).length <= 100000000000) (ly:(dig 10 y).length <= 100000000000) :
 Calls Tryz.prog 106 #[v,u] w fun e w'=>∃ z,e=.returned z /\ zQ w' F 10 (max x y) z /\ Keeps zA w w':=by
 obtain ⟨xa,xc,rfl,h1⟩:=hx;obtain ⟨ya,yc,rfl,h2⟩:=hy
 exact (zHb x y w F xa ya xc yc h1 h2 lx ly).mono fun e w' h=>by
  obtain ⟨ad,cap,he,h3,h4⟩:=h;exact ⟨_,he,⟨ad,cap,rfl,h3⟩,h4⟩
theorem zFh (n:Nat) (hn:n < 9000000000000000000) (w:World):Calls Tryz.prog 58 #[.int .i64 n] w fun e w'=>∃ z,e=.returned z /\ zQ w' (Since w.heap.size w') 10 n z /\ Keeps zA w w' :=
 (zIw n hn w).mono fun e w' h=>h.v
def zFa (l:List Ac):Prop:=∀ (w:World) (F:Nat -> Prop) (ad:Option Addr) (cap:Nat),zAQ w F l ad -> Ac.szL l < 1000000000 -> Ac.zD5 l →
 Calls Tryz.prog 86 #[.slice ad l.length cap] w fun e w'=>∃ z,e=.returned z /\ zQ w' (Since w.heap.size w') 10 (Ac.zk l) z /\ Keeps zA w w'
theorem zGA (l:List Ac) (ih:∀ y,y ∈ l -> zFa y.thn /\ zFa y.els):zFa l:=by
 intro w F ad cap h hb ho
 have HL:=yB h;have IH:=yB ih;have hl:=Ac.zAp l;have hb2:l.length < 1000000000:=by omega
 have HB:=yB hb;have HO:=yB ho;clear h ih hl hb ho;go_enter Tryz.func86,Tryz.ntmps86
 go_wp2_with fail
 go_loopw [3,4] (fun nv iv wr=>∃ i:Nat,i <= l.length /\ iv=.int .i64 i /\ Hid (zQ wr (Since w.heap.size wr) 10 (Ac.zk (l.take i)) nv) /\ Hid (Keeps zA w wr)) (fun _ iv _=>l.length - (intOf iv).toNat)
 case atStart=>exact ⟨0,yJ _,rfl,zQ.zero _ _ _,yC _ _⟩
 case round =>
  rename_i nv _
  obtain ⟨i,hi,rfl,HN,HK⟩:=hrel;by_cases hlt:i < l.length
  ·have i1:(0:Int) <= i:=by omega
   have i2:(i:Int) < l.length:=by omega
   obtain ⟨g,o,xa,xc,ta,tc,ea,ec,e1,hg,d0,d1,d2,d3,d4,d5,d6,d7,d8,d9,hx,hxt,hxe⟩:=(HL.out.keeps HK.out (fun _ _ h=>h)).at hlt;subst e1;have hsz:=Ac.zBy (yM hlt);rw [Ac.zCI] at hsz;have hB:=HB.out;have hok:=Ac.zI4 (Ac.zFs HO.out (yM hlt));have HTT:Hid (∀ W,Keeps zA wr W -> Calls Tryz.prog 86 #[.slice ta l[i].thn.length tc] W fun e w'=>∃ z,e=.returned z /\ zQ w' (Since W.heap.size w') 10 (Ac.zk l[i].thn) z /\ Keeps zA W w'):=fun W hk=>(IH.out _ (yM hlt)).1 W F ta tc (hxt.keeps hk (fun _ _ h=>h)) (by omega) hok.2.2.1
   have HEE:Hid (∀ W,Keeps zA wr W -> Calls Tryz.prog 86 #[.slice ea l[i].els.length ec] W fun e w'=>∃ z,e=.returned z /\ zQ w' (Since W.heap.size w') 10 (Ac.zk l[i].els) z /\ Keeps zA W w'):=fun W hk=>(IH.out _ (yM hlt)).2 W F ea ec (hxe.keeps hk (fun _ _ h=>h)) (by omega) hok.2.2.2
   have HTL:Hid (∀ m,m <= Ac.zY l[i].thn+1 -> (dig 10 m).length <= 12000000000):=fun m hm=>Ac.zCU (by decide) hok.2.2.1 (by omega) hm
   have HEL:Hid (∀ m,m <= Ac.zY l[i].els+1 -> (dig 10 m).length <= 12000000000):=fun m hm=>Ac.zCU (by decide) hok.2.2.2 (by omega) hm
   have HLL:Hid (∀ m,m <= Ac.zY l+1 -> (dig 10 m).length <= 12000000000):=fun m hm=>Ac.zCU (by decide) HO.out HB.out hm
   have HST:Hid (Ac.zk l[i].thn <= Ac.zY l[i].thn /\ Ac.zk l[i].els <= Ac.zY l[i].els /\ Ac.zk l <= Ac.zY l):=⟨vM _,vM _,vM _⟩;have htk:=Ac.zGY hlt;have hpt:=Ac.zGc l (i+1);rw [htk,Ac.zHc] at hpt;rw [Ac.zHc] at htk;have HTK:=yB htk;have HPT:=yB hpt;have HCN:Hid (∃ n:Nat,l[i].count=(n:Int) /\ n <= 1000):=⟨l[i].count.toNat,by omega,by omega⟩;clear hx hxt hxe hsz hB hok htk hpt;generalize l[i].kind=k at d0 HTK HPT;generalize l[i].count=c at d7 HTK HPT HCN;generalize Ac.zY l[i].thn=tw at HTT HTL HST HTK HPT;generalize Ac.zY l[i].els=ew at HEE HEL HST HTK HPT;generalize Ac.zk l[i].thn=ts at HTT HST HTK HPT;generalize Ac.zk l[i].els=es at HEE HST HTK HPT;generalize l[i].thn.length=x8 at d8 HTT;generalize l[i].els.length=x9 at d9 HEE;rcases (show k=1 \/ k=10 \/ k=11 \/ (¬ k=1 /\ ¬ k=10 /\ ¬ k=11) by omega) with rfl | rfl | rfl | ⟨k1,k10,k11⟩
   ·have HTK2:Hid (Ac.zk (l.take (i+1))=Ac.zk (l.take i)):=by show _=_;rw [HTK.out];simp
    clear HTK HPT HTT HEE HCN;go_wp2_with fail
    go_roundw
    case rel=>exact ⟨i+1,by omega,by go_num,by show zQ _ _ _ _ _;rw [HTK2.out];exact HN.out,HK.out⟩
    case measure=>simp [intOf];omega
   ·have HTK2:Hid (Ac.zk (l.take (i+1))=Ac.zk (l.take i)+max ts es):=by show _=_;rw [HTK.out];simp
    have HP2:Hid (Ac.zk (l.take i)+max ts es <= Ac.zk l):=by show _ <= _;have h:=HPT.out;simpa using h
    clear HTK HPT HCN;go_upto_region 10 with (go_at_call 86;refine (HTT.out _ (yC _ _)).mono ?_;rintro e w2 ⟨z2,rfl,n2,g2⟩;have d9':=g2.cell (p:=⟨g,o+i*10+9,none⟩) (fun h=>h) d9;have N2:=yB n2;have G2:=yB g2;clear g2 n2)
    go_upto_region 11 with (go_at_call 86;refine (HEE.out _ G2.out).mono ?_;rintro e w3 ⟨z3,rfl,n3,g3⟩;have N3:=yB n3;have G3:=yB g3;clear g3 n3 d9')
    go_upto_region 12 with (go_at_call 106;refine (zGx (F:=Since wr.heap.size w3) ((N2.out.zD G3.out).mono (fun k hk=>⟨hk.1,yI hk.2 G3.out.size⟩)) (N3.out.mono (fun k hk=>⟨yX G2.out.size hk.1,hk.2⟩)) (J230x36 _) (by have:=HEL.out es (by have:=HST.out;omega);omega)).mono ?_;rintro e w4 ⟨z4,rfl,n4,g4⟩;have N4:=yB n4;have G4:Hid (Keeps zA wr w4):=(G2.out.zB G3.out).zB g4;clear g4 n4)
    go_wp2_with (go_at_call 88;refine (zCK (F:=fun _=>True) ((HN.out.zD G4.out).mono (fun _ _=>trivial)) (N4.out.mono (fun _ _=>trivial)) (J221 _) (by have:=HLL.out (max ts es) (by have:=HST.out;have:=HP2.out;omega);omega)).mono ?_;rintro e w5 ⟨z5,rfl,n5,g5⟩;have N5:=yB n5;have G5:Hid (Keeps zA wr w5):=G4.out.zB g5;clear g5 n5)
    exact J71 _
   ·obtain ⟨cn,rfl,hcn⟩:=HCN.out
    have HTK2:Hid (Ac.zk (l.take (i+1))=Ac.zk (l.take i)+ts*cn):=by show _=_;rw [HTK.out];simp
    have HP2:Hid (Ac.zk (l.take i)+ts*cn <= Ac.zk l):=by show _ <= _;have h:=HPT.out;simpa using h
    clear HTK HPT HCN;go_upto_region 15 with (go_at_call 86;refine (HTT.out _ (yC _ _)).mono ?_;rintro e w2 ⟨z2,rfl,n2,g2⟩;have d7':=g2.cell (p:=⟨g,o+i*10+7,none⟩) (fun h=>h) d7;have N2:=yB n2;have G2:=yB g2;clear g2 n2)
    go_upto_region 16 with (go_at_call 107;refine (zJs N2.out (J230x36 _) hcn).mono ?_;rintro e w4 ⟨z4,rfl,n4,g4⟩;have N4:=yB n4;have G4:Hid (Keeps zA wr w4):=G2.out.zB g4;clear g4 n4 d7')
    go_wp2_with (go_at_call 88;refine (zCK (F:=fun _=>True) ((HN.out.zD G4.out).mono (fun _ _=>trivial)) (N4.out.mono (fun _ _=>trivial)) (J221 _) (by have:=HLL.out (ts*cn) (by have:=HST.out;have:=HP2.out;omega);omega)).mono ?_;rintro e w5 ⟨z5,rfl,n5,g5⟩;have N5:=yB n5;have G5:Hid (Keeps zA wr w5):=G4.out.zB g5;clear g5 n5)
    exact J71 _
   ·have HTK2:Hid (Ac.zk (l.take (i+1))=Ac.zk (l.take i)+1):=by show _=_;rw [HTK.out];simp [k1,k10,k11]
    have HP2:Hid (Ac.zk (l.take i)+1 <= Ac.zk l):=by show _ <= _;have h:=HPT.out;simpa [k1,k10,k11] using h
    have kb1:(k==1)=false:=by simpa using k1
    have kb10:(k==10)=false:=by simpa using k10
    have kb11:(k==11)=false:=by simpa using k11
    clear HTK HPT HCN;go_wp2_with (go_at_call 88;refine (zCK (F:=fun _=>True) ((HN.out.zD ((yC zA wr).alloc _)).mono (fun _ _=>trivial)) (zQ.one (by decide) _ (yN (yK wr _)) trivial) (J221 _) (J229x36 _)).mono ?_;rintro e w5 ⟨z5,rfl,n5,g5⟩;have N5:=yB n5;have G5:Hid (Keeps zA wr w5):=((yC zA wr).alloc _).zB g5;clear g5 n5)
    go_roundw
    case rel=>exact ⟨i+1,by omega,by go_num,by show zQ _ _ _ _ _;rw [HTK2.out];exact N5.out.mono (fun k hk=>⟨by have:=hk.1;have:=HK.out.size;simp at *;omega,hk.2⟩),HK.out.zB G5.out⟩
    case measure=>simp [intOf];omega
  ·exact J105 _
theorem zPD (l:List Ac):zFa l:=by
 have key:∀ x:Ac,zFa x.thn /\ zFa x.els:=fun x=>Ac.ind (P:=fun x=>zFa x.thn /\ zFa x.els) (fun k r o x c t e h1 h2=>⟨zGA t h1,zGA e h2⟩) x
 exact zGA l (fun y _=>key y)
def zFR (l:List Ac):Prop:=∀ (w:World) (F:Nat -> Prop) (ad:Option Addr) (cap:Nat),zAQ w F l ad -> Ac.szL l < 1000000000 -> Ac.zD5 l →
 Calls Tryz.prog 87 #[.slice ad l.length cap] w fun e w'=>∃ z,e=.returned z /\ zQ w' (Since w.heap.size w') 10 (Ac.zY l) z /\ Keeps zA w w'
theorem zFt (l:List Ac) (ih:∀ y,y ∈ l -> zFR y.thn /\ zFR y.els):zFR l:=by
 intro w F ad cap h hb ho
 have HL:=yB h;have IH:=yB ih;have hl:=Ac.zAp l;have hb2:l.length < 1000000000:=by omega
 have HB:=yB hb;have HO:=yB ho;clear h ih hl hb ho;go_enter Tryz.func87,Tryz.ntmps87
 go_wp2_with fail
 go_loopw [3,4] (fun nv iv wr=>∃ i:Nat,i <= l.length /\ iv=.int .i64 i /\ Hid (zQ wr (Since w.heap.size wr) 10 (Ac.zY (l.take i)) nv) /\ Hid (Keeps zA w wr)) (fun _ iv _=>l.length - (intOf iv).toNat)
 case atStart=>exact ⟨0,yJ _,rfl,zQ.zero _ _ _,yC _ _⟩
 case round =>
  rename_i nv _
  obtain ⟨i,hi,rfl,HN,HK⟩:=hrel;by_cases hlt:i < l.length
  ·have i1:(0:Int) <= i:=by omega
   have i2:(i:Int) < l.length:=by omega
   obtain ⟨g,o,xa,xc,ta,tc,ea,ec,e1,hg,d0,d1,d2,d3,d4,d5,d6,d7,d8,d9,hx,hxt,hxe⟩:=(HL.out.keeps HK.out (fun _ _ h=>h)).at hlt;subst e1;have hsz:=Ac.zBy (yM hlt);rw [Ac.zCI] at hsz;have hB:=HB.out;have hok:=Ac.zI4 (Ac.zFs HO.out (yM hlt));have HTT:Hid (∀ W,Keeps zA wr W -> Calls Tryz.prog 87 #[.slice ta l[i].thn.length tc] W fun e w'=>∃ z,e=.returned z /\ zQ w' (Since W.heap.size w') 10 (Ac.zY l[i].thn) z /\ Keeps zA W w'):=fun W hk=>(IH.out _ (yM hlt)).1 W F ta tc (hxt.keeps hk (fun _ _ h=>h)) (by omega) hok.2.2.1
   have HEE:Hid (∀ W,Keeps zA wr W -> Calls Tryz.prog 87 #[.slice ea l[i].els.length ec] W fun e w'=>∃ z,e=.returned z /\ zQ w' (Since W.heap.size w') 10 (Ac.zY l[i].els) z /\ Keeps zA W w'):=fun W hk=>(IH.out _ (yM hlt)).2 W F ea ec (hxe.keeps hk (fun _ _ h=>h)) (by omega) hok.2.2.2
   have HTL:Hid (∀ m,m <= Ac.zY l[i].thn+1 -> (dig 10 m).length <= 12000000000):=fun m hm=>Ac.zCU (by decide) hok.2.2.1 (by omega) hm
   have HEL:Hid (∀ m,m <= Ac.zY l[i].els+1 -> (dig 10 m).length <= 12000000000):=fun m hm=>Ac.zCU (by decide) hok.2.2.2 (by omega) hm
   have HLL:Hid (∀ m,m <= Ac.zY l+1 -> (dig 10 m).length <= 12000000000):=fun m hm=>Ac.zCU (by decide) HO.out HB.out hm
   have HST:Hid (Ac.zk l[i].thn <= Ac.zY l[i].thn /\ Ac.zk l[i].els <= Ac.zY l[i].els /\ Ac.zk l <= Ac.zY l):=⟨vM _,vM _,vM _⟩;have htk:=Ac.zGh hlt;have hpt:=Ac.zGg l (i+1);rw [htk,Ac.zG1] at hpt;rw [Ac.zG1] at htk;have HTK:=yB htk;have HPT:=yB hpt;have HCN:Hid (∃ n:Nat,l[i].count=(n:Int) /\ n <= 1000):=⟨l[i].count.toNat,by omega,by omega⟩;have HX:Hid (∀ W,Keeps zA wr W -> Calls Tryz.prog 108 #[.agg #[.int .i64 l[i].ex.kind, .int .i64 l[i].ex.num, .string l[i].ex.nm, .slice xa l[i].ex.args.length xc]] W fun e w'=>e=.returned (.int .i64 l[i].ex.cnt) /\ Keeps zA W w'):=fun W hk=>zD9 l[i].ex W F xa xc (hx.keeps hk (fun _ _ h=>h)) (by omega)
   have HOW:Hid (l[i].ex.own=1+(if l[i].ex.kind=0 then 0 else l[i].ex.cnt)):=rfl;have hcnt:l[i].ex.cnt < 1000000000:=by omega
   generalize l[i].ex.own=ow at HOW HTK HPT;generalize l[i].ex.cnt=cx at HOW HX hcnt;generalize l[i].ex.kind=x3 at d3 HX HOW;generalize l[i].ex.num=x4 at d4 HX;generalize l[i].ex.nm=x5 at d5 HX;generalize l[i].ex.args.length=x6 at d6 HX;clear hx hxt hxe hsz hB hok htk hpt;generalize l[i].kind=k at d0 HTK HPT;generalize l[i].count=c at d7 HTK HPT HCN;generalize Ac.zY l[i].thn=tw at HTT HTL HST HTK HPT;generalize Ac.zY l[i].els=ew at HEE HEL HST HTK HPT;generalize Ac.zk l[i].thn=ts at HTT HST HTK HPT;generalize Ac.zk l[i].els=es at HEE HST HTK HPT;generalize l[i].thn.length=x8 at d8 HTT;generalize l[i].els.length=x9 at d9 HEE;have HOI:Hid (Ac.zY (l.take i)+ow <= Ac.zY l):=by have h:=HPT.out;show _ <= _;omega
   rcases (show x3=0 \/ ¬ x3=0 by omega) with hx3 | hx3
   case' inl =>
    have how:ow=1:=by have h:=HOW.out;rw [if_pos hx3] at h;omega
    have HOW1:=yB how;subst hx3;clear how
    go_upto_region 9 with (first
     | (go_at_call 58;refine (zFh 1 (by decide) _).mono ?_;rintro e w2 ⟨z2,rfl,n2,g2⟩;rw [<- HOW1.out] at n2;have N2:=yB n2;have G2:=yB g2;clear g2 n2)
     | (go_at_call 88;refine (zCK (F:=fun _=>True) ((HN.out.zD G2.out).mono (fun _ _=>trivial)) (N2.out.mono (fun _ _=>trivial)) (by have:=HLL.out (Ac.zY (l.take i)) (by have:=HOI.out;omega);omega) (by have:=HLL.out ow (by have:=HOI.out;omega);omega)).mono ?_;rintro e w3 ⟨z3,rfl,n3,g3⟩;have N3:=yB n3;have G3:Hid (Keeps zA wr w3):=G2.out.zB g3;clear g3 n3))
   case' inr =>
    have HOW2:Hid (ow=1+cx):=by have h:=HOW.out;rw [if_neg hx3] at h;exact h
    have hxb:(x3==0)=false:=by simpa using hx3
    have hxb2:(x3 != 0)=true:=by simpa using hx3
    have hoi:((1:Int)+(cx:Int))=(ow:Int):=by have:=HOW2.out;omega
    go_upto_region 8 with (go_at_call 108;refine (HX.out _ (yC _ _)).mono ?_;rintro e w1 ⟨rfl,g1⟩;have G1:=yB g1;clear g1)
    go_upto_region 9 with (first
     | (go_at_call 58;refine (zFh ow (by have:=HOW2.out;omega) _).mono ?_;rintro e w2 ⟨z2,rfl,n2,g2⟩;have N2:=yB n2;have G2:Hid (Keeps zA wr w2):=G1.out.zB g2;clear g2 n2)
     | (go_at_call 88;refine (zCK (F:=fun _=>True) ((HN.out.zD G2.out).mono (fun _ _=>trivial)) (N2.out.mono (fun _ _=>trivial)) (by have:=HLL.out (Ac.zY (l.take i)) (by have:=HOI.out;omega);omega) (by have:=HLL.out ow (by have:=HOI.out;omega);omega)).mono ?_;rintro e w3 ⟨z3,rfl,n3,g3⟩;have N3:=yB n3;have G3:Hid (Keeps zA wr w3):=G2.out.zB g3;clear g3 n3))
   all_goals (
    have d0':=G3.out.cell (p:=⟨g,o+i*10,none⟩) (fun h=>h) d0;have d7':=G3.out.cell (p:=⟨g,o+i*10+7,none⟩) (fun h=>h) d7;have d8':=G3.out.cell (p:=⟨g,o+i*10+8,none⟩) (fun h=>h) d8;have d9':=G3.out.cell (p:=⟨g,o+i*10+9,none⟩) (fun h=>h) d9;have HS3:Hid (wr.heap.size <= w3.heap.size):=G3.out.size;clear d0 d7 d8 d9;rcases (show k=10 \/ k=11 \/ (¬ k=10 /\ ¬ k=11) by omega) with rfl | rfl | ⟨k10,k11⟩
    ·have HTK2:Hid (Ac.zY (l.take (i+1))=Ac.zY (l.take i)+ow+max tw ew):=by show _=_;rw [HTK.out];simp [uK]
     have HP2:Hid (Ac.zY (l.take i)+ow+max tw ew <= Ac.zY l):=by show _ <= _;have h:=HPT.out;simpa [uK] using h
     clear HTK HPT HCN;go_upto_region 12 with (go_at_call 87;refine (HTT.out _ G3.out).mono ?_;rintro e w4 ⟨z4,rfl,n4,g4⟩;have d9b:=g4.cell (p:=⟨g,o+i*10+9,none⟩) (fun h=>h) d9';have N4:=yB n4;have G4:=yB g4;clear g4 n4)
     go_upto_region 13 with (go_at_call 87;refine (HEE.out _ (G3.out.zB G4.out)).mono ?_;rintro e w5 ⟨z5,rfl,n5,g5⟩;have N5:=yB n5;have G5:=yB g5;clear g5 n5 d9b)
     go_upto_region 14 with (go_at_call 106;refine (zGx (F:=fun _=>True) ((N4.out.zD G5.out).mono (fun _ _=>trivial)) (N5.out.mono (fun _ _=>trivial)) (J254x36 _) (by have:=HEL.out ew (by omega);omega)).mono ?_;rintro e w6 ⟨z6,rfl,n6,g6⟩;have N6:=yB n6;have G6:Hid (Keeps zA w3 w6):=(G4.out.zB G5.out).zB g6;clear g6 n6)
     go_wp2_with (go_at_call 88;refine (zCK (F:=fun _=>True) ((N3.out.zD G6.out).mono (fun _ _=>trivial)) N6.out (by have:=HLL.out (Ac.zY (l.take i)+ow) (by have:=HP2.out;omega);omega) (by have:=HLL.out (max tw ew) (by have:=HP2.out;omega);omega)).mono ?_;rintro e w7 ⟨z7,rfl,n7,g7⟩;have N7:=yB n7;have G7:Hid (Keeps zA wr w7):=(G3.out.zB G6.out).zB g7;clear g7 n7)
     exact J67 _
    ·obtain ⟨cn,rfl,hcn⟩:=HCN.out
     have HTK2:Hid (Ac.zY (l.take (i+1))=Ac.zY (l.take i)+ow+(tw+1)*cn):=by show _=_;rw [HTK.out];simp [uK]
     have HP2:Hid (Ac.zY (l.take i)+ow+(tw+1)*cn <= Ac.zY l):=by show _ <= _;have h:=HPT.out;simpa [uK] using h
     clear HTK HPT HCN;go_upto_region 17 with (go_at_call 87;refine (HTT.out _ G3.out).mono ?_;rintro e w4 ⟨z4,rfl,n4,g4⟩;have d7b:=g4.cell (p:=⟨g,o+i*10+7,none⟩) (fun h=>h) d7';have N4:=yB n4;have G4:=yB g4;clear g4 n4)
     go_upto_region 18 with (go_at_call 88;refine (zCK (F:=fun _=>True) ((N4.out.zD ((yC zA w4).alloc _)).mono (fun _ _=>trivial)) (zQ.one (by decide) _ (yN (yK w4 _)) trivial) (J254x36 _) (J229x36 _)).mono ?_;rintro e w5 ⟨z5,rfl,n5,g5⟩;have d7c:=(((yC zA w4).alloc _).zB g5).cell (p:=⟨g,o+i*10+7,none⟩) (fun h=>h) d7b;have N5:=yB n5;have G5:Hid (Keeps zA w3 w5):=G4.out.zB (((yC zA w4).alloc _).zB g5);clear g5 n5)
     go_upto_region 19 with (go_at_call 107;refine (zJs N5.out (by have:=HTL.out (tw+1) (by omega);omega) hcn).mono ?_;rintro e w6 ⟨z6,rfl,n6,g6⟩;have N6:=yB n6;have G6:Hid (Keeps zA w3 w6):=G5.out.zB g6;clear g6 n6 d7c)
     go_wp2_with (go_at_call 88;refine (zCK (F:=fun _=>True) ((N3.out.zD G6.out).mono (fun _ _=>trivial)) (N6.out.mono (fun _ _=>trivial)) (by have:=HLL.out (Ac.zY (l.take i)+ow) (by have:=HP2.out;omega);omega) (by have:=HLL.out ((tw+1)*cn) (by have:=HP2.out;omega);omega)).mono ?_;rintro e w7 ⟨z7,rfl,n7,g7⟩;have N7:=yB n7;have G7:Hid (Keeps zA wr w7):=(G3.out.zB G6.out).zB g7;clear g7 n7)
     exact J67 _
    ·have HTK2:Hid (Ac.zY (l.take (i+1))=Ac.zY (l.take i)+ow):=by show _=_;rw [HTK.out];simp [k10,k11]
     have kb10:(k==10)=false:=by simpa using k10
     have kb11:(k==11)=false:=by simpa using k11
     clear HTK HPT HCN;go_wp2_with fail
     go_roundw
     case rel=>exact ⟨i+1,by omega,by go_num,by show zQ _ _ _ _ _;rw [HTK2.out];exact N3.out.mono (fun k hk=>⟨by have:=hk.1;have:=HK.out.size;have:=G2.out.size;omega,hk.2⟩),HK.out.zB G3.out⟩
     case measure=>simp [intOf];omega)
  ·exact J105 _
theorem zOz (l:List Ac):zFR l:=by
 have key:∀ x:Ac,zFR x.thn /\ zFR x.els:=fun x=>Ac.ind (P:=fun x=>zFR x.thn /\ zFR x.els) (fun k r o x c t e h1 h2=>⟨zFt t h1,zFt e h2⟩) x
 exact zFt l (fun y _=>key y)
end Go.Proofs.YtfokdllgnblamaaGreatDoor
