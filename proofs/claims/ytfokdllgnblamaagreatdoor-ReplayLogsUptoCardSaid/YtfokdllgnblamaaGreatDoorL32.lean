/- Layer L: texts joined. -/
import Derived.Test.YtfokdllgnblamaaGreatDoorL17
set_option linter.all false
set_option maxHeartbeats 1000000
set_option maxRecDepth 8000
namespace Go.Proofs.YtfokdllgnblamaaGreatDoor
open Go.RowKit
theorem J16 (P:Prop) (h:P:=by
 have hc0:c=0:=by omega
 subst hc0;clear hrun h1 h2;obtain rfl:i=N:=by omega
 go_wp2_with fail
 go_ret
 first
  | exact ⟨da,dc,by first | rfl | go_num,zAG.ofRow HO.out HN.out (fun kb e=>⟨HB.out kb e,zM HO.out e⟩),HK.out⟩
  | exact ⟨da,⟨dc,by first | rfl | go_num⟩,zAG.ofRow HO.out HN.out (fun kb e=>⟨HB.out kb e,zM HO.out e⟩),HK.out⟩):P:=h
theorem J17 (P:Prop) (h:P:=by
 go_wp2_with (first | (at_builtin;refine zH _ (by rfl) _ _ 128 (by rfl) 0 3 j0 _ 1 8 Tryz.underlying128 hj0 hz0 hz1 hz2 rfl (by decide) (.slice da i dc) i (zCB 1000000000 (x+y) i) (by rfl) (zF HO.out ((yB zA wr).alloc _) (fun _ _ h=>h)) (.slice (some ⟨wr.heap.size,0,none⟩) 1 1) 1 _ (by rfl) (xN (yM (yG wr _))) rfl (by intro q hq;simp only [xU,kN,or_false] at hq;rcases hq with rfl;rfl) (by unfold maxLen;omega) (by omega) (yH _) ?_;intro da2 dc2 w4 ha;have HA:=yA ha;clear ha) | (go_at_call 98;refine (HDG.out _ _ _ (by first | exact .inl ⟨rfl,rfl⟩ | exact .inr ⟨rfl,rfl⟩) rfl).mono ?_;rintro e w2 ⟨rfl,rfl⟩))
 go_roundw
 case rel =>
  obtain ⟨g1,g2,g3⟩:=grow HO.out HK.out HB.out (by rw [<- HD.out.1];congr 1 <;> omega) HA.out;exact ⟨i+1,(d1+d2+c) / 1000000000,da2,dc2,by omega,by first | rfl | (congr 1 <;> omega),by first | rfl | (congr 1 <;> omega),by go_num,HD.out.2,by have:=HC2.out;omega,g1,g2,g3⟩
 case measure=>simp [intOf];omega):P:=h
theorem J18 (P:Prop) (h:P:=by
 go_wp2_with (first | (at_builtin;refine zH _ (by rfl) _ _ 128 (by rfl) 0 3 j0 _ 1 8 Tryz.underlying128 hj0 hz0 hz1 hz2 rfl (by decide) (.slice da i dc) i (zCB 1000000000 (x*k) i) (by rfl) (zF HO.out ((yB zA wr).alloc _) (fun _ _ h=>h)) (.slice (some ⟨wr.heap.size,0,none⟩) 1 1) 1 _ (by rfl) (xN (yM (yG wr _))) rfl (by intro q hq;simp only [xU,kN,or_false] at hq;rcases hq with rfl;rfl) (by unfold maxLen;omega) (by omega) (yH _) ?_;intro da2 dc2 w4 ha;have HA:=yA ha;clear ha) | (go_at_call 98;refine HDG.out.mono ?_;rintro e w2 ⟨rfl,rfl⟩))
 go_roundw
 case rel =>
  obtain ⟨g1,g2,g3⟩:=grow HO.out HK.out HB.out (by rw [<- HD.out.1];congr 1 <;> omega) HA.out;exact ⟨i+1,(m+c) / 1000000000,da2,dc2,by omega,by first | rfl | (congr 1 <;> omega),by first | rfl | (congr 1 <;> omega),by go_num,HD.out.2,by have:=HC2.out;omega,g1,g2,g3⟩
 case measure=>simp [intOf];omega):P:=h
theorem J55 (P:Prop) (h:P:=by
 clear hc1 hc2 h1 HR;go_wp2_with (go_at_call 98;refine (HDG.out _ _ _ (by first | exact .inl ⟨rfl,rfl⟩ | exact .inr ⟨rfl,rfl⟩) rfl).mono ?_;rintro e w2 ⟨rfl,rfl⟩)
 go_ret
 exact ⟨by first | rfl | (simp;done) | (simp;omega),rfl⟩):P:=h
theorem J56 (P:Prop) (h:P:=by
 clear hc1 hc2 h1 HR;go_wp2_with fail
 go_quiet (fail)
 go_wp2_with fail
 go_quiet (fail)
 go_wp2_with fail
 go_ret
 exact ⟨by first | rfl | (simp;done) | (simp;omega),by first | exact (HK.out.drewN _) | exact (HK.out.drewN _).drewN _⟩):P:=h
theorem J85 (P:Prop) (h:P:=by
 clear HR hm1 hm2;go_enter Tryz.func57,Tryz.ntmps57
 go_wp2_with fail
 go_ret
 exact ⟨by first | rfl | (simp;done) | (simp;omega),yB _ _⟩):P:=h
theorem J140 (P:Prop) (h:P:=by
 have h1:¬ i < p:=fun h=>hlt (hrun.1 (.inl h))
 have h2:¬ 0 < c:=fun h=>hlt (hrun.1 (.inr h))
 have i1:¬ (i:Int) < p:=by omega
 exact J16 _):P:=h
theorem J216 (P:Prop) (h:P:=by have:=(zh (by decide) p x).2 e;omega):P:=h
theorem zLw (x y:Nat) (w:World) (F:Nat -> Prop) (xa ya:Option Addr) (xc yc:Nat) (hx:zAG w F 1000000000 x xa) (hy:zAG w F 1000000000 y ya) (lx:(zn 1000000000 x).length <= 100000000000) (ly:(zn 1000000000 y).length <= 100000000000) :
 Calls Tryz.prog 117 #[.slice xa (zn 1000000000 x).length xc, .slice ya (zn 1000000000 y).length yc] w (zBU 1000000000 (x+y) w):=by
 obtain ⟨j0,hj0,hz0,hz1,hz2⟩:=info_parts zBs;have HX:=yA hx;have HY:=yA hy;obtain ⟨N,hN⟩:∃ N,N=(zn 1000000000 (x+y)).length:=⟨_,rfl⟩
 have HN:=yA hN;obtain ⟨p,hp⟩:∃ p,p=(zn 1000000000 x).length:=⟨_,rfl⟩
 obtain ⟨q,hq⟩:∃ q,q=(zn 1000000000 y).length:=⟨_,rfl⟩
 have HPQ:Hid (p=(zn 1000000000 x).length /\ q=(zn 1000000000 y).length):=⟨hp,hq⟩;obtain ⟨L,hL⟩:∃ L,L=max p q:=⟨_,rfl⟩
 have hmx:max (p:Int) (q:Int)=(L:Int):=by omega
 have hrun:∀ i,(i < L \/ 0 < (x % 1000000000 ^ i+y % 1000000000 ^ i) / 1000000000 ^ i) ↔ i < N:=fun i=>by rw [hL,hp,hq,hN];exact zHZ (by decide) x y i
 have HRUN:=yA hrun
 have hNL:N <= L+1:=by
  rcases xL (L+1) N with h | h
  ·have h1:=(hrun (L+1)).2 h
   have hx2:x < 1000000000 ^ L:=uI fun e=>by have:=(zh (by decide) L x).2 e;omega
   have hy2:y < 1000000000 ^ L:=uI fun e=>by have:=(zh (by decide) L y).2 e;omega
   have h2:1000000000 ^ (L+1) <= x+y:=(zh (by decide) (L+1) (x+y)).1 (by omega);rw [uL] at h2;omega
  ·exact h
 unfold zBU;rw [<- hN];rw [<- hp] at lx ⊢;rw [<- hq] at ly ⊢;have hN9:N <= 100000000001:=by omega
 have hL9:L <= 100000000000:=by omega
 clear hN hx hy hp hq hrun hL hNL;go_enter Tryz.func117,Tryz.ntmps117
 go_wp2_with fail
 go_loopw [5,6,7] (fun ov cv iv wr=>∃ (i c:Nat) (da:Option Addr) (dc:Nat),i <= N /\ iv=.int .i64 i /\ cv=.int .i64 c /\ ov=.slice da i dc /\ Hid (c=(x % 1000000000 ^ i+y % 1000000000 ^ i) / 1000000000 ^ i) /\ c < 2 /\ Hid (wr.ownsRow 0 3 1 (.slice da i dc) i (zCB 1000000000 (x+y) i)) /\ Hid (Keeps zA w wr) /\ Hid (∀ kb,(Value.slice da i dc).ownBlock=some kb -> w.heap.size <= kb)) (fun _ _ iv _=>N - (intOf iv).toNat)
 case atStart=>exact ⟨0,0,none,0,yH _,rfl,rfl,rfl,by show _=_;simp [Nat.mod_one],by decide,xB _ _ _ _,yB _ _,fun kb e=>by exact J153 _⟩
 case round =>
  obtain ⟨i,c,da,dc,hi,rfl,rfl,rfl,HC,hc2,HO,HK,HB⟩:=hrel;have hrun:=HRUN.out i;rw [<- HC.out] at hrun;by_cases hlt:i < N
  ·have HDG:Hid (∀ W s z,(s=.slice xa p xc /\ z=x / 1000000000 ^ i % 1000000000 \/ s=.slice ya q yc /\ z=y / 1000000000 ^ i % 1000000000) -> W=wr -> Calls Tryz.prog 98 #[s, .int .i64 i] W fun e w'=>e=.returned (.int .i64 (z:Nat)) /\ W=w'):=fun W s z h hW=>by
    subst hW;rcases h with ⟨rfl,rfl⟩ | ⟨rfl,rfl⟩
    ·rw [HPQ.out.1];exact zCv 1000000000 (by decide) x i _ F xa xc (HX.out.keeps HK.out (fun _ _ h=>h))
    ·rw [HPQ.out.2];exact zCv 1000000000 (by decide) y i _ F ya yc (HY.out.keeps HK.out (fun _ _ h=>h))
   have hs:=zGN (b:=1000000000) (by decide) x y i;have hcn:=zFZ (b:=1000000000) (by decide) x y (i+1);have hd1:=zCT (b:=1000000000) (by decide) x i;have hd2:=zCT (b:=1000000000) (by decide) y i;rw [<- HC.out] at hs;rw [<- hs.2] at hcn;have HD:Hid ((x / 1000000000 ^ i % 1000000000+y / 1000000000 ^ i % 1000000000+c) % 1000000000=(x+y) / 1000000000 ^ i % 1000000000 /\ (x / 1000000000 ^ i % 1000000000+y / 1000000000 ^ i % 1000000000+c) / 1000000000=(x % 1000000000 ^ (i+1)+y % 1000000000 ^ (i+1)) / 1000000000 ^ (i+1)):=hs;have HC2:Hid ((x / 1000000000 ^ i % 1000000000+y / 1000000000 ^ i % 1000000000+c) / 1000000000 < 2):=hcn;clear hs hcn;generalize x / 1000000000 ^ i % 1000000000=d1 at HDG HD hd1 HC2;generalize y / 1000000000 ^ i % 1000000000=d2 at HDG HD hd2 HC2;have hor:=hrun.2 hlt;clear hrun;have i0:(0:Int) <= i:=by omega
   rcases (show (i < L) \/ (¬ i < L /\ 0 < c) by omega) with h | ⟨h,h2⟩
   ·have i1:(i:Int) < L:=by omega
    exact J17 _
   ·have i1:¬ (i:Int) < L:=by omega
    have i2:(0:Int) < c:=by omega
    exact J17 _
  ·have h1:¬ i < L:=fun h=>hlt (hrun.1 (.inl h))
   have h2:¬ 0 < c:=fun h=>hlt (hrun.1 (.inr h))
   have i1:¬ (i:Int) < L:=by omega
   exact J16 _
theorem zKI (x k:Nat) (w:World) (F:Nat -> Prop) (xa:Option Addr) (xc:Nat) (hx:zAG w F 1000000000 x xa) (lx:(zn 1000000000 x).length <= 100000000000) (hk:k <= 1000) :
 Calls Tryz.prog 118 #[.slice xa (zn 1000000000 x).length xc, .int .i64 k] w (zBU 1000000000 (x*k) w):=by
 obtain ⟨j0,hj0,hz0,hz1,hz2⟩:=info_parts zBs;by_cases hk0:k=0
 ·subst hk0
  unfold zBU;rw [Nat.mul_zero,zA1];generalize (zn 1000000000 x).length=p;clear hx lx;go_enter Tryz.func118,Tryz.ntmps118
  go_wp2_with fail
  go_ret
  exact ⟨none,0,rfl,zAG.zero _ _ _ _,yB _ _⟩
 have HX:=yA hx;have k0:0 < k:=by omega
 have k0':¬ (k:Int)=0:=by omega
 have k0b:((k:Int)==0)=false:=by simpa using k0'
 obtain ⟨N,hN⟩:∃ N,N=(zn 1000000000 (x*k)).length:=⟨_,rfl⟩
 have HN:=yA hN;obtain ⟨p,hp⟩:∃ p,p=(zn 1000000000 x).length:=⟨_,rfl⟩
 have HPQ:Hid (p=(zn 1000000000 x).length):=hp;have hrun:∀ i,(i < p \/ 0 < x % 1000000000 ^ i*k / 1000000000 ^ i) ↔ i < N:=fun i=>by rw [hp,hN];exact zGJ (by decide) x k i k0
 have HRUN:=yA hrun
 have hNL:N <= p+1:=by
  rcases xL (p+1) N with h | h
  ·have hx2:x < 1000000000 ^ p:=uI fun e=>by exact J216 _
   have h2:1000000000 ^ (p+1) <= x*k:=(zh (by decide) (p+1) (x*k)).1 (by omega);rw [uL] at h2;have h3:x*k <= x*1000:=Nat.mul_le_mul_left x hk;omega
  ·exact h
 unfold zBU;rw [<- hN];rw [<- hp] at lx ⊢;have hN9:N <= 100000000001:=by omega
 clear hN hx hp hrun hNL hk0;go_enter Tryz.func118,Tryz.ntmps118
 go_wp2_with fail
 go_loopw [5,6,7] (fun ov cv iv wr=>∃ (i c:Nat) (da:Option Addr) (dc:Nat),i <= N /\ iv=.int .i64 i /\ cv=.int .i64 c /\ ov=.slice da i dc /\ Hid (c=x % 1000000000 ^ i*k / 1000000000 ^ i) /\ c < 1000 /\ Hid (wr.ownsRow 0 3 1 (.slice da i dc) i (zCB 1000000000 (x*k) i)) /\ Hid (Keeps zA w wr) /\ Hid (∀ kb,(Value.slice da i dc).ownBlock=some kb -> w.heap.size <= kb)) (fun _ _ iv _=>N - (intOf iv).toNat)
 case atStart=>exact ⟨0,0,none,0,yH _,rfl,rfl,rfl,by show _=_;simp [Nat.mod_one],by decide,xB _ _ _ _,yB _ _,fun kb e=>by exact J153 _⟩
 case round =>
  obtain ⟨i,c,da,dc,hi,rfl,rfl,rfl,HC,hc2,HO,HK,HB⟩:=hrel;have hrun:=HRUN.out i;rw [<- HC.out] at hrun;by_cases hlt:i < N
  ·have HDG:Hid (Calls Tryz.prog 98 #[.slice xa p xc, .int .i64 i] wr fun e w'=>e=.returned (.int .i64 ((x / 1000000000 ^ i % 1000000000:Nat):Int)) /\ wr=w'):=by
    rw [HPQ.out];exact zCv 1000000000 (by decide) x i _ F xa xc (HX.out.keeps HK.out (fun _ _ h=>h))
   have hs:=zGe (b:=1000000000) (by decide) x k i;have hcn:=zE7 (b:=1000000000) (by decide) x k (i+1) k0;have hd1:=zCT (b:=1000000000) (by decide) x i;rw [<- HC.out] at hs;rw [<- hs.2] at hcn;obtain ⟨m,hm⟩:∃ m,m=x / 1000000000 ^ i % 1000000000*k:=⟨_,rfl⟩
   have hm2:m <= 1000000000*1000:=by rw [hm];exact Nat.mul_le_mul (by omega) hk
   have HD:Hid ((m+c) % 1000000000=x*k / 1000000000 ^ i % 1000000000 /\ (m+c) / 1000000000=x % 1000000000 ^ (i+1)*k / 1000000000 ^ (i+1)):=by rw [hm];exact hs
   have HC2:Hid ((m+c) / 1000000000 < 1000):=by rw [hm];show _ < _;omega
   clear hs hcn;generalize x / 1000000000 ^ i % 1000000000=d1 at HDG hd1 hm;have hmi:((d1:Int)*(k:Int))=(m:Int):=by rw [hm,Int.natCast_mul]
   have hor:=hrun.2 hlt;clear hrun hm;have i0:(0:Int) <= i:=by omega
   rcases (show (i < p) \/ (¬ i < p /\ 0 < c) by omega) with h | ⟨h,h2⟩
   ·have i1:(i:Int) < p:=by omega
    exact J18 _
   ·have i1:¬ (i:Int) < p:=by omega
    have i2:(0:Int) < c:=by omega
    exact J18 _
  ·exact J140 _
theorem zGL (x y:Nat) (w:World) (F:Nat -> Prop) (xa ya:Option Addr) (xc yc:Nat) (hx:zAG w F 1000000000 x xa) (hy:zAG w F 1000000000 y ya) (lx:(zn 1000000000 x).length <= 100000000000) (ly:(zn 1000000000 y).length <= 100000000000) :
 Calls Tryz.prog 68 #[.slice xa (zn 1000000000 x).length xc, .slice ya (zn 1000000000 y).length yc] w fun e w'=>e=.returned (.bool (decide (y < x))) /\ w=w':=by
 have HX:=yA hx;have HY:=yA hy;obtain ⟨p,hp⟩:∃ p,p=(zn 1000000000 x).length:=⟨_,rfl⟩
 obtain ⟨q,hq⟩:∃ q,q=(zn 1000000000 y).length:=⟨_,rfl⟩
 have HPQ:Hid (p=(zn 1000000000 x).length /\ q=(zn 1000000000 y).length):=⟨hp,hq⟩;obtain ⟨L,hL⟩:∃ L,L=max p q:=⟨_,rfl⟩
 have hmx:max (p:Int) (q:Int)=(L:Int):=by omega
 have H0:Hid (x / 1000000000 ^ L=y / 1000000000 ^ L):=by
  show _=_
  have h1:x < 1000000000 ^ L:=uI fun e=>by have:=(zh (by decide) L x).2 e;omega
  have h2:y < 1000000000 ^ L:=uI fun e=>by have:=(zh (by decide) L y).2 e;omega
  rw [kP h1,kP h2]
 obtain ⟨r,hr⟩:∃ r,r=decide (y < x):=⟨_,rfl⟩
 have HR:=yA hr;rw [<- hr];rw [<- hp] at lx ⊢;rw [<- hq] at ly ⊢;have hL9:L <= 100000000000:=by omega
 clear hx hy hp hq hL hr;go_enter Tryz.func68,Tryz.ntmps68
 go_wp2_with fail
 go_loopw [5] (fun iv wr=>∃ (j:Nat) (z:Int),j <= L /\ iv=.int .i64 z /\ z=(j:Int) - 1 /\ wr=w /\ Hid (x / 1000000000 ^ j=y / 1000000000 ^ j)) (fun iv _=>(intOf iv+1).toNat)
 case atStart=>exact ⟨L,_,yV _,rfl,rfl,rfl,H0⟩
 case round =>
  obtain ⟨j,z,hj,rfl,hz,rfl,HE⟩:=hrel;cases j with
  | zero =>
    obtain rfl:z=-1:=by omega
    clear hz
    obtain rfl:r=false:=by
     have h:=HE.out;rw [Nat.pow_zero,Nat.div_one,Nat.div_one] at h;rw [HR.out,h];simp
    clear HR;go_wp2_with fail
    go_ret
    exact ⟨rfl,rfl⟩
  | succ m =>
    obtain rfl:z=(m:Int):=by omega
    clear hz;have i0:(0:Int) <= m:=by omega
    have HDG:Hid (∀ W s z,(s=.slice xa p xc /\ z=x / 1000000000 ^ m % 1000000000 \/ s=.slice ya q yc /\ z=y / 1000000000 ^ m % 1000000000) -> W=wr -> Calls Tryz.prog 98 #[s, .int .i64 m] W fun e w'=>e=.returned (.int .i64 (z:Nat)) /\ W=w'):=fun W s z h hW=>by
     subst hW;rcases h with ⟨rfl,rfl⟩ | ⟨rfl,rfl⟩
     ·rw [HPQ.out.1];exact zCv 1000000000 (by decide) x m _ F xa xc HX.out
     ·rw [HPQ.out.2];exact zCv 1000000000 (by decide) y m _ F ya yc HY.out
    have hc1:=zDl (b:=1000000000) (by decide) HE.out;have hc2:=zDl (b:=1000000000) (by decide) HE.out.symm;generalize x / 1000000000 ^ m % 1000000000=d1 at HDG hc1 hc2;generalize y / 1000000000 ^ m % 1000000000=d2 at HDG hc1 hc2;rcases Nat.lt_trichotomy d1 d2 with h | h | h
    ·have hb:((d1:Int) != (d2:Int))=true:=by rw [bne_iff_ne];omega
     have hn:¬ (d1:Int)=d2:=by omega
     have hl:¬ (d2:Int) < d1:=by omega
     have h1:=hc1.2 h;obtain rfl:r=false:=by rw [HR.out];simp;omega
     exact J55 _
    ·subst h
     have hb:((d1:Int) != (d1:Int))=false:=by simp
     have HN:Hid (x / 1000000000 ^ m=y / 1000000000 ^ m):=hc1.1 rfl;clear hc1 hc2;go_wp2_with (go_at_call 98;refine (HDG.out _ _ _ (by first | exact .inl ⟨rfl,rfl⟩ | exact .inr ⟨rfl,rfl⟩) rfl).mono ?_;rintro e w2 ⟨rfl,rfl⟩)
     go_roundw
     case rel=>exact ⟨m,_,by omega,rfl,by omega,by first | rfl | trivial,HN⟩
     case measure=>(try simp [intOf]) <;> (try omega)
    ·have hb:((d1:Int) != (d2:Int))=true:=by rw [bne_iff_ne];omega
     have hn:¬ (d1:Int)=d2:=by omega
     have hl:(d2:Int) < d1:=by omega
     have h1:=hc2.2 h;obtain rfl:r=true:=by rw [HR.out];simp;omega
     exact J55 _
theorem zHm (x y:Nat) (w:World) (F:Nat -> Prop) (xa ya:Option Addr) (xc yc:Nat) (hx:zAG w F 1000000000 x xa) (hy:zAG w F 1000000000 y ya) (lx:(zn 1000000000 x).length <= 100000000000) (ly:(zn 1000000000 y).length <= 100000000000) :
 Calls Tryz.prog 116 #[.slice xa (zn 1000000000 x).length xc, .slice ya (zn 1000000000 y).length yc] w fun e w'=>(∃ ad cap,e=.returned (.slice ad (zn 1000000000 (max x y)).length cap) /\ zAG w' F 1000000000 (max x y) ad) /\ w=w':=by
 have HA:Hid (∀ W,W=w -> Calls Tryz.prog 68 #[.slice ya (zn 1000000000 y).length yc, .slice xa (zn 1000000000 x).length xc] W fun e w'=>e=.returned (.bool (decide (x < y))) /\ W=w'):=fun W e=>by rw [e];exact zGL y x w F ya xa yc xc hy hx ly lx
 have HX:=yA hx;have HY:=yA hy;by_cases h:x < y
 ·have e:max x y=y:=by omega
  rw [e];rw [xZ h] at HA;generalize (zn 1000000000 x).length=p at HA ⊢;obtain ⟨q,hq⟩:∃ q,q=(zn 1000000000 y).length:=⟨_,rfl⟩
  rw [<- hq] at HA ⊢;clear hx hy lx ly hq;go_enter Tryz.func116,Tryz.ntmps116
  go_wp2_with (go_at_call 68;refine (HA.out _ rfl).mono ?_;rintro e w2 ⟨rfl,rfl⟩)
  go_ret
  exact ⟨⟨_,_,rfl,HY.out⟩,rfl⟩
 ·have e:max x y=x:=by omega
  rw [e];rw [xY h] at HA;generalize (zn 1000000000 y).length=q at HA ⊢;obtain ⟨p,hp⟩:∃ p,p=(zn 1000000000 x).length:=⟨_,rfl⟩
  rw [<- hp] at HA ⊢;clear hx hy lx ly hp;go_enter Tryz.func116,Tryz.ntmps116
  go_wp2_with (go_at_call 68;refine (HA.out _ rfl).mono ?_;rintro e w2 ⟨rfl,rfl⟩)
  go_ret
  exact ⟨⟨_,_,rfl,HX.out⟩,rfl⟩
theorem zHT {b x y:Nat} (hb:2 <= b) (h:x <= y):(zn b x).length <= (zn b y).length:=by
 rcases xL (zn b y).length (zn b x).length with h1 | h1
 ·have h2:=(zh hb _ x).1 h1
  have h3:=(zh hb _ y).2 (yU h2 h);omega
 ·exact h1
theorem zHf (x y:Nat) (w:World) (F:Nat -> Prop) (xa ya:Option Addr) (xc yc:Nat) (hx:zAG w F 10 x xa) (hy:zAG w F 10 y ya) (lx:(zn 10 x).length <= 100000000000) (ly:(zn 10 y).length <= 100000000000) :
 Calls Tryz.prog 57 #[.slice xa (zn 10 x).length xc, .slice ya (zn 10 y).length yc] w fun e w'=>e=.returned (.bool (decide (x < y))) /\ Keeps zA w w':=by
 have HX:=yA hx;have HY:=yA hy;obtain ⟨p,hp⟩:∃ p,p=(zn 10 x).length:=⟨_,rfl⟩
 obtain ⟨q,hq⟩:∃ q,q=(zn 10 y).length:=⟨_,rfl⟩
 have HPQ:Hid (p=(zn 10 x).length /\ q=(zn 10 y).length):=⟨hp,hq⟩
 have H0:Hid (p=q -> x / 10 ^ p=y / 10 ^ p):=fun e=>by
  have h1:x < 10 ^ p:=uI fun e=>by exact J216 _
  have h2:y < 10 ^ p:=uI fun e=>by have:=(zh (by decide) p y).2 e;omega
  rw [kP h1,kP h2]
 have hm1:=zHT (b:=10) (x:=x) (y:=y) (by decide);have hm2:=zHT (b:=10) (x:=y) (y:=x) (by decide);rw [<- hp,<- hq] at hm1 hm2;obtain ⟨r,hr⟩:∃ r,r=decide (x < y):=⟨_,rfl⟩
 have HR:=yA hr;rw [<- hr];rw [<- hp] at lx ⊢;rw [<- hq] at ly ⊢;clear hx hy hp hq hr;rcases Nat.lt_trichotomy p q with h | h | h
 ·have hb:((p:Int) != (q:Int))=true:=by rw [bne_iff_ne];omega
  have hl:(p:Int) < q:=by omega
  obtain rfl:r=true:=by rw [HR.out];simp;omega
  exact J85 _
 ·subst h
  have hb:((p:Int) != (p:Int))=false:=by simp
  have HE0:=yA (H0.out rfl);clear hm1 hm2 H0;go_enter Tryz.func57,Tryz.ntmps57
  go_wp2_with fail
  go_loopw [5] (fun iv wr=>∃ (j:Nat) (z:Int),j <= p /\ iv=.int .i64 z /\ z=(j:Int) - 1 /\ Hid (Keeps zA w wr) /\ Hid (x / 10 ^ j=y / 10 ^ j)) (fun iv _=>(intOf iv+1).toNat)
  case atStart=>exact ⟨p,_,yV _,rfl,rfl,yB _ _,HE0⟩
  case round =>
   obtain ⟨j,z,hj,rfl,hz,HK,HE⟩:=hrel;cases j with
   | zero =>
     obtain rfl:z=-1:=by omega
     clear hz
     obtain rfl:r=false:=by
      have h:=HE.out;rw [Nat.pow_zero,Nat.div_one,Nat.div_one] at h;rw [HR.out,h];simp
     clear HR;go_wp2_with fail
     go_ret
     exact ⟨rfl,HK.out⟩
   | succ m =>
     obtain rfl:z=(m:Int):=by omega
     clear hz;have i0:(0:Int) <= m:=by omega
     have i1:(m:Int) < p:=by omega
     obtain ⟨g,o,e1,hg,c1⟩:=(HX.out.keeps HK.out (fun _ _ h=>h)) m (by have:=HPQ.out.1;omega);obtain ⟨g2,o2,e2,hg2,c2⟩:=(HY.out.keeps HK.out (fun _ _ h=>h)) m (by have:=HPQ.out.2;omega);have hc1:=zDl (b:=10) (by decide) HE.out;have hc2:=zDl (b:=10) (by decide) HE.out.symm;generalize x / 10 ^ m % 10=d1 at c1 hc1 hc2;generalize y / 10 ^ m % 10=d2 at c2 hc1 hc2;have HKK:=HK;subst e1 e2;clear hg hg2;rcases Nat.lt_trichotomy d1 d2 with h | h | h
     ·have hb:((d1:Int) != (d2:Int))=true:=by rw [bne_iff_ne];omega
      have hn:¬ (d1:Int)=d2:=by omega
      have hl:(d1:Int) < d2:=by omega
      have h1:=hc1.2 h;obtain rfl:r=true:=by rw [HR.out];simp;omega
      exact J56 _
     ·subst h
      have hb:((d1:Int) != (d1:Int))=false:=by simp
      have HN:Hid (x / 10 ^ m=y / 10 ^ m):=hc1.1 rfl;clear hc1 hc2;go_wp2_with fail
      go_quiet (fail)
      go_wp2_with fail
      go_roundw
      case rel=>exact ⟨m,_,by omega,rfl,by omega,HK.out.drewN _,HN⟩
      case measure=>(try simp [intOf]) <;> (try omega)
     ·have hb:((d1:Int) != (d2:Int))=true:=by rw [bne_iff_ne];omega
      have hn:¬ (d1:Int)=d2:=by omega
      have hl:¬ (d1:Int) < d2:=by omega
      have h1:=hc2.2 h;obtain rfl:r=false:=by rw [HR.out];simp;omega
      exact J56 _
 ·have hb:((p:Int) != (q:Int))=true:=by rw [bne_iff_ne];omega
  have hl:¬ (p:Int) < q:=by omega
  obtain rfl:r=false:=by rw [HR.out];simp;omega
  exact J85 _
theorem zGu (x y:Nat) (w:World) (F:Nat -> Prop) (xa ya:Option Addr) (xc yc:Nat) (hx:zAG w F 10 x xa) (hy:zAG w F 10 y ya) (lx:(zn 10 x).length <= 100000000000) (ly:(zn 10 y).length <= 100000000000) :
 Calls Tryz.prog 106 #[.slice xa (zn 10 x).length xc, .slice ya (zn 10 y).length yc] w fun e w'=>∃ ad cap,e=.returned (.slice ad (zn 10 (max x y)).length cap) /\ zAG w' F 10 (max x y) ad /\ Keeps zA w w':=by
 have HA:Hid (∀ W,W=w -> Calls Tryz.prog 57 #[.slice xa (zn 10 x).length xc, .slice ya (zn 10 y).length yc] W fun e w'=>e=.returned (.bool (decide (x < y))) /\ Keeps zA W w'):=fun W e=>by rw [e];exact zHf x y w F xa ya xc yc hx hy lx ly
 have HX:=yA hx;have HY:=yA hy;obtain ⟨p,hp⟩:∃ q,q=(zn 10 x).length:=⟨_,rfl⟩
 obtain ⟨q,hq⟩:∃ q,q=(zn 10 y).length:=⟨_,rfl⟩
 by_cases h:x < y
 ·have e:max x y=y:=by omega
  rw [e];rw [xZ h] at HA;rw [<- hp,<- hq] at HA ⊢;clear hx hy lx ly hq hp;go_enter Tryz.func106,Tryz.ntmps106
  go_wp2_with (go_at_call 57;refine (HA.out _ rfl).mono ?_;rintro e w2 ⟨rfl,g2⟩;have G2:=yA g2;clear g2)
  go_ret
  first
   | exact ⟨_,_,rfl,HY.out.keeps G2.out (fun _ _ h=>h),G2.out⟩
   | exact ⟨_,⟨_,rfl⟩,HY.out.keeps G2.out (fun _ _ h=>h),G2.out⟩
   | exact ⟨HY.out.keeps G2.out (fun _ _ h=>h),G2.out⟩
 ·have e:max x y=x:=by omega
  rw [e];rw [xY h] at HA;rw [<- hp,<- hq] at HA ⊢;clear hx hy lx ly hp hq;go_enter Tryz.func106,Tryz.ntmps106
  go_wp2_with (go_at_call 57;refine (HA.out _ rfl).mono ?_;rintro e w2 ⟨rfl,g2⟩;have G2:=yA g2;clear g2)
  go_ret
  first
   | exact ⟨_,_,rfl,HX.out.keeps G2.out (fun _ _ h=>h),G2.out⟩
   | exact ⟨_,⟨_,rfl⟩,HX.out.keeps G2.out (fun _ _ h=>h),G2.out⟩
   | exact ⟨HX.out.keeps G2.out (fun _ _ h=>h),G2.out⟩
end Go.Proofs.YtfokdllgnblamaaGreatDoor
