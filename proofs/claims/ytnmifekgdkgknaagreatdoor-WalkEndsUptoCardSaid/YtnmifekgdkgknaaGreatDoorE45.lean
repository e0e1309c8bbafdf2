/- Layer E: texts joined. -/
import Derived.Test.YtnmifekgdkgknaaGreatDoorE18
import Derived.Laws.IdiomStrings
import Derived.Lib.UnsafeStr
set_option linter.unusedVariables false
set_option linter.unusedSimpArgs false
set_option linter.unnecessarySimpa false
namespace Go.Proofs.YtnmifekgdkgknaaGreatDoor
open Go.RowKit
set_option maxRecDepth 8000 in
set_option maxHeartbeats 1000000 in
theorem rplus_any (x y:Nat) (w:World) (F:Nat -> Prop) (xa ya:Option Addr) (xc yc:Nat) (hx:DigAt w F 10 x xa) (hy:DigAt w F 10 y ya) (lx:(dig 10 x).length <= 100000000000) (ly:(dig 10 y).length <= 100000000000) :
    Calls Tryz.prog 90 #[.slice xa (dig 10 x).length xc, .slice ya (dig 10 y).length yc] w (NewNum 10 (x+y) w):=by
  obtain ⟨j0,hj0,hz0,hz1,hz2⟩:=info_parts infoInt
  have HX:=Lib.hid hx
  have HY:=Lib.hid hy
  obtain ⟨N,hN⟩:∃ N,N=(dig 10 (x+y)).length:=⟨_,rfl⟩
  have HN:=Lib.hid hN
  obtain ⟨p,hp⟩:∃ p,p=(dig 10 x).length:=⟨_,rfl⟩
  obtain ⟨q,hq⟩:∃ q,q=(dig 10 y).length:=⟨_,rfl⟩
  have HPQ:Hid (p=(dig 10 x).length /\ q=(dig 10 y).length):=⟨hp,hq⟩
  have hrun:∀ i,(i < max p q \/ 0 < (x % 10 ^ i+y % 10 ^ i) / 10 ^ i) ↔ i < N:=fun i=>by rw [hp,hq,hN];exact run_plus (by decide) x y i
  have HRUN:=Lib.hid hrun
  have hNL:N <= max p q+1:=by
    rcases Nat.lt_or_ge (max p q+1) N with h | h
    · have hx2:x < 10 ^ (max p q):=Nat.lt_of_not_le fun e=>by have:=(dig_len_lt (by decide) (max p q) x).2 e;omega
      have hy2:y < 10 ^ (max p q):=Nat.lt_of_not_le fun e=>by have:=(dig_len_lt (by decide) (max p q) y).2 e;omega
      have h2:10 ^ (max p q+1) <= x+y:=(dig_len_lt (by decide) (max p q+1) (x+y)).1 (by omega)
      rw [Nat.pow_succ] at h2
      omega
    · exact h
  unfold NewNum
  rw [<- hN]
  rw [<- hp] at lx ⊢
  rw [<- hq] at ly ⊢
  have hN9:N <= 100000000001:=by omega
  clear hN hx hy hp hq hrun hNL
  go_enter Tryz.func90,Tryz.ntmps90
  go_wp2_with fail
  go_loopw [5,6,7] (fun ov cv iv wr=>∃ (i c:Nat) (da:Option Addr) (dc:Nat),i <= N /\ iv=.int .i64 i /\ cv=.int .i64 c /\ ov=.slice da i dc /\ Hid (c=(x % 10 ^ i+y % 10 ^ i) / 10 ^ i) /\ c < 2 /\ Hid (wr.ownsRow 0 3 1 (.slice da i dc) i (digs 10 (x+y) i)) /\ Hid (Keeps NoBlk w wr) /\ Hid (∀ kb,(Value.slice da i dc).ownBlock=some kb -> w.heap.size <= kb)) (fun _ _ iv _=>N - (intOf iv).toNat)
  case atStart=>exact ⟨0,0,none,0,Nat.zero_le _,rfl,rfl,rfl,by show _=_;simp [Nat.mod_one],by decide,World.ownsRow_nil _ _ _ _,Keeps.refl _ _,fun kb e=>by simp [Value.ownBlock] at e⟩
  case round =>
    obtain ⟨i,c,da,dc,hi,rfl,rfl,rfl,HC,hc2,HO,HK,HB⟩:=hrel
    have hrun:=HRUN.out i
    rw [<- HC.out] at hrun
    by_cases hlt:i < N
    · have hs:=sum_digit (b:=10) (by decide) x y i
      have hcn:=carry_plus (b:=10) (by decide) x y (i+1)
      have hd1:=digit_lt (b:=10) (by decide) x i
      have hd2:=digit_lt (b:=10) (by decide) y i
      rw [<- HC.out] at hs
      rw [<- hs.2] at hcn
      have HD:Hid ((x / 10 ^ i % 10+y / 10 ^ i % 10+c) % 10=(x+y) / 10 ^ i % 10 /\ (x / 10 ^ i % 10+y / 10 ^ i % 10+c) / 10=(x % 10 ^ (i+1)+y % 10 ^ (i+1)) / 10 ^ (i+1)):=hs
      have HC2:Hid ((x / 10 ^ i % 10+y / 10 ^ i % 10+c) / 10 < 2):=hcn
      have HCX:Hid (i < p -> ∃ g o,xa=some ⟨g,o,none⟩ /\ wr.cell? ⟨g,o+i,none⟩=some (.int .i64 ((x / 10 ^ i % 10:Nat):Int))):=fun h=>by
        obtain ⟨g,o,e,_,c0⟩:=(HX.out.keeps HK.out (fun _ _ h=>h)) i (by have:=HPQ.out.1;omega)
        exact ⟨g,o,e,c0⟩
      have HCY:Hid (i < q -> ∃ g o,ya=some ⟨g,o,none⟩ /\ wr.cell? ⟨g,o+i,none⟩=some (.int .i64 ((y / 10 ^ i % 10:Nat):Int))):=fun h=>by
        obtain ⟨g,o,e,_,c0⟩:=(HY.out.keeps HK.out (fun _ _ h=>h)) i (by have:=HPQ.out.2;omega)
        exact ⟨g,o,e,c0⟩
      have HZX:Hid (¬ i < p -> x / 10 ^ i % 10=0):=fun h=>dig_past (by decide) (by have:=HPQ.out.1;omega)
      have HZY:Hid (¬ i < q -> y / 10 ^ i % 10=0):=fun h=>dig_past (by decide) (by have:=HPQ.out.2;omega)
      clear hs hcn
      generalize x / 10 ^ i % 10=d1 at HD hd1 HC2 HCX HZX
      generalize y / 10 ^ i % 10=d2 at HD hd2 HC2 HCY HZY
      have hor:=hrun.2 hlt
      clear hrun
      have i0:(0:Int) <= i:=by omega
      rcases (show (i < p /\ i < q) \/ (i < p /\ ¬ i < q) \/ (¬ i < p /\ i < q) \/ (¬ i < p /\ ¬ i < q /\ 0 < c) by omega) with ⟨h1,h2⟩ | ⟨h1,h2⟩ | ⟨h1,h2⟩ | ⟨h1,h2,h3⟩
      · obtain ⟨g,o,e1,c1⟩:=HCX.out h1
        subst e1
        have i1:(i:Int) < p:=by omega
        obtain ⟨g2,o2,e2,c2⟩:=HCY.out h2
        subst e2
        have i2:(i:Int) < q:=by omega
        clear HCX HCY HZX HZY
        go_wp2_with (at_builtin;refine wpList_append_src _ (by rfl) _ _ 22 (by rfl) 0 3 j0 _ 1 8 Tryz.underlying22 hj0 hz0 hz1 hz2 rfl (by decide) (.slice da i dc) i (digs 10 (x+y) i) (by rfl) (ownsRow_keeps HO.out ((Keeps.refl NoBlk wr).alloc _) (fun _ _ h=>h)) (.slice (some ⟨wr.heap.size,0,none⟩) 1 1) 1 _ (by rfl) (RowAt.src (RowAt.ofBlock (heap_alloc_new wr _))) rfl (by intro q hq;simp only [List.mem_cons,List.not_mem_nil,or_false] at hq;rcases hq with rfl;rfl) (by unfold maxLen;omega) (by omega) (Nat.zero_le _) ?_;intro da2 dc2 w4 ha;have HA:=Lib.hid ha;clear ha)
        go_roundw
        case rel =>
          obtain ⟨g1,g2,g3⟩:=grow HO.out HK.out HB.out (by rw [<- HD.out.1];congr 1 <;> omega) HA.out
          exact ⟨i+1,(d1+d2+c) / 10,da2,dc2,by omega,by first | rfl | (congr 1 <;> omega),by first | rfl | (congr 1 <;> omega),by go_num,HD.out.2,by have:=HC2.out;omega,g1,g2,g3⟩
        case measure=>simp [intOf];omega
      · obtain ⟨g,o,e1,c1⟩:=HCX.out h1
        subst e1
        have i1:(i:Int) < p:=by omega
        obtain rfl:=HZY.out h2
        have i2:¬ (i:Int) < q:=by omega
        clear HCX HCY HZX HZY
        go_wp2_with (at_builtin;refine wpList_append_src _ (by rfl) _ _ 22 (by rfl) 0 3 j0 _ 1 8 Tryz.underlying22 hj0 hz0 hz1 hz2 rfl (by decide) (.slice da i dc) i (digs 10 (x+y) i) (by rfl) (ownsRow_keeps HO.out ((Keeps.refl NoBlk wr).alloc _) (fun _ _ h=>h)) (.slice (some ⟨wr.heap.size,0,none⟩) 1 1) 1 _ (by rfl) (RowAt.src (RowAt.ofBlock (heap_alloc_new wr _))) rfl (by intro q hq;simp only [List.mem_cons,List.not_mem_nil,or_false] at hq;rcases hq with rfl;rfl) (by unfold maxLen;omega) (by omega) (Nat.zero_le _) ?_;intro da2 dc2 w4 ha;have HA:=Lib.hid ha;clear ha)
        go_roundw
        case rel =>
          obtain ⟨g1,g2,g3⟩:=grow HO.out HK.out HB.out (by rw [<- HD.out.1];congr 1 <;> omega) HA.out
          exact ⟨i+1,(d1+0+c) / 10,da2,dc2,by omega,by first | rfl | (congr 1 <;> omega),by first | rfl | (congr 1 <;> omega),by go_num,HD.out.2,by have:=HC2.out;omega,g1,g2,g3⟩
        case measure=>simp [intOf];omega
      · obtain rfl:=HZX.out h1
        have i1:¬ (i:Int) < p:=by omega
        obtain ⟨g2,o2,e2,c2⟩:=HCY.out h2
        subst e2
        have i2:(i:Int) < q:=by omega
        clear HCX HCY HZX HZY
        go_wp2_with (at_builtin;refine wpList_append_src _ (by rfl) _ _ 22 (by rfl) 0 3 j0 _ 1 8 Tryz.underlying22 hj0 hz0 hz1 hz2 rfl (by decide) (.slice da i dc) i (digs 10 (x+y) i) (by rfl) (ownsRow_keeps HO.out ((Keeps.refl NoBlk wr).alloc _) (fun _ _ h=>h)) (.slice (some ⟨wr.heap.size,0,none⟩) 1 1) 1 _ (by rfl) (RowAt.src (RowAt.ofBlock (heap_alloc_new wr _))) rfl (by intro q hq;simp only [List.mem_cons,List.not_mem_nil,or_false] at hq;rcases hq with rfl;rfl) (by unfold maxLen;omega) (by omega) (Nat.zero_le _) ?_;intro da2 dc2 w4 ha;have HA:=Lib.hid ha;clear ha)
        go_roundw
        case rel =>
          obtain ⟨g1,g2,g3⟩:=grow HO.out HK.out HB.out (by rw [<- HD.out.1];congr 1 <;> omega) HA.out
          exact ⟨i+1,(0+d2+c) / 10,da2,dc2,by omega,by first | rfl | (congr 1 <;> omega),by first | rfl | (congr 1 <;> omega),by go_num,HD.out.2,by have:=HC2.out;omega,g1,g2,g3⟩
        case measure=>simp [intOf];omega
      · obtain rfl:=HZX.out h1
        have i1:¬ (i:Int) < p:=by omega
        obtain rfl:=HZY.out h2
        have i2:¬ (i:Int) < q:=by omega
        have i3:(0:Int) < c:=by omega
        clear HCX HCY HZX HZY
        go_wp2_with (at_builtin;refine wpList_append_src _ (by rfl) _ _ 22 (by rfl) 0 3 j0 _ 1 8 Tryz.underlying22 hj0 hz0 hz1 hz2 rfl (by decide) (.slice da i dc) i (digs 10 (x+y) i) (by rfl) (ownsRow_keeps HO.out ((Keeps.refl NoBlk wr).alloc _) (fun _ _ h=>h)) (.slice (some ⟨wr.heap.size,0,none⟩) 1 1) 1 _ (by rfl) (RowAt.src (RowAt.ofBlock (heap_alloc_new wr _))) rfl (by intro q hq;simp only [List.mem_cons,List.not_mem_nil,or_false] at hq;rcases hq with rfl;rfl) (by unfold maxLen;omega) (by omega) (Nat.zero_le _) ?_;intro da2 dc2 w4 ha;have HA:=Lib.hid ha;clear ha)
        go_roundw
        case rel =>
          obtain ⟨g1,g2,g3⟩:=grow HO.out HK.out HB.out (by rw [<- HD.out.1];congr 1 <;> omega) HA.out
          exact ⟨i+1,(0+0+c) / 10,da2,dc2,by omega,by first | rfl | (congr 1 <;> omega),by first | rfl | (congr 1 <;> omega),by go_num,HD.out.2,by have:=HC2.out;omega,g1,g2,g3⟩
        case measure=>simp [intOf];omega
    · have h1:¬ i < max p q:=fun h=>hlt (hrun.1 (.inl h))
      have h2:¬ 0 < c:=fun h=>hlt (hrun.1 (.inr h))
      have i1:¬ (i:Int) < p:=by omega
      have i2:¬ (i:Int) < q:=by omega
      have hc0:c=0:=by omega
      subst hc0
      clear hrun h1 h2
      obtain rfl:i=N:=by omega
      go_wp2_with fail
      go_ret
      first
        | exact ⟨da,dc,by first | rfl | go_num,DigAt.ofRow HO.out HN.out (fun kb e=>⟨HB.out kb e,ownsRow_lt HO.out e⟩),HK.out⟩
        | exact ⟨da,⟨dc,by first | rfl | go_num⟩,DigAt.ofRow HO.out HN.out (fun kb e=>⟨HB.out kb e,ownsRow_lt HO.out e⟩),HK.out⟩
set_option maxRecDepth 8000 in
set_option maxHeartbeats 1000000 in
theorem rtimes_any (x k:Nat) (w:World) (F:Nat -> Prop) (xa:Option Addr) (xc:Nat) (hx:DigAt w F 10 x xa) (lx:(dig 10 x).length <= 100000000000) (hk:k <= 1000) :
    Calls Tryz.prog 105 #[.slice xa (dig 10 x).length xc, .int .i64 k] w (NewNum 10 (x*k) w):=by
  obtain ⟨j0,hj0,hz0,hz1,hz2⟩:=info_parts infoInt
  by_cases hk0:k=0
  · subst hk0
    unfold NewNum
    rw [Nat.mul_zero,dig_zero]
    generalize (dig 10 x).length=p
    clear hx lx
    go_enter Tryz.func105,Tryz.ntmps105
    go_wp2_with fail
    go_ret
    exact ⟨none,0,rfl,DigAt.zero _ _ _ _,Keeps.refl _ _⟩
  have HX:=Lib.hid hx
  have k0:0 < k:=by omega
  have k0':¬ (k:Int)=0:=by omega
  have k0b:((k:Int)==0)=false:=by simpa using k0'
  obtain ⟨N,hN⟩:∃ N,N=(dig 10 (x*k)).length:=⟨_,rfl⟩
  have HN:=Lib.hid hN
  obtain ⟨p,hp⟩:∃ p,p=(dig 10 x).length:=⟨_,rfl⟩
  have HPQ:Hid (p=(dig 10 x).length):=hp
  have hrun:∀ i,(i < p \/ 0 < x % 10 ^ i*k / 10 ^ i) ↔ i < N:=fun i=>by rw [hp,hN];exact run_times (by decide) x k i k0
  have HRUN:=Lib.hid hrun
  have hNL:N <= p+3:=by
    rcases Nat.lt_or_ge (p+3) N with h | h
    · have hx2:x < 10 ^ p:=Nat.lt_of_not_le fun e=>by have:=(dig_len_lt (by decide) p x).2 e;omega
      have h2:10 ^ (p+3) <= x*k:=(dig_len_lt (by decide) (p+3) (x*k)).1 (by omega)
      rw [Nat.pow_succ,Nat.pow_succ,Nat.pow_succ] at h2
      have h3:x*k <= x*1000:=Nat.mul_le_mul_left x hk
      omega
    · exact h
  unfold NewNum
  rw [<- hN]
  rw [<- hp] at lx ⊢
  have hN9:N <= 100000000003:=by omega
  clear hN hx hp hrun hNL hk0
  go_enter Tryz.func105,Tryz.ntmps105
  go_wp2_with fail
  go_loopw [5,6,7] (fun ov cv iv wr=>∃ (i c:Nat) (da:Option Addr) (dc:Nat),i <= N /\ iv=.int .i64 i /\ cv=.int .i64 c /\ ov=.slice da i dc /\ Hid (c=x % 10 ^ i*k / 10 ^ i) /\ c < 1000 /\ Hid (wr.ownsRow 0 3 1 (.slice da i dc) i (digs 10 (x*k) i)) /\ Hid (Keeps NoBlk w wr) /\ Hid (∀ kb,(Value.slice da i dc).ownBlock=some kb -> w.heap.size <= kb)) (fun _ _ iv _=>N - (intOf iv).toNat)
  case atStart=>exact ⟨0,0,none,0,Nat.zero_le _,rfl,rfl,rfl,by show _=_;simp [Nat.mod_one],by decide,World.ownsRow_nil _ _ _ _,Keeps.refl _ _,fun kb e=>by simp [Value.ownBlock] at e⟩
  case round =>
    obtain ⟨i,c,da,dc,hi,rfl,rfl,rfl,HC,hc2,HO,HK,HB⟩:=hrel
    have hrun:=HRUN.out i
    rw [<- HC.out] at hrun
    by_cases hlt:i < N
    · have hs:=mul_digit (b:=10) (by decide) x k i
      have hcn:=carry_times (b:=10) (by decide) x k (i+1) k0
      have hd1:=digit_lt (b:=10) (by decide) x i
      rw [<- HC.out] at hs
      rw [<- hs.2] at hcn
      obtain ⟨m,hm⟩:∃ m,m=x / 10 ^ i % 10*k:=⟨_,rfl⟩
      have hm2:m <= 10*1000:=by rw [hm];exact Nat.mul_le_mul (by omega) hk
      have HD:Hid ((m+c) % 10=x*k / 10 ^ i % 10 /\ (m+c) / 10=x % 10 ^ (i+1)*k / 10 ^ (i+1)):=by rw [hm];exact hs
      have HC2:Hid ((m+c) / 10 < 1000):=by rw [hm];show _ < _;omega
      have HCX:Hid (i < p -> ∃ g o,xa=some ⟨g,o,none⟩ /\ wr.cell? ⟨g,o+i,none⟩=some (.int .i64 ((x / 10 ^ i % 10:Nat):Int))):=fun h=>by
        obtain ⟨g,o,e,_,c0⟩:=(HX.out.keeps HK.out (fun _ _ h=>h)) i (by have:=HPQ.out;omega)
        exact ⟨g,o,e,c0⟩
      have HZX:Hid (¬ i < p -> m=0):=fun h=>by rw [hm,dig_past (by decide) (by have:=HPQ.out;omega)];simp
      clear hs hcn
      generalize x / 10 ^ i % 10=d1 at hd1 hm HCX
      have hmi:((d1:Int)*(k:Int))=(m:Int):=by rw [hm,Int.natCast_mul]
      have hor:=hrun.2 hlt
      clear hrun hm
      have i0:(0:Int) <= i:=by omega
      rcases (show (i < p) \/ (¬ i < p /\ 0 < c) by omega) with h1 | ⟨h1,h2⟩
      · obtain ⟨g,o,e1,c1⟩:=HCX.out h1
        subst e1
        have i1:(i:Int) < p:=by omega
        clear HCX HZX
        go_wp2_with (at_builtin;refine wpList_append_src _ (by rfl) _ _ 22 (by rfl) 0 3 j0 _ 1 8 Tryz.underlying22 hj0 hz0 hz1 hz2 rfl (by decide) (.slice da i dc) i (digs 10 (x*k) i) (by rfl) (ownsRow_keeps HO.out ((Keeps.refl NoBlk wr).alloc _) (fun _ _ h=>h)) (.slice (some ⟨wr.heap.size,0,none⟩) 1 1) 1 _ (by rfl) (RowAt.src (RowAt.ofBlock (heap_alloc_new wr _))) rfl (by intro q hq;simp only [List.mem_cons,List.not_mem_nil,or_false] at hq;rcases hq with rfl;rfl) (by unfold maxLen;omega) (by omega) (Nat.zero_le _) ?_;intro da2 dc2 w4 ha;have HA:=Lib.hid ha;clear ha)
        go_roundw
        case rel =>
          obtain ⟨g1,g2,g3⟩:=grow HO.out HK.out HB.out (by rw [<- HD.out.1];congr 1 <;> omega) HA.out
          exact ⟨i+1,(m+c) / 10,da2,dc2,by omega,by first | rfl | (congr 1 <;> omega),by first | rfl | (congr 1 <;> omega),by go_num,HD.out.2,by have:=HC2.out;omega,g1,g2,g3⟩
        case measure=>simp [intOf];omega
      · have hm0:=HZX.out h1
        clear hmi
        subst hm0
        have i1:¬ (i:Int) < p:=by omega
        have i3:(0:Int) < c:=by omega
        clear HCX HZX
        go_wp2_with (at_builtin;refine wpList_append_src _ (by rfl) _ _ 22 (by rfl) 0 3 j0 _ 1 8 Tryz.underlying22 hj0 hz0 hz1 hz2 rfl (by decide) (.slice da i dc) i (digs 10 (x*k) i) (by rfl) (ownsRow_keeps HO.out ((Keeps.refl NoBlk wr).alloc _) (fun _ _ h=>h)) (.slice (some ⟨wr.heap.size,0,none⟩) 1 1) 1 _ (by rfl) (RowAt.src (RowAt.ofBlock (heap_alloc_new wr _))) rfl (by intro q hq;simp only [List.mem_cons,List.not_mem_nil,or_false] at hq;rcases hq with rfl;rfl) (by unfold maxLen;omega) (by omega) (Nat.zero_le _) ?_;intro da2 dc2 w4 ha;have HA:=Lib.hid ha;clear ha)
        go_roundw
        case rel =>
          obtain ⟨g1,g2,g3⟩:=grow HO.out HK.out HB.out (by rw [<- HD.out.1];congr 1 <;> omega) HA.out
          exact ⟨i+1,(0+c) / 10,da2,dc2,by omega,by first | rfl | (congr 1 <;> omega),by first | rfl | (congr 1 <;> omega),by go_num,HD.out.2,by have:=HC2.out;omega,g1,g2,g3⟩
        case measure=>simp [intOf];omega
    · have h1:¬ i < p:=fun h=>hlt (hrun.1 (.inl h))
      have h2:¬ 0 < c:=fun h=>hlt (hrun.1 (.inr h))
      have i1:¬ (i:Int) < p:=by omega
      have hc0:c=0:=by omega
      subst hc0
      clear hrun h1 h2
      obtain rfl:i=N:=by omega
      go_wp2_with fail
      go_ret
      first
        | exact ⟨da,dc,by first | rfl | go_num,DigAt.ofRow HO.out HN.out (fun kb e=>⟨HB.out kb e,ownsRow_lt HO.out e⟩),HK.out⟩
        | exact ⟨da,⟨dc,by first | rfl | go_num⟩,DigAt.ofRow HO.out HN.out (fun kb e=>⟨HB.out kb e,ownsRow_lt HO.out e⟩),HK.out⟩
end Go.Proofs.YtnmifekgdkgknaaGreatDoor
namespace Go.Proofs.YtnmifekgdkgknaaGreatDoor
open Go.RowKit
theorem infoByte:(Tryz.prog.info? 5).map (fun i=>(i.zero,i.size,i.bytes))=some (some (.int .u8 0),1,1):=by kernel_rfl
theorem decL_length {n:Nat} (hn:n ≠ 0):(decL n).length=(dig 10 n).length:=by
  unfold decL;rw [if_neg hn,List.length_map,List.length_reverse]
theorem dig_getE {b n m:Nat} (hb:2 <= b) (hm:m < (dig b n).length):(dig b n)[m]=n / b ^ m % b:=by
  have:=dig_get hb m n
  rw [List.getD,List.getElem?_eq_getElem hm] at this
  exact this
theorem decL_at {n m:Nat} (hn:n ≠ 0) (hm:m < (dig 10 n).length) (h:(dig 10 n).length - 1 - m < (decL n).length):(decL n)[(dig 10 n).length - 1 - m]=UInt8.ofNat (48+n / 10 ^ m % 10):=by
  have h2:decL n=((dig 10 n).reverse.map fun d=>UInt8.ofNat (48+d)):=by unfold decL;rw [if_neg hn]
  have key:(decL n)[(dig 10 n).length - 1 - m]?=some (UInt8.ofNat (48+n / 10 ^ m % 10)):=by
    rw [h2,List.getElem?_map,List.getElem?_reverse (by omega),show (dig 10 n).length - 1 - ((dig 10 n).length - 1 - m)=m by omega,List.getElem?_eq_getElem hm,dig_getE (by decide) hm]
    rfl
  rw [List.getElem?_eq_getElem h] at key
  exact Option.some.inj key
set_option maxRecDepth 8000 in
set_option maxHeartbeats 1000000 in
theorem told_any (n:Nat) (w:World) (F:Nat -> Prop) (xa:Option Addr) (xc:Nat) (hx:DigAt w F 10 n xa) (hl:(dig 10 n).length <= 100000000000) :
    Calls Tryz.prog 61 #[.slice xa (dig 10 n).length xc] w fun e w'=>e=.returned (.string ⟨(decL n).toArray⟩) /\ Keeps NoBlk w w':=by
  by_cases hn:n=0
  · subst hn
    rw [dig_zero]
    clear hx hl
    show Calls _ _ #[.slice xa 0 xc] _ _
    go_enter Tryz.func61,Tryz.ntmps61
    go_wp2_with fail
    go_ret
    exact ⟨rfl,Keeps.refl _ _⟩
  obtain ⟨j0,hj0,hz0,hz1,hz2⟩:=info_parts infoByte
  have HX:=Lib.hid hx
  obtain ⟨K,hK⟩:∃ K,K=(dig 10 n).length:=⟨_,rfl⟩
  have HK:=Lib.hid hK
  have hK1:0 < K:=by rw [hK,dig_len_lt (by decide)];simp;omega
  have hK0:¬ (K:Int)=0:=by omega
  have hK0b:((K:Int)==0)=false:=by simpa using hK0
  have HDL:Hid ((decL n).length=K):=by show _=_;rw [decL_length hn,hK]
  have HAT:Hid (∀ m,m < K -> (decL n).take (K - m)=(decL n).take (K - (m+1))++[UInt8.ofNat (48+n / 10 ^ m % 10)]):=fun m hm=>by
    have h1:K - 1 - m < (decL n).length:=by have:=HDL.out;omega
    have h2:=decL_at hn (m:=m) (by omega) (by rw [<- hK];exact h1)
    rw [show K - m=(K - 1 - m)+1 by omega,take_at h1]
    simp only [<- hK] at h2
    rw [h2,show K - (m+1)=K - 1 - m by omega]
  rw [<- hK] at hl ⊢
  clear hx hK hn
  go_enter Tryz.func61,Tryz.ntmps61
  go_wp2_with fail
  go_loopw [3,4] (fun ov iv wr=>∃ (j t:Nat) (z:Int) (da:Option Addr) (dc:Nat),j <= K /\ t=K - j /\ iv=.int .i64 z /\ z=(j:Int) - 1 /\ ov=.slice da t dc /\ Hid (wr.ownsRow 0 5 1 (.slice da t dc) t (Lib.byteCells ((decL n).take t))) /\ Hid (Keeps NoBlk w wr) /\ Hid (∀ kb,(Value.slice da t dc).ownBlock=some kb -> w.heap.size <= kb)) (fun _ iv _=>(intOf iv+1).toNat)
  case atStart=>exact ⟨K,0,_,none,0,Nat.le_refl _,by omega,rfl,rfl,rfl,by show World.ownsRow _ _ _ _ _ _ _;exact World.ownsRow_nil _ _ _ _,Keeps.refl _ _,fun kb e=>by simp [Value.ownBlock] at e⟩
  case round =>
    obtain ⟨j,t,z,da,dc,hj,htj,rfl,hz,rfl,HO,HKW,HB⟩:=hrel
    cases j with
    | zero =>
      obtain rfl:z=-1:=by omega
      obtain rfl:t=K:=by omega
      clear hz htj
      have hO:=HO.out
      rw [show (decL n).take t=decL n by rw [<- HDL.out,List.take_length]] at hO
      obtain ⟨g,c,hv,_,_⟩:=hO.form (by omega)
      have hv2:da=some ⟨g,0,none⟩ /\ dc=c:=by simpa using hv
      obtain ⟨rfl,rfl⟩:=hv2
      have hrow:=RowAt.ofOwns hO
      have hconv:(convert 149 9 (.slice (some ⟨g,0,none⟩) t dc)).run Tryz.prog wr=.ok (.string ⟨(decL n).toArray⟩) wr:=by
        have h:=run_convert_bytes_back (P:=Tryz.prog) wr 149 9 5 ⟨g,0,none⟩ dc (decL n) Tryz.underlying149 Tryz.underlying5 Tryz.underlying9 (fun j hj=>by
          rw [Addr.add_lit,Nat.zero_add]
          refine hrow.cell ?_
          unfold Lib.byteCells
          rw [List.getElem?_map,List.getElem?_eq_getElem hj]
          rfl)
        rw [HDL.out] at h
        exact h
      clear hO hv hrow
      go_wp2_with fail
      go_ret
      exact ⟨rfl,HKW.out⟩
    | succ m =>
      obtain rfl:z=(m:Int):=by omega
      clear hz
      have i0:(0:Int) <= m:=by omega
      have i1:(m:Int) < K:=by omega
      obtain ⟨g,o,e1,hg,c1⟩:=(HX.out.keeps HKW.out (fun _ _ h=>h)) m (by have:=HK.out;omega)
      subst e1
      have hd:=digit_lt (b:=10) (by decide) n m
      have HA1:=Lib.hid (HAT.out m (by omega))
      generalize n / 10 ^ m % 10=d at c1 hd HA1
      have ht9:t+1 <= 100000000000:=by omega
      clear hg
      have hcl:Lib.byteCells ((decL n).take t)++[.int .u8 (48+(d:Int))]=Lib.byteCells ((decL n).take (t+1)):=by
        have h1:=HA1.out
        rw [show K - m=t+1 by omega,show K - (m+1)=t by omega] at h1
        rw [h1]
        simp only [Lib.byteCells,List.map_append,List.map_cons,List.map_nil]
        congr 3
        have h2:(UInt8.ofNat (48+d)).toNat=48+d:=by rw [UInt8.toNat_ofNat'];exact Nat.mod_eq_of_lt (by omega)
        rw [h2]
        omega
      have HCL:=Lib.hid hcl
      have HTJ:=Lib.hid htj
      clear hcl htj
      go_wp2_with (at_builtin;refine wpList_append_src _ (by rfl) _ _ 149 (by rfl) 0 5 j0 _ 1 1 Tryz.underlying149 hj0 hz0 hz1 hz2 rfl (by decide) (.slice da t dc) t (Lib.byteCells ((decL n).take t)) (by rfl) (ownsRow_keeps HO.out ((Keeps.refl NoBlk wr).alloc _) (fun _ _ h=>h)) (.slice (some ⟨wr.heap.size,0,none⟩) 1 1) 1 [.int .u8 (48+(d:Int))] (by rfl) (RowAt.src (RowAt.ofBlock (heap_alloc_new wr _))) rfl (by intro q hq;simp only [List.mem_cons,List.not_mem_nil,or_false] at hq;rcases hq with rfl;rfl) (by unfold maxLen;omega) (by omega) (Nat.zero_le _) ?_;intro da2 dc2 w4 ha;have HA:=Lib.hid ha;clear ha)
      go_roundw
      case rel =>
        refine ⟨m,t+1,_,da2,dc2,by omega,by have:=HTJ.out;omega,rfl,by omega,rfl,?_,?_,?_⟩
        · have h1:=HA.out.1
          rw [HCL.out] at h1
          exact h1
        · exact AppOut.keeps HA.out (HKW.out.alloc _) (fun q e hq=>by have:=HB.out q e;omega)
        · show ∀ kb,_ -> _
          intro kb e
          rcases HA.out.2.2 kb e with h1 | h1
          · exact HB.out kb h1
          · rw [h1];have:=HKW.out.size;simp;omega
      case measure=>(try simp [intOf]) <;> (try omega)
end Go.Proofs.YtnmifekgdkgknaaGreatDoor
