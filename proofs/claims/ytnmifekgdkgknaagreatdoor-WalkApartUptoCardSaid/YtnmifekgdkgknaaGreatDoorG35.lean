/- Layer G: texts joined. -/
import Derived.Test.YtnmifekgdkgknaaGreatDoorG34
set_option linter.unusedVariables false
set_option linter.unusedSimpArgs false
set_option linter.unnecessarySimpa false
namespace Go.Proofs.YtnmifekgdkgknaaGreatDoor
open Go.RowKit
section
variable {w:World} {b gt nm ct:Nat}
set_option maxHeartbeats 1000000 in
theorem ref_low (i:Int) (hi:i < 0):Calls Tryz.prog 54 #[.pointer (some ⟨b,0,none⟩), .int .i64 i] w fun e w'=>e=.returned (.int .i64 2) /\ Keeps NoBlk w w':=by
 have e1:decide (i < 0)=true:=decide_eq_true hi;go_enter Tryz.func54,Tryz.ntmps54
 go_wp2_with fail
 go_ret
 exact ⟨rfl,Keeps.refl _ _⟩
set_option maxHeartbeats 1000000 in
theorem ref_high (i:Int) (hi:0 <= i) (hn:(nm:Int) <= i) (k5:w.cell? ⟨b,5,none⟩=some (.slice (some ⟨gt,0,none⟩) nm ct)) :
 Calls Tryz.prog 54 #[.pointer (some ⟨b,0,none⟩), .int .i64 i] w fun e w'=>e=.returned (.int .i64 2) /\ Keeps NoBlk w w':=by
 have e1:decide (i < 0)=false:=decide_eq_false (by omega);go_enter Tryz.func54,Tryz.ntmps54
 go_wp2_with fail
 go_ret
 exact ⟨rfl,Keeps.refl _ _⟩
set_option maxHeartbeats 1000000 in
theorem ref_state (i:Nat) (st:Int) (hst:st=1 \/ st=3 \/ st=4) (hi:i < nm) (k5:w.cell? ⟨b,5,none⟩=some (.slice (some ⟨gt,0,none⟩) nm ct)) (t0:w.cell? ⟨gt,i*3,none⟩=some (.int .i64 st)) :
 Calls Tryz.prog 54 #[.pointer (some ⟨b,0,none⟩), .int .i64 i] w fun e w'=>e=.returned (.int .i64 (if st=1 then 80 else if st=3 then 81 else 82)) /\ Keeps NoBlk w w':=by
 have i0:(0:Int) <= i:=by omega
 have e1:decide ((i:Int) < 0)=false:=decide_eq_false (by omega);have i2:(i:Int) < nm:=by omega
 rcases hst with rfl | rfl | rfl
 all_goals (
  go_enter Tryz.func54,Tryz.ntmps54
  go_wp2_with fail
  go_ret
  exact ⟨rfl,Keeps.refl _ _⟩)
set_option maxHeartbeats 1000000 in
theorem ref_run (i:Nat) (a:Bool) (hi:i < nm) (k5:w.cell? ⟨b,5,none⟩=some (.slice (some ⟨gt,0,none⟩) nm ct)) (t0:w.cell? ⟨gt,i*3,none⟩=some (.int .i64 2))
 (HA:Ret w 62 #[.pointer (some ⟨b,0,none⟩), .int .i64 i] (.bool a)) :
 Calls Tryz.prog 54 #[.pointer (some ⟨b,0,none⟩), .int .i64 i] w fun e w'=>e=.returned (.int .i64 (if a=true then 0 else 83)) /\ Keeps NoBlk w w':=by
 have i0:(0:Int) <= i:=by omega
 have e1:decide ((i:Int) < 0)=false:=decide_eq_false (by omega);have i2:(i:Int) < nm:=by omega
 have k0:=keep0 w;cases a
 all_goals (
  go_enter Tryz.func54,Tryz.ntmps54
  go_wp2_with (go_at_call 62;refine HA.call k0 ?_;intro w1 K1 k1;have HK1:=Lib.hid K1;clear K1)
  go_ret
  exact ⟨rfl,HK1.out⟩)
end
section
variable {w:World} {T:WTags} {F:Nat -> Prop} {id b:Nat} {u:Un} {p:MPar} {m:WMa} {H:List HTh}
theorem refused_any (h:MaP PlaceR 1 106 BdsC w T F id b u p m H) (hm:m.ok u) (i:Int) :
 Calls Tryz.prog 54 #[.pointer (some ⟨b,0,none⟩), .int .i64 i] w fun e w'=>e=.returned (.int .i64 (refM m i)) /\ Keeps NoBlk w w':=by
 have k5:=h.row5 w (keep0 w);by_cases hlo:i < 0
 ·have e:refM m i=2:=by unfold refM;rw [if_pos (.inl hlo)]
  rw [e];exact ref_low i hlo
 ·by_cases hhi:(m.ths.length:Int) <= i
  ·have e:refM m i=2:=by unfold refM;rw [if_pos (.inr hhi)]
   rw [e];exact ref_high i (by omega) hhi k5
  ·obtain ⟨k,rfl⟩:∃ k:Nat,i=k:=⟨i.toNat,by omega⟩
   have hk:k < m.ths.length:=by omega
   have t0:=h.st hk w (keep0 w);obtain ⟨bd,hbd,hok,_⟩:=hm.th hk;by_cases h2:(m.get k).st=2
   ·have HA:Ret w 62 #[.pointer (some ⟨b,0,none⟩), .int .i64 k] (.bool (ableM m k)):=fun W hq=>able_any (MaP.keeps0 placeOk bdsCOk h hq) hm hk
    rw [h2] at t0;have:=ref_run k (ableM m k) hk k5 t0 HA
    have e:refM m k=if ableM m k=true then 0 else 83:=by
     unfold refM;rw [if_neg (by omega)];simp only [Int.toNat_natCast,h2];rfl
    rw [e];exact this
   ·have hst:(m.get k).st=1 \/ (m.get k).st=3 \/ (m.get k).st=4:=by rcases hok.1 with e | e | e | e <;> omega
    have:=ref_state k _ hst hk k5 t0
    have e:refM m k=if (m.get k).st=1 then 80 else if (m.get k).st=3 then 81 else 82:=by
     unfold refM;rw [if_neg (by omega)];simp only [Int.toNat_natCast];rcases hst with e | e | e <;> rw [e] <;> rfl
    rw [e];exact this
end
def NewInts (w:World) (xs:List Int) (e:Ending) (w':World):Prop :=
 ∃ v,e=.returned v /\ w'.ownsRow 0 3 1 v xs.length (ints xs) /\ Keeps NoBlk w w' /\ ∀ kb,v.ownBlock=some kb -> w.heap.size <= kb
def enK (m:WMa) (k:Nat):List Int:=((List.range k).filter (ableM m)).map fun (i:Nat)=>(i:Int)
theorem enK_next (m:WMa) (k:Nat):enK m (k+1)=if ableM m k=true then enK m k++[(k:Int)] else enK m k:=by
 unfold enK;rw [List.range_succ,List.filter_append,List.map_append];by_cases h:ableM m k=true
 ·simp [h]
 ·simp [h]
theorem enK_len (m:WMa) (k:Nat):(enK m k).length <= k:=by
 unfold enK;rw [List.length_map];exact Nat.le_trans (List.length_filter_le _ _) (by simp)
theorem enK_all (m:WMa):enK m m.ths.length=enabM m:=rfl
set_option maxRecDepth 8000 in
set_option maxHeartbeats 4000000 in
theorem wenabled_raw (w:World) (b gt nm ct:Nat) (m:WMa) (h8:nm <= 8) (k5:∀ W,Keeps NoBlk w W -> W.cell? ⟨b,5,none⟩=some (.slice (some ⟨gt,0,none⟩) nm ct))
 (HA:∀ i,i < nm -> Ret w 62 #[.pointer (some ⟨b,0,none⟩), .int .i64 i] (.bool (ableM m i))) :
 Calls Tryz.prog 22 #[.pointer (some ⟨b,0,none⟩)] w (NewInts w (enK m nm)):=by
 obtain ⟨i0,hi0,hz0,hz1,hz2⟩:=info_parts infoInt;have n1:(0:Int) <= nm:=by omega
 have HAA:Hid (∀ i,i < nm -> Ret w 62 #[.pointer (some ⟨b,0,none⟩), .int .i64 i] (.bool (ableM m i))):=HA;have k0:=keep0 w;clear HA;go_enter Tryz.func22,Tryz.ntmps22
 go_wp2_with fail
 go_loopw [3,10] (fun v i wr=>∃ k mm adv capv,k <= nm /\ i=.int .i64 (k:Nat) /\ v=.slice adv mm capv /\ Hid (mm=(enK m k).length /\ wr.ownsRow 0 3 1 (.slice adv mm capv) mm (ints (enK m k))) /\ Hid (Keeps NoBlk w wr) /\ Hid (∀ kb,(Value.slice adv mm capv).ownBlock=some kb -> w.heap.size <= kb)) (fun _ i _=>nm - (intOf i).toNat)
 case atStart=>exact ⟨0,0,none,0,Nat.zero_le _,rfl,rfl,⟨rfl,World.ownsRow_nil _ _ _ _⟩,Keeps.refl _ _,fun kb e=>by simp [Value.ownBlock] at e⟩
 case round =>
  obtain ⟨k,mm,adv,capv,hk,rfl,rfl,hown,hb,hq⟩:=hrel;have k5r:=k5 wr hb.out;by_cases hlt:k < nm
  ·have i1:(0:Int) <= k:=by omega
   have i2:(k:Int) < (nm:Int):=by omega
   have hm:Hid (mm <= 8):=by
    have h1:=enK_len m k;have h2:=hown.out.1;show mm <= 8
    omega
   have HP:=Lib.hid (enK_next m k);have HR:=HAA.out k hlt;generalize hr:ableM m k=r at HP HR;clear hr;cases r
   ·have HQ:Hid (mm=(enK m (k+1)).length /\ wr.ownsRow 0 3 1 (.slice adv mm capv) mm (ints (enK m (k+1)))):=by rw [HP.out];exact hown.out
    clear HP hown;go_wp2_with (go_at_call 62;refine HR.call hb.out ?_;intro w1 g0 g1;have G0:=Lib.hid g0;have G1:=Lib.hid g1;clear g0 g1)
    go_roundw
    case rel=>exact ⟨k+1,mm,adv,capv,by omega,by go_num,rfl,⟨HQ.out.1,ownsRow_keeps HQ.out.2 G1.out (fun _ _ h=>h)⟩,G0.out,hq.out⟩
    case measure=>simp [intOf];omega
   ·have HQ:Hid (enK m (k+1)=enK m k++[(k:Int)]):=by rw [HP.out];exact rfl
    clear HP;go_wp2_with (first | (go_at_call 62;refine HR.call hb.out ?_;intro w1 g0 g1;have G0:=Lib.hid g0;have G1:=Lib.hid g1;have hs1:wr.heap.size <= w1.heap.size:=g1.size;have ho1:Hid (w1.ownsRow 0 3 1 (.slice adv mm capv) mm (ints (enK m k))):=(by exact ownsRow_keeps hown.out.2 g1 (fun _ _ h=>h));clear g0 g1) | (at_builtin;refine wpList_append_lies _ (by rfl) _ _ 22 (by rfl) 0 3 i0 _ 1 8 Tryz.underlying22 hi0 hz0 hz1 hz2 rfl (by decide) (.slice adv mm capv) mm _ (by rfl) (by exact ho1.out.alloc _) ⟨w1.heap.size,0,none⟩ 1 1 [.int .i64 k] (by rfl) (by rfl) (World.news_of_block (cs:=#[.int .i64 k]) (t:=3) (fr:=(0,0)) (heap_alloc_new w1 _)) (by simp [Value.oneCell']) (by decide) (by have:=hm.out;unfold maxLen;omega) (by have:=hm.out;omega) (Nat.zero_le _) (w1.heap.size+1) (by simp) ?_;intro gg cm' w6 hown6 hgr6 hat6 hlt6;have hB6:Hid (Keeps NoBlk w w6):=(by exact ((G0.out.alloc _).grown hgr6 (fun kb e hlt=>absurd (hq.out kb e) (by omega))));have hO6:Hid (mm+1=(enK m (k+1)).length /\ w6.ownsRow 0 3 1 (.slice (some ⟨gg,0,none⟩) (mm+1) cm') (mm+1) (ints (enK m (k+1)))):=(by rw [HQ.out];refine ⟨by rw [List.length_append,hown.out.1];rfl,?_⟩;unfold ints;rw [List.map_append];exact hown6);have hG6:Hid (∀ kb,(Value.slice (some ⟨gg,0,none⟩) (mm+1) cm').ownBlock=some kb -> w.heap.size <= kb):=(by intro kb e;simp [Value.ownBlock] at e;subst e;rcases hat6 with h | h;exact hq.out _ h;have:=hb.out.size;omega);clear hown6 hgr6 hat6 hlt6))
    go_roundw
    case rel=>exact ⟨k+1,mm+1,_,_,by omega,by go_num,rfl,hO6,hB6,hG6⟩
    case measure=>simp [intOf];omega
  ·have hkn:k=nm:=by omega
   subst hkn;clear hlt;go_wp2_with fail
   go_ret
   obtain ⟨e,ho⟩:=hown.out;subst e;exact ⟨_,rfl,ho,hb.out,hq.out⟩
set_option maxHeartbeats 1000000 in
theorem wover_raw {w:World} {b:Nat} {xs:List Int} (HE:Hid (Calls Tryz.prog 22 #[.pointer (some ⟨b,0,none⟩)] w (NewInts w xs))) :
 Calls Tryz.prog 23 #[.pointer (some ⟨b,0,none⟩)] w fun e w'=>e=.returned (.bool (decide (xs.length=0))) /\ Keeps NoBlk w w':=by
 go_enter Tryz.func23,Tryz.ntmps23
 go_wp2_with (go_at_call 22;refine HE.out.mono ?_;rintro e w1 ⟨v,rfl,g1,g2,g3⟩;obtain ⟨ad,cap,ev⟩:∃ ad cap,v=.slice ad xs.length cap:=(by rcases g1.2 with ⟨e1,e2⟩ | ⟨g,cap,cur,e1,_⟩;exact ⟨none,0,(by rw [e1,e2])⟩;exact ⟨_,_,e1⟩);subst ev;have G2:=Lib.hid g2;clear g1 g2 g3)
 go_ret
 refine ⟨?_,G2.out⟩
 have e:((xs.length:Int)==0)=decide (xs.length=0):=by
  by_cases h:xs.length=0
  ·rw [h];rfl
  ·rw [decide_eq_false h,beq_eq_false_iff_ne];omega
 simp only [go_sem];rw [e];rfl
section
variable {w:World} {T:WTags} {F:Nat -> Prop} {id b:Nat} {u:Un} {p:MPar} {m:WMa} {H:List HTh}
theorem enabled_any (h:MaP PlaceR 1 106 BdsC w T F id b u p m H) (hr:rightU u=true) (hm:m.ok u):Calls Tryz.prog 22 #[.pointer (some ⟨b,0,none⟩)] w (NewInts w (enabM m)):=by
 have h8:m.ths.length <= 8:=by rw [hm.ths];exact (rightU_all hr).2.1
 exact wenabled_raw w b p.gt m.ths.length p.ct m h8 h.row5 (fun i hi W hq=>able_any (MaP.keeps0 placeOk bdsCOk h hq) hm hi)
theorem over_any (h:MaP PlaceR 1 106 BdsC w T F id b u p m H) (hr:rightU u=true) (hm:m.ok u):Calls Tryz.prog 23 #[.pointer (some ⟨b,0,none⟩)] w fun e w'=>e=.returned (.bool (decide ((enabM m).length=0))) /\ Keeps NoBlk w w' :=
 wover_raw (Lib.hid (enabled_any h hr hm))
end
end Go.Proofs.YtnmifekgdkgknaaGreatDoor
