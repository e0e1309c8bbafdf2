/- Layer G: texts joined. -/
import Derived.Test.YtnmifekgdkgknaaGreatDoorG24
import Derived.Test.YtnmifekgdkgknaaGreatDoorG19
import Derived.Test.YtnmifekgdkgknaaGreatDoorG37
import Derived.Laws.IdiomStrings
import Derived.Lib.UnsafeStr
import Derived.Test.YtnmifekgdkgknaaGreatDoorG02
import Derived.Test.YtnmifekgdkgknaaGreatDoorG42
import Derived.Test.YtnmifekgdkgknaaGreatDoorG44
set_option linter.unusedVariables false
set_option linter.unusedSimpArgs false
set_option linter.unnecessarySimpa false
namespace Go.Proofs.YtnmifekgdkgknaaGreatDoor
open Go.RowKit
def withinU (b:Bool) (s m:Nat):Int:=if b then (if 60 < s then 70 else if 10000 < m then 71 else 0) else 1
theorem right_len {u:Un} (h:rightU u=true):u.threads.length <= 8:=by
 rcases Nat.lt_or_ge 8 u.threads.length with h1 | h1
 ·rw [right_no1 (fun hh=>by have:=hh.2.1;omega)] at h;cases h
 ·exact h1
theorem run_field0 (a b:Option Addr) (l1 c1 l2 c2:Nat) (w:World):(Instr.field 132 (.agg #[.slice a l1 c1, .slice b l2 c2]) 0).run Tryz.prog w=.ok (.slice a l1 c1) w:=by
 simp [Instr.field,asAgg,go_sem,underlying,Tryz.underlying132]
theorem run_field1 (a b:Option Addr) (l1 c1 l2 c2:Nat) (w:World):(Instr.field 132 (.agg #[.slice a l1 c1, .slice b l2 c2]) 1).run Tryz.prog w=.ok (.slice b l2 c2) w:=by
 simp [Instr.field,asAgg,go_sem,underlying,Tryz.underlying132]
set_option maxRecDepth 8000 in
set_option maxHeartbeats 4000000 in
theorem boundWithin_any (cs:List Int) (mu:Int) (bs:List Bd) (w:World) (F:Nat -> Prop) (uca uta:Option Addr) (ucc utc:Nat) (hcs:NumsAt w F cs uca) (hbd:BdsAt w F bs uta) (hF:∀ k,F k -> k < w.heap.size) (hkd:∀ b,b ∈ bs -> Ac.kindsL b.acts) (hsz:bsSz bs < 900000000) (hl1:cs.length < 1000000000) (hl2:bs.length < 1000000000) :
 Calls Tryz.prog 40 #[.agg #[.slice uca cs.length ucc, .int .i64 mu, .slice uta bs.length utc]] w fun e w'=>e=.returned (.int .i64 (withinU (rightU ⟨cs,mu,bs⟩) (unS bs) (unW bs))) /\ Keeps NoBlk w w':=by
 obtain ⟨v,hv⟩:∃ v,v=withinU (rightU ⟨cs,mu,bs⟩) (unS bs) (unW bs):=⟨_,rfl⟩
 rw [<- hv];obtain ⟨r,hr⟩:∃ r,r=rightU ⟨cs,mu,bs⟩:=⟨_,rfl⟩
 have HR:=Lib.hid hr;rw [<- hr] at hv;have HV:=Lib.hid hv;clear hv;have HRT:Hid (∀ W,Keeps NoBlk w W -> Calls Tryz.prog 76 #[.agg #[.slice uca cs.length ucc, .int .i64 mu, .slice uta bs.length utc]] W fun e w'=>e=.returned (.bool r) /\ Keeps NoBlk W w'):=fun W hk=>hr ▸ checkRight_any cs mu bs W F uca uta ucc utc (hcs.keeps hk (fun _ _ h=>h)) (hbd.keeps hk (fun _ _ h=>h)) (fun k h=>Nat.lt_of_lt_of_le (hF k h) hk.size) hkd hsz hl1 hl2
 have HBO:Hid (r=true -> ∀ W,Keeps NoBlk w W -> Calls Tryz.prog 77 #[.agg #[.slice uca cs.length ucc, .int .i64 mu, .slice uta bs.length utc]] W fun e w'=>∃ z1 z2,e=.returned (.agg #[z1,z2]) /\ NumV w' (fun _=>True) 1000000000 (unS bs) z1 /\ NumV w' (fun _=>True) 1000000000 (unW bs) z2 /\ Keeps NoBlk W w'):=fun hr1 W hk=>whole_any cs mu bs W F uca uta ucc utc (hbd.keeps hk (fun _ _ h=>h)) (fun k h=>Nat.lt_of_lt_of_le (hF k h) hk.size) (bsOk_right (u:=⟨cs,mu,bs⟩) (hr.symm.trans hr1)) hsz hl2
 have HDL:Hid (r=true -> ∀ m,m <= unW bs+1 -> (dig 1000000000 m).length <= 10000000000):=fun hr1 m hm=>Nat.le_trans (un_dlen8 (by decide) (bsOk_right (u:=⟨cs,mu,bs⟩) (hr.symm.trans hr1)) hsz (right_len (u:=⟨cs,mu,bs⟩) (hr.symm.trans hr1)) hm) (by decide)
 have HSW:Hid (unS bs <= unW bs):=unS_le bs;clear hcs hbd hF hsz hl1 hl2 hr hkd;go_enter Tryz.func40,Tryz.ntmps40
 go_upto_region 1 with fail
 obtain ⟨b1,hb1⟩:∃ z,z=w.heap.size:=⟨_,rfl⟩
 have hr1:RowAt (w.alloc (.cells #[.slice uca cs.length ucc, .int .i64 mu, .slice uta bs.length utc] 25)) b1 [.slice uca cs.length ucc, .int .i64 mu, .slice uta bs.length utc]:=by rw [hb1];exact RowAt.ofBlock (heap_alloc_new w _)
 have hk1:Keeps NoBlk w (w.alloc (.cells #[.slice uca cs.length ucc, .int .i64 mu, .slice uta bs.length utc] 25)):=(Keeps.refl _ _).alloc _;rw [<- hb1];generalize w.alloc (.cells #[.slice uca cs.length ucc, .int .i64 mu, .slice uta bs.length utc] 25)=w1 at hr1 hk1 ⊢;have R1:=Lib.hid hr1;have K1:=Lib.hid hk1;obtain ⟨y0,y1,y2⟩:=hr1.three;clear hr1 hk1 hb1;generalize cs.length=n0 at y0 R1 HRT HBO;generalize bs.length=n2 at y2 R1 HRT HBO;clear HR;cases r
 ·go_wp2_with (go_at_call 76;refine (HRT.out _ K1.out).mono ?_;rintro e w2 ⟨rfl,g2⟩;have c:=(R1.out.keeps g2 (fun h=>h)).three;clear y0 y1 y2;obtain ⟨y0,y1,y2⟩:=c;have K2:Hid (Keeps NoBlk w w2):=K1.out.trans0 g2;clear g2)
  go_ret
  exact ⟨by rw [HV.out];rfl,K2.out⟩
 ·have HBO2:=Lib.hid (HBO.out rfl)
  have HDL2:=Lib.hid (HDL.out rfl);clear HBO HDL;go_upto_region 3 with (go_at_call 76;refine (HRT.out _ K1.out).mono ?_;rintro e w2 ⟨rfl,g2⟩;have c:=(R1.out.keeps g2 (fun h=>h)).three;clear y0 y1 y2;obtain ⟨y0,y1,y2⟩:=c;have K2:Hid (Keeps NoBlk w w2):=K1.out.trans0 g2;clear g2)
  obtain ⟨a,ha⟩:∃ a,a=decide (60 < unS bs):=⟨_,rfl⟩
  obtain ⟨b,hb⟩:∃ b,b=decide (10000 < unW bs):=⟨_,rfl⟩
  have HVV:Hid (v=if a then 70 else (if b then 71 else 0)):=by
   show _=_
   rw [HV.out,ha,hb];unfold withinU;by_cases h1:60 < unS bs
   ·simp [h1]
   ·by_cases h2:10000 < unW bs
    ·simp [h1,h2]
    ·simp [h1,h2]
  have HAB:=Lib.hid (fun (W:World) (k:Nat) (v u:Value) (F:Nat -> Prop) (hk:k <= unW bs) (h1:NumV W F 1000000000 k v) (h2:NumV W F 1000000000 60 u)=>aboveV h1 h2 (by have:=HDL2.out k (by omega);omega) (by have h:=dig_le (b:=1000000000) (n:=60) (i:=1) (by decide) (by decide);omega));have HAC:=Lib.hid (fun (W:World) (k:Nat) (v u:Value) (F:Nat -> Prop) (hk:k <= unW bs) (h1:NumV W F 1000000000 k v) (h2:NumV W F 1000000000 10000 u)=>aboveV h1 h2 (by have:=HDL2.out k (by omega);omega) (by have h:=dig_le (b:=1000000000) (n:=10000) (i:=1) (by decide) (by decide);omega));have HA:=Lib.hid ha;have HB:=Lib.hid hb;clear ha hb HV HDL2;go_upto_region 4 with (go_at_call 77;refine (HBO2.out _ K2.out).mono ?_;rintro e w3 ⟨z1,z2,rfl,n1,n2,g3⟩;have N1:=Lib.hid n1;have N2:=Lib.hid n2;obtain ⟨p1,r1,rfl,_⟩:=n1;generalize (dig 1000000000 (unS bs)).length=q1 at N1 ⊢;obtain ⟨p2,r2,rfl,_⟩:=n2;generalize (dig 1000000000 (unW bs)).length=q2 at N2 ⊢;have K3:Hid (Keeps NoBlk w w3):=K2.out.trans0 g3;have hfl:=run_field0 p1 p2 q1 r1 q2 r2 w3;have hfm:=run_field1 p1 p2 q1 r1 q2 r2 w3;clear g3)
  obtain ⟨b3,hb3⟩:∃ z,z=w3.heap.size:=⟨_,rfl⟩
  have hr3:RowAt (w3.alloc (.cells #[.slice p1 q1 r1, .slice p2 q2 r2] 132)) b3 [.slice p1 q1 r1, .slice p2 q2 r2]:=by rw [hb3];exact RowAt.ofBlock (heap_alloc_new w3 _)
  have hk3:Keeps NoBlk w3 (w3.alloc (.cells #[.slice p1 q1 r1, .slice p2 q2 r2] 132)):=(Keeps.refl _ _).alloc _;rw [<- hb3];generalize w3.alloc (.cells #[.slice p1 q1 r1, .slice p2 q2 r2] 132)=w4 at hr3 hk3 ⊢;have R3:=Lib.hid hr3;have K4:Hid (Keeps NoBlk w w4):=K3.out.trans0 hk3;have N14:=Lib.hid (N1.out.keeps0 hk3);have N24:=Lib.hid (N2.out.keeps0 hk3);clear hr3 hk3 hb3 N1 N2 K3 y0 y1 y2 HRT HBO2
  refine wp_region_table 4 (by kernel_rfl) (by kernel_rfl) (Keeps NoBlk) (Keeps.refl NoBlk) (fun a b c h h'=>Keeps.trans0 h h') (TabV [some (.pointer (some ⟨b3,0,none⟩)),some (.slice p1 q1 r1)] (fun j v W=>match j with
   | 2=>NumV W (fun _=>True) 1000000000 60 v
   | _=>v=.bool (decide (60 < unS bs)))) (TabV.st (fun j v W W' h hk=>by
     revert h
     split
     ·exact fun h=>h.keeps0 hk
     ·exact fun h=>h)) ?_ ?_
  ·intro q oo hq ho vs W Q' hR0 hd hK
   have hR:Keeps NoBlk w4 W:=((Keeps.refl NoBlk w4).drew).trans0 hR0;obtain ⟨y0,y1⟩:=(R3.out.keeps (hR) (fun h=>h)).two;have NW:=Lib.hid (N14.out.keeps0 hR);clear hR hR0;rcases (show q=0 \/ q=1 \/ q=2 \/ q=3 by omega) with rfl | rfl | rfl | rfl
   all_goals (simp only [List.getElem?_cons_zero,List.getElem?_cons_succ,Option.some.injEq] at ho;subst ho;simp only [putsTo,List.getElem?_cons_zero,List.getElem?_cons_succ,Option.bind_some,Option.bind,Act.put,List.setIfInBounds_toArray,List.set_cons_zero,List.set_cons_succ] at hK ⊢;clear hq)
   ·clear hd
    go_wp2_with fail
    exact hK _ _ (Keeps.refl _ _) rfl
   ·have e0:vs 0=_:=hd 0 (by kernel_rfl)
    rw [e0] at hK ⊢;clear hd;go_wp2_with fail
    exact hK _ _ (Keeps.refl _ _) rfl
   ·clear hd
    go_wp2_with (go_at_call 79;refine (smallV 60 (by decide) _).mono ?_;rintro e W1 ⟨z,rfl,n1,g1⟩)
    exact hK _ _ g1 (n1.mono (fun _ _=>trivial))
   ·have e1:vs 1=_:=hd 1 (by kernel_rfl)
    obtain ⟨z2,e2,h2⟩:∃ z,vs 2=z /\ NumV W (fun _=>True) 1000000000 60 z:=⟨_,rfl,hd 2 (by kernel_rfl)⟩
    have H2:=Lib.hid h2;rw [e1,e2] at hK ⊢;clear h2;clear hd;go_wp2_with (go_at_call 78;refine (HAB.out W _ _ _ (fun _=>True) (by have:=HSW.out;omega) NW.out H2.out).mono ?_;rintro e W1 ⟨rfl,rfl⟩)
    exact hK _ _ (Keeps.refl _ _) rfl
  ·intro vs W4 hR0 hF
   have hR:Keeps NoBlk w4 W4:=((Keeps.refl NoBlk w4).drew).trans0 hR0;have K4':Hid (Keeps NoBlk w W4):=K4.out.trans0 hR;have e3:vs 3=_:=(hF 3 (by decide):vs 3=.bool (decide (60 < unS bs)));simp only [putsTo,List.getElem?_cons_zero,List.getElem?_cons_succ,Option.bind_some,Option.bind,Act.put,List.setIfInBounds_toArray,List.set_cons_zero,List.set_cons_succ,List.drop_succ_cons,List.drop_zero];rw [e3];clear hF e3;generalize vs 0=y0;generalize vs 1=y1;generalize vs 2=y2;rw [<- HA.out];have R34:=Lib.hid (R3.out.keeps hR (fun h=>h));have N25:=Lib.hid (N24.out.keeps0 hR);clear hR hR0 HA N14 N24 HAB R3;cases a
   ·go_upto_region 6 with fail
    refine wp_region_table 4 (by kernel_rfl) (by kernel_rfl) (Keeps NoBlk) (Keeps.refl NoBlk) (fun a b c h h'=>Keeps.trans0 h h') (TabV [some (.pointer (some ⟨b3,1,none⟩)),some (.slice p2 q2 r2)] (fun j v W=>match j with
     | 2=>NumV W (fun _=>True) 1000000000 10000 v
     | _=>v=.bool (decide (10000 < unW bs)))) (TabV.st (fun j v W W' h hk=>by
       revert h
       split
       ·exact fun h=>h.keeps0 hk
       ·exact fun h=>h)) ?_ ?_
    ·intro q oo hq ho vs W Q' hR0 hd hK
     have hR:Keeps NoBlk W4 W:=((Keeps.refl NoBlk W4).drew).trans0 hR0;obtain ⟨y0,y1⟩:=(R34.out.keeps (hR) (fun h=>h)).two;have NW:=Lib.hid (N25.out.keeps0 hR);clear hR hR0;rcases (show q=0 \/ q=1 \/ q=2 \/ q=3 by omega) with rfl | rfl | rfl | rfl
     all_goals (simp only [List.getElem?_cons_zero,List.getElem?_cons_succ,Option.some.injEq] at ho;subst ho;simp only [putsTo,List.getElem?_cons_zero,List.getElem?_cons_succ,Option.bind_some,Option.bind,Act.put,List.setIfInBounds_toArray,List.set_cons_zero,List.set_cons_succ] at hK ⊢;clear hq)
     ·clear hd
      go_wp2_with fail
      exact hK _ _ (Keeps.refl _ _) rfl
     ·have e0:vs 0=_:=hd 0 (by kernel_rfl)
      rw [e0] at hK ⊢;clear hd;go_wp2_with fail
      exact hK _ _ (Keeps.refl _ _) rfl
     ·clear hd
      go_wp2_with (go_at_call 79;refine (smallV 10000 (by decide) _).mono ?_;rintro e W1 ⟨z,rfl,n1,g1⟩)
      exact hK _ _ g1 (n1.mono (fun _ _=>trivial))
     ·have e1:vs 1=_:=hd 1 (by kernel_rfl)
      obtain ⟨z2,e2,h2⟩:∃ z,vs 2=z /\ NumV W (fun _=>True) 1000000000 10000 z:=⟨_,rfl,hd 2 (by kernel_rfl)⟩
      have H2:=Lib.hid h2;rw [e1,e2] at hK ⊢;clear h2;clear hd;go_wp2_with (go_at_call 78;refine (HAC.out W _ _ _ (fun _=>True) (Nat.le_refl _) NW.out H2.out).mono ?_;rintro e W1 ⟨rfl,rfl⟩)
      exact hK _ _ (Keeps.refl _ _) rfl
    ·intro vs W6 hR0 hF
     have hR:Keeps NoBlk W4 W6:=((Keeps.refl NoBlk W4).drew).trans0 hR0;have K6':Hid (Keeps NoBlk w W6):=K4'.out.trans0 hR;have e3:vs 3=_:=(hF 3 (by decide):vs 3=.bool (decide (10000 < unW bs)));simp only [putsTo,List.getElem?_cons_zero,List.getElem?_cons_succ,Option.bind_some,Option.bind,Act.put,List.setIfInBounds_toArray,List.set_cons_zero,List.set_cons_succ,List.drop_succ_cons,List.drop_zero];rw [e3];clear hF e3;generalize vs 0=y0;generalize vs 1=y1;generalize vs 2=y2;rw [<- HB.out];clear hR hR0 HB;cases b
     ·go_wp2_with fail
      go_ret
      exact ⟨by rw [HVV.out];rfl,K6'.out⟩
     ·go_wp2_with fail
      go_ret
      exact ⟨by rw [HVV.out];rfl,K6'.out⟩
   ·go_wp2_with fail
    go_ret
    exact ⟨by rw [HVV.out];rfl,K4'.out⟩
end Go.Proofs.YtnmifekgdkgknaaGreatDoor
