/- Layer R: texts joined. -/
import Derived.Test.YtnmifekgdkgknaaGreatDoorR44
import Derived.Test.YtnmifekgdkgknaaGreatDoorR28
import Derived.Test.YtnmifekgdkgknaaGreatDoorR40
import Derived.Test.YtnmifekgdkgknaaGreatDoorR42
set_option linter.unusedVariables false
set_option linter.unusedSimpArgs false
set_option linter.unnecessarySimpa false
namespace Go.Proofs.YtnmifekgdkgknaaGreatDoor
open Go.RowKit
set_option maxRecDepth 8000 in
set_option maxHeartbeats 2000000 in
theorem both_any (cs:List Int) (mu:Int) (bs:List Bd) (w:World) (F:Nat -> Prop) (uca uta:Option Addr) (ucc utc:Nat) (hbd:BdsAt w F bs uta) (hok:bsOk bs) (hsz:bsSz bs < 900000000) (hl2:bs.length < 1000000000) :
 Calls Tryz.prog 60 #[.agg #[.slice uca cs.length ucc, .int .i64 mu, .slice uta bs.length utc]] w fun e w'=>∃ z1 z2,e=.returned (.tuple #[z1,z2]) /\ NumV w' (fun _=>True) 10 (unS bs) z1 /\ NumV w' (fun _=>True) 10 (unW bs) z2 /\ Keeps NoBlk w w':=by
 have HBD:=Lib.hid hbd;have HOK:=Lib.hid hok;have HSZ:=Lib.hid hsz;have HLL:Hid (∀ m,m <= unW bs+1 -> (dig 10 m).length <= 12000000000):=fun m hm=>un_dlen (by decide) hok hsz hl2 hm
 clear hbd hok hsz;go_enter Tryz.func60,Tryz.ntmps60
 go_upto_region 1 with fail
 obtain ⟨b1,hb1⟩:∃ z,z=w.heap.size:=⟨_,rfl⟩
 have hr1:RowAt (w.alloc (.cells #[.slice uca cs.length ucc, .int .i64 mu, .slice uta bs.length utc] 25)) b1 [.slice uca cs.length ucc, .int .i64 mu, .slice uta bs.length utc]:=by rw [hb1];exact RowAt.ofBlock (heap_alloc_new w _)
 have hk1:Keeps NoBlk w (w.alloc (.cells #[.slice uca cs.length ucc, .int .i64 mu, .slice uta bs.length utc] 25)):=(Keeps.refl _ _).alloc _;rw [<- hb1];generalize w.alloc (.cells #[.slice uca cs.length ucc, .int .i64 mu, .slice uta bs.length utc] 25)=w1 at hr1 hk1 ⊢;have R1:=Lib.hid hr1;have K1:=Lib.hid hk1;clear hr1 hk1 hb1;have BD1:Hid (BdsAt w1 F bs uta):=HBD.out.keeps K1.out (fun _ _ h=>h);clear HBD;go_upto_region 4 with fail
 go_loopw [4,5,6] (fun sv wv iv wr=>∃ i:Nat,i <= bs.length /\ iv=.int .i64 i /\ Hid (NumV wr (fun _=>True) 10 (unS (bs.take i)) sv) /\ Hid (NumV wr (fun _=>True) 10 (unW (bs.take i)) wv) /\ Hid (Keeps NoBlk w1 wr)) (fun _ _ iv _=>bs.length - (intOf iv).toNat)
 case atStart=>exact ⟨0,Nat.zero_le _,rfl,NumV.zero _ _ _,NumV.zero _ _ _,Keeps.refl _ _⟩
 case round =>
  rename_i sv wv _
  obtain ⟨i,hi,rfl,HN,HM,HK⟩:=hrel;obtain ⟨y0,y1,y2⟩:=(R1.out.keeps HK.out (fun h=>h)).three;by_cases hlt:i < bs.length
  ·have i1:(0:Int) <= i:=by omega
   have i2:(i:Int) < bs.length:=by omega
   obtain ⟨g,o,ba,bc,e1,hg,d0,d1,hx⟩:=(BD1.out.keeps HK.out (fun _ _ h=>h)) i hlt;subst e1;have hokb:=HOK.out _ (List.getElem_mem hlt);have hszb:Ac.szL bs[i].acts < 1000000000:=by have:=bsSz_mem (List.getElem_mem hlt);have:=HSZ.out;omega
   have HST:Hid (∀ W,Keeps NoBlk wr W -> Calls Tryz.prog 88 #[.slice ba bs[i].acts.length bc] W fun e w'=>∃ z,e=.returned z /\ NumV w' (Since W.heap.size w') 10 (Ac.stpL bs[i].acts) z /\ Keeps NoBlk W w'):=fun W hk=>rstOk _ W F ba bc (hx.keeps hk (fun _ _ h=>h)) hszb hokb
   have HWK:Hid (∀ W,Keeps NoBlk wr W -> Calls Tryz.prog 89 #[.slice ba bs[i].acts.length bc] W fun e w'=>∃ z,e=.returned z /\ NumV w' (Since W.heap.size w') 10 (Ac.wrkL bs[i].acts) z /\ Keeps NoBlk W w'):=fun W hk=>rwkOk _ W F ba bc (hx.keeps hk (fun _ _ h=>h)) hszb hokb
   have HTS:=Lib.hid (unS_take hlt);have HTW:=Lib.hid (unW_take hlt);have HPS:Hid (unS (bs.take i)+(Ac.stpL bs[i].acts+1) <= unW bs):=by have h1:=unS_part bs (i+1);have h2:=unS_le bs;rw [unS_take hlt] at h1;show _ <= _;omega
   have HPW:Hid (unW (bs.take i)+(Ac.wrkL bs[i].acts+1) <= unW bs):=by have h1:=unW_part bs (i+1);rw [unW_take hlt] at h1;show _ <= _;omega
   clear hx hokb hszb;generalize Ac.stpL bs[i].acts=ts at HST HTS HPS;generalize Ac.wrkL bs[i].acts=tw at HWK HTW HPW;generalize bs[i].acts.length=x1 at d1 HST HWK;go_upto_region 7 with (go_at_call 88;refine (HST.out _ (Keeps.refl _ _)).mono ?_;rintro e w2 ⟨z2,rfl,n2,g2⟩;have d1':=g2.cell (p:=⟨g,o+i*2+1,none⟩) (fun h=>h) d1;have y2':=((R1.out.keeps HK.out (fun h=>h)).keeps g2 (fun h=>h)).three.2.2;have N2:=Lib.hid n2;have G2:=Lib.hid g2;clear g2 n2)
   clear d0 d1 y0 y1 y2;go_upto_region 8 with (go_at_call 89;refine (HWK.out _ G2.out).mono ?_;rintro e w3 ⟨z3,rfl,n3,g3⟩;have N3:=Lib.hid n3;have G3:Hid (Keeps NoBlk wr w3):=G2.out.trans0 g3;have N2':Hid (NumV w3 (fun _=>True) 10 ts z2):=(N2.out.keeps0 g3).mono (fun _ _=>trivial);clear g3 n3)
   clear d1' y2';go_upto_region 9 with (go_at_call 90;refine (rplusV (HN.out.keeps0 G3.out) N2'.out (by have:=HLL.out (unS (bs.take i)) (by have:=HPS.out;omega);omega) (by have:=HLL.out ts (by have:=HPS.out;omega);omega)).mono ?_;rintro e w4 ⟨z4,rfl,n4,g4⟩;have N4:=Lib.hid n4;have G4:Hid (Keeps NoBlk wr w4):=G3.out.trans0 g4;have N34:Hid (NumV w4 (fun _=>True) 10 tw z3):=(N3.out.keeps0 g4).mono (fun _ _=>trivial);clear g4 n4)
   go_upto_region 10 with (go_at_call 90;refine (rplusV (F:=fun _=>True) ((N4.out.keeps0 ((Keeps.refl NoBlk w4).alloc _)).mono (fun _ _=>trivial)) (NumV.one (by decide) _ (RowAt.ofBlock (heap_alloc_new w4 _)) trivial) (by have:=HLL.out (unS (bs.take i)+ts) (by have:=HPS.out;omega);omega) (by rw [dig_one (by decide)];simp)).mono ?_;rintro e w5 ⟨z5,rfl,n5,g5⟩;have N5:=Lib.hid n5;have G5:Hid (Keeps NoBlk w4 w5):=((Keeps.refl NoBlk w4).alloc _).trans0 g5;have N35:Hid (NumV w5 (fun _=>True) 10 tw z3):=N34.out.keeps0 G5.out;clear g5 n5)
   go_upto_region 11 with (go_at_call 90;refine (rplusV (HM.out.keeps0 (G4.out.trans0 G5.out)) N35.out (by have:=HLL.out (unW (bs.take i)) (by have:=HPW.out;omega);omega) (by have:=HLL.out tw (by have:=HPW.out;omega);omega)).mono ?_;rintro e w6 ⟨z6,rfl,n6,g6⟩;have N6:=Lib.hid n6;have G6:Hid (Keeps NoBlk w5 w6):=g6;clear g6 n6)
   go_wp2_with (go_at_call 90;refine (rplusV (F:=fun _=>True) ((N6.out.keeps0 ((Keeps.refl NoBlk w6).alloc _)).mono (fun _ _=>trivial)) (NumV.one (by decide) _ (RowAt.ofBlock (heap_alloc_new w6 _)) trivial) (by have:=HLL.out (unW (bs.take i)+tw) (by have:=HPW.out;omega);omega) (by rw [dig_one (by decide)];simp)).mono ?_;rintro e w7 ⟨z7,rfl,n7,g7⟩;have N7:=Lib.hid n7;have G7:Hid (Keeps NoBlk w6 w7):=((Keeps.refl NoBlk w6).alloc _).trans0 g7;clear g7 n7)
   go_roundw
   case rel =>
    refine ⟨i+1,by omega,by go_num,?_,?_,((HK.out.trans0 G4.out).trans0 G5.out).trans0 (G6.out.trans0 G7.out)⟩
    ·show NumV _ _ _ _ _
     rw [HTS.out,<- Nat.add_assoc];exact (N5.out.keeps0 (G6.out.trans0 G7.out)).mono (fun _ _=>trivial)
    ·show NumV _ _ _ _ _
     rw [HTW.out,<- Nat.add_assoc];exact N7.out.mono (fun _ _=>trivial)
   case measure=>simp [intOf];omega
  ·obtain rfl:i=bs.length:=by omega
   go_wp2_with fail
   go_ret2
   have h1:=HN.out;have h2:=HM.out;rw [List.take_length] at h1 h2;exact ⟨_,_,rfl,h1,h2,K1.out.trans0 HK.out⟩
def withinU (b:Bool) (s m:Nat):Int:=if b then (if 60 < s then 70 else if 10000 < m then 71 else 0) else 1
theorem rlessV {x y:Nat} {w:World} {F:Nat -> Prop} {v u:Value} (hx:NumV w F 10 x v) (hy:NumV w F 10 y u) (lx:(dig 10 x).length <= 100000000000) (ly:(dig 10 y).length <= 100000000000) :
 Calls Tryz.prog 72 #[v,u] w fun e w'=>e=.returned (.bool (decide (x < y))) /\ Keeps NoBlk w w':=by
 obtain ⟨xa,xc,rfl,h1⟩:=hx;obtain ⟨ya,yc,rfl,h2⟩:=hy;exact less_any x y w F xa ya xc yc h1 h2 lx ly
set_option maxRecDepth 8000 in
set_option maxHeartbeats 2000000 in
theorem refWithin_any (cs:List Int) (mu:Int) (bs:List Bd) (w:World) (F:Nat -> Prop) (uca uta:Option Addr) (ucc utc:Nat) (hcs:NumsAt w F cs uca) (hbd:BdsAt w F bs uta) (hF:∀ k,F k -> k < w.heap.size) (hsz:bsSz bs < 900000000) (hl1:cs.length < 1000000000) (hl2:bs.length < 1000000000) :
 Calls Tryz.prog 37 #[.agg #[.slice uca cs.length ucc, .int .i64 mu, .slice uta bs.length utc]] w fun e w'=>e=.returned (.int .i64 (withinU (rightU ⟨cs,mu,bs⟩) (unS bs) (unW bs))) /\ Keeps NoBlk w w':=by
 obtain ⟨v,hv⟩:∃ v,v=withinU (rightU ⟨cs,mu,bs⟩) (unS bs) (unW bs):=⟨_,rfl⟩
 rw [<- hv];obtain ⟨r,hr⟩:∃ r,r=rightU ⟨cs,mu,bs⟩:=⟨_,rfl⟩
 have HR:=Lib.hid hr;rw [<- hr] at hv;have HV:=Lib.hid hv;clear hv;have HRT:Hid (∀ W,Keeps NoBlk w W -> Calls Tryz.prog 25 #[.agg #[.slice uca cs.length ucc, .int .i64 mu, .slice uta bs.length utc]] W fun e w'=>e=.returned (.bool r) /\ Keeps NoBlk W w'):=fun W hk=>hr ▸ refRight_any cs mu bs W F uca uta ucc utc (hcs.keeps hk (fun _ _ h=>h)) (hbd.keeps hk (fun _ _ h=>h)) (fun k h=>Nat.lt_of_lt_of_le (hF k h) hk.size) hsz hl1 hl2
 have HBO:Hid (r=true -> ∀ W,Keeps NoBlk w W -> Calls Tryz.prog 60 #[.agg #[.slice uca cs.length ucc, .int .i64 mu, .slice uta bs.length utc]] W fun e w'=>∃ z1 z2,e=.returned (.tuple #[z1,z2]) /\ NumV w' (fun _=>True) 10 (unS bs) z1 /\ NumV w' (fun _=>True) 10 (unW bs) z2 /\ Keeps NoBlk W w'):=fun hr1 W hk=>both_any cs mu bs W F uca uta ucc utc (hbd.keeps hk (fun _ _ h=>h)) (bsOk_right (u:=⟨cs,mu,bs⟩) (hr.symm.trans hr1)) hsz hl2
 have HDL:Hid (r=true -> ∀ m,m <= unW bs+1 -> (dig 10 m).length <= 12000000000):=fun hr1 m hm=>un_dlen (by decide) (bsOk_right (u:=⟨cs,mu,bs⟩) (hr.symm.trans hr1)) hsz hl2 hm
 have HSW:Hid (unS bs <= unW bs):=unS_le bs;clear hcs hbd hF hsz hl1 hl2 hr;go_enter Tryz.func37,Tryz.ntmps37
 go_upto_region 1 with fail
 obtain ⟨b1,hb1⟩:∃ z,z=w.heap.size:=⟨_,rfl⟩
 have hr1:RowAt (w.alloc (.cells #[.slice uca cs.length ucc, .int .i64 mu, .slice uta bs.length utc] 25)) b1 [.slice uca cs.length ucc, .int .i64 mu, .slice uta bs.length utc]:=by rw [hb1];exact RowAt.ofBlock (heap_alloc_new w _)
 have hk1:Keeps NoBlk w (w.alloc (.cells #[.slice uca cs.length ucc, .int .i64 mu, .slice uta bs.length utc] 25)):=(Keeps.refl _ _).alloc _;rw [<- hb1];generalize w.alloc (.cells #[.slice uca cs.length ucc, .int .i64 mu, .slice uta bs.length utc] 25)=w1 at hr1 hk1 ⊢;have R1:=Lib.hid hr1;have K1:=Lib.hid hk1;obtain ⟨y0,y1,y2⟩:=hr1.three;clear hr1 hk1 hb1;generalize cs.length=n0 at y0 R1 HRT HBO;generalize bs.length=n2 at y2 R1 HRT HBO;go_upto_region 2 with (go_at_call 25;refine (HRT.out _ K1.out).mono ?_;rintro e w2 ⟨rfl,g2⟩;have c:=(R1.out.keeps g2 (fun h=>h)).three;clear y0 y1 y2;obtain ⟨y0,y1,y2⟩:=c;have K2:Hid (Keeps NoBlk w w2):=K1.out.trans0 g2;clear g2)
 clear HR;cases r
 ·go_wp2_with fail
  go_ret
  exact ⟨by rw [HV.out];rfl,K2.out⟩
 ·have HBO2:=Lib.hid (HBO.out rfl)
  have HDL2:=Lib.hid (HDL.out rfl);clear HBO HDL;go_upto_region 5 with (go_at_call 60;refine (HBO2.out _ K2.out).mono ?_;rintro e w3 ⟨z1,z2,rfl,n1,n2,g3⟩;have N1:=Lib.hid n1;have N2:=Lib.hid n2;have K3:Hid (Keeps NoBlk w w3):=K2.out.trans0 g3;clear n1 n2 g3)
  go_upto_region 6 with (first
   | (go_at_call 73;refine (rsmallV 61 (by decide) _).mono ?_;rintro e w4 ⟨z4,rfl,n4,g4⟩;have N4:=Lib.hid n4;have G4:=Lib.hid g4;clear g4 n4)
   | (go_at_call 72;refine (rlessV (F:=fun _=>True) (N1.out.keeps0 G4.out) (N4.out.mono (fun _ _=>trivial)) (by have:=HDL2.out (unS bs) (by have:=HSW.out;omega);omega) (by have h:=dig_le (b:=10) (n:=61) (i:=2) (by decide) (by decide);omega)).mono ?_;rintro e w5 ⟨rfl,g5⟩;have G5:Hid (Keeps NoBlk w3 w5):=G4.out.trans0 g5;have N25:=Lib.hid (N2.out.keeps0 G5.out);have K5:=Lib.hid (K3.out.trans0 G5.out);clear g5))
  go_upto_region 7 with (first
   | (go_at_call 73;refine (rsmallV 10001 (by decide) _).mono ?_;rintro e w6 ⟨z6,rfl,n6,g6⟩;have N6:=Lib.hid n6;have G6:=Lib.hid g6;clear g6 n6)
   | (go_at_call 72;refine (rlessV (F:=fun _=>True) (N25.out.keeps0 G6.out) (N6.out.mono (fun _ _=>trivial)) (by have:=HDL2.out (unW bs) (by omega);omega) (by have h:=dig_le (b:=10) (n:=10001) (i:=5) (by decide) (by decide);omega)).mono ?_;rintro e w7 ⟨rfl,g7⟩;have K7:Hid (Keeps NoBlk w w7):=K5.out.trans0 (G6.out.trans0 g7);clear g7))
  have hE:∃ a b,a=decide (unS bs < 61) /\ b=decide (unW bs < 10001):=⟨_,_,rfl,rfl⟩
  obtain ⟨a,b,ha,hb⟩:=hE
  have HVV:Hid (v=if a then (if b then 0 else 71) else 70):=by
   show _=_
   rw [HV.out,ha,hb];unfold withinU;by_cases h1:unS bs < 61
   ·by_cases h2:unW bs < 10001
    ·simp [h1,h2,show ¬ 60 < unS bs by omega,show ¬ 10000 < unW bs by omega]
    ·simp [h1,h2,show ¬ 60 < unS bs by omega,show 10000 < unW bs by omega]
   ·simp [h1,show 60 < unS bs by omega]
  rw [<- ha,<- hb];clear ha hb;cases a
  ·go_wp2_with fail
   go_ret
   exact ⟨by rw [HVV.out];rfl,K7.out⟩
  ·cases b
   ·go_wp2_with fail
    go_ret
    exact ⟨by rw [HVV.out];rfl,K7.out⟩
   ·go_wp2_with fail
    go_ret
    exact ⟨by rw [HVV.out];rfl,K7.out⟩
theorem right_len {u:Un} (h:rightU u=true):u.threads.length <= 8:=by
 rcases Nat.lt_or_ge 8 u.threads.length with h1 | h1
 ·rw [right_no1 (fun hh=>by have:=hh.2.1;omega)] at h;cases h
 ·exact h1
theorem run_field0 (a b:Option Addr) (l1 c1 l2 c2:Nat) (w:World):(Instr.field 132 (.agg #[.slice a l1 c1, .slice b l2 c2]) 0).run Tryz.prog w=.ok (.slice a l1 c1) w:=by
 simp [Instr.field,asAgg,go_sem,underlying,Tryz.underlying132]
theorem run_field1 (a b:Option Addr) (l1 c1 l2 c2:Nat) (w:World):(Instr.field 132 (.agg #[.slice a l1 c1, .slice b l2 c2]) 1).run Tryz.prog w=.ok (.slice b l2 c2) w:=by
 simp [Instr.field,asAgg,go_sem,underlying,Tryz.underlying132]
set_option maxRecDepth 8000 in
set_option maxHeartbeats 4000000 in
theorem boundWithin_any (cs:List Int) (mu:Int) (bs:List Bd) (w:World) (F:Nat -> Prop) (uca uta:Option Addr) (ucc utc:Nat) (hcs:NumsAt w F cs uca) (hbd:BdsAt w F bs uta) (hF:∀ k,F k -> k < w.heap.size) (hkd:∀ b,b ∈ bs -> Ac.kindsL b.acts) (hsz:bsSz bs < 900000000) (hl1:cs.length < 1000000000) (hl2:bs.length < 1000000000) :
 Calls Tryz.prog 40 #[.agg #[.slice uca cs.length ucc, .int .i64 mu, .slice uta bs.length utc]] w fun e w'=>e=.returned (.int .i64 (withinU (rightU ⟨cs,mu,bs⟩) (unS bs) (unW bs))) /\ Keeps NoBlk w w':=by
 obtain ⟨v,hv⟩:∃ v,v=withinU (rightU ⟨cs,mu,bs⟩) (unS bs) (unW bs):=⟨_,rfl⟩
 rw [<- hv];obtain ⟨r,hr⟩:∃ r,r=rightU ⟨cs,mu,bs⟩:=⟨_,rfl⟩
 have HR:=Lib.hid hr;rw [<- hr] at hv;have HV:=Lib.hid hv;clear hv;have HRT:Hid (∀ W,Keeps NoBlk w W -> Calls Tryz.prog 76 #[.agg #[.slice uca cs.length ucc, .int .i64 mu, .slice uta bs.length utc]] W fun e w'=>e=.returned (.bool r) /\ Keeps NoBlk W w'):=fun W hk=>hr ▸ checkRight_any cs mu bs W F uca uta ucc utc (hcs.keeps hk (fun _ _ h=>h)) (hbd.keeps hk (fun _ _ h=>h)) (fun k h=>Nat.lt_of_lt_of_le (hF k h) hk.size) hkd hsz hl1 hl2
 have HBO:Hid (r=true -> ∀ W,Keeps NoBlk w W -> Calls Tryz.prog 77 #[.agg #[.slice uca cs.length ucc, .int .i64 mu, .slice uta bs.length utc]] W fun e w'=>∃ z1 z2,e=.returned (.agg #[z1,z2]) /\ NumV w' (fun _=>True) 1000000000 (unS bs) z1 /\ NumV w' (fun _=>True) 1000000000 (unW bs) z2 /\ Keeps NoBlk W w'):=fun hr1 W hk=>whole_any cs mu bs W F uca uta ucc utc (hbd.keeps hk (fun _ _ h=>h)) (fun k h=>Nat.lt_of_lt_of_le (hF k h) hk.size) (bsOk_right (u:=⟨cs,mu,bs⟩) (hr.symm.trans hr1)) hsz hl2
 have HDL:Hid (r=true -> ∀ m,m <= unW bs+1 -> (dig 1000000000 m).length <= 10000000000):=fun hr1 m hm=>Nat.le_trans (un_dlen8 (by decide) (bsOk_right (u:=⟨cs,mu,bs⟩) (hr.symm.trans hr1)) hsz (right_len (u:=⟨cs,mu,bs⟩) (hr.symm.trans hr1)) hm) (by decide)
 have HSW:Hid (unS bs <= unW bs):=unS_le bs;clear hcs hbd hF hsz hl1 hl2 hr hkd;go_enter Tryz.func40,Tryz.ntmps40
 go_upto_region 1 with fail
 obtain ⟨b1,hb1⟩:∃ z,z=w.heap.size:=⟨_,rfl⟩
 have hr1:RowAt (w.alloc (.cells #[.slice uca cs.length ucc, .int .i64 mu, .slice uta bs.length utc] 25)) b1 [.slice uca cs.length ucc, .int .i64 mu, .slice uta bs.length utc]:=by rw [hb1];exact RowAt.ofBlock (heap_alloc_new w _)
 have hk1:Keeps NoBlk w (w.alloc (.cells #[.slice uca cs.length ucc, .int .i64 mu, .slice uta bs.length utc] 25)):=(Keeps.refl _ _).alloc _;rw [<- hb1];generalize w.alloc (.cells #[.slice uca cs.length ucc, .int .i64 mu, .slice uta bs.length utc] 25)=w1 at hr1 hk1 ⊢;have R1:=Lib.hid hr1;have K1:=Lib.hid hk1;obtain ⟨y0,y1,y2⟩:=hr1.three;clear hr1 hk1 hb1;generalize cs.length=n0 at y0 R1 HRT HBO;generalize bs.length=n2 at y2 R1 HRT HBO;clear HR;cases r
 ·go_wp2_with (go_at_call 76;refine (HRT.out _ K1.out).mono ?_;rintro e w2 ⟨rfl,g2⟩;have c:=(R1.out.keeps g2 (fun h=>h)).three;clear y0 y1 y2;obtain ⟨y0,y1,y2⟩:=c;have K2:Hid (Keeps NoBlk w w2):=K1.out.trans0 g2;clear g2)
  go_ret
  exact ⟨by rw [HV.out];rfl,K2.out⟩
 ·have HBO2:=Lib.hid (HBO.out rfl)
  have HDL2:=Lib.hid (HDL.out rfl);clear HBO HDL;go_upto_region 3 with (go_at_call 76;refine (HRT.out _ K1.out).mono ?_;rintro e w2 ⟨rfl,g2⟩;have c:=(R1.out.keeps g2 (fun h=>h)).three;clear y0 y1 y2;obtain ⟨y0,y1,y2⟩:=c;have K2:Hid (Keeps NoBlk w w2):=K1.out.trans0 g2;clear g2)
  obtain ⟨a,ha⟩:∃ a,a=decide (60 < unS bs):=⟨_,rfl⟩
  obtain ⟨b,hb⟩:∃ b,b=decide (10000 < unW bs):=⟨_,rfl⟩
  have HVV:Hid (v=if a then 70 else (if b then 71 else 0)):=by
   show _=_
   rw [HV.out,ha,hb];unfold withinU;by_cases h1:60 < unS bs
   ·simp [h1]
   ·by_cases h2:10000 < unW bs
    ·simp [h1,h2]
    ·simp [h1,h2]
  have HAB:=Lib.hid (fun (W:World) (k:Nat) (v u:Value) (F:Nat -> Prop) (hk:k <= unW bs) (h1:NumV W F 1000000000 k v) (h2:NumV W F 1000000000 60 u)=>aboveV h1 h2 (by have:=HDL2.out k (by omega);omega) (by have h:=dig_le (b:=1000000000) (n:=60) (i:=1) (by decide) (by decide);omega));have HAC:=Lib.hid (fun (W:World) (k:Nat) (v u:Value) (F:Nat -> Prop) (hk:k <= unW bs) (h1:NumV W F 1000000000 k v) (h2:NumV W F 1000000000 10000 u)=>aboveV h1 h2 (by have:=HDL2.out k (by omega);omega) (by have h:=dig_le (b:=1000000000) (n:=10000) (i:=1) (by decide) (by decide);omega));have HA:=Lib.hid ha;have HB:=Lib.hid hb;clear ha hb HV HDL2;go_upto_region 4 with (go_at_call 77;refine (HBO2.out _ K2.out).mono ?_;rintro e w3 ⟨z1,z2,rfl,n1,n2,g3⟩;have N1:=Lib.hid n1;have N2:=Lib.hid n2;obtain ⟨p1,r1,rfl,_⟩:=n1;generalize (dig 1000000000 (unS bs)).length=q1 at N1 ⊢;obtain ⟨p2,r2,rfl,_⟩:=n2;generalize (dig 1000000000 (unW bs)).length=q2 at N2 ⊢;have K3:Hid (Keeps NoBlk w w3):=K2.out.trans0 g3;have hfl:=run_field0 p1 p2 q1 r1 q2 r2 w3;have hfm:=run_field1 p1 p2 q1 r1 q2 r2 w3;clear g3)
  obtain ⟨b3,hb3⟩:∃ z,z=w3.heap.size:=⟨_,rfl⟩
  have hr3:RowAt (w3.alloc (.cells #[.slice p1 q1 r1, .slice p2 q2 r2] 132)) b3 [.slice p1 q1 r1, .slice p2 q2 r2]:=by rw [hb3];exact RowAt.ofBlock (heap_alloc_new w3 _)
  have hk3:Keeps NoBlk w3 (w3.alloc (.cells #[.slice p1 q1 r1, .slice p2 q2 r2] 132)):=(Keeps.refl _ _).alloc _;rw [<- hb3];generalize w3.alloc (.cells #[.slice p1 q1 r1, .slice p2 q2 r2] 132)=w4 at hr3 hk3 ⊢;have R3:=Lib.hid hr3;have K4:Hid (Keeps NoBlk w w4):=K3.out.trans0 hk3;have N14:=Lib.hid (N1.out.keeps0 hk3);have N24:=Lib.hid (N2.out.keeps0 hk3);clear hr3 hk3 hb3 N1 N2 K3 y0 y1 y2 HRT HBO2
  refine wp_region_table 4 (by kernel_rfl) (by kernel_rfl) (Keeps NoBlk) (Keeps.refl NoBlk) (fun a b c h h'=>Keeps.trans0 h h') (TabV [some (.pointer (some ⟨b3,0,none⟩)),some (.slice p1 q1 r1)] (fun j v W=>match j with
   | 2=>NumV W (fun _=>True) 1000000000 60 v
   | _=>v=.bool (decide (60 < unS bs)))) (TabV.st (fun j v W W' h hk=>by
     revert h
     split
     ·exact fun h=>h.keeps0 hk
     ·exact fun h=>h)) ?_ ?_
  ·intro q oo hq ho vs W Q' hR0 hd hK
   have hR:Keeps NoBlk w4 W:=((Keeps.refl NoBlk w4).drew).trans0 hR0;obtain ⟨y0,y1⟩:=(R3.out.keeps (hR) (fun h=>h)).two;have NW:=Lib.hid (N14.out.keeps0 hR);clear hR hR0;rcases (show q=0 \/ q=1 \/ q=2 \/ q=3 by omega) with rfl | rfl | rfl | rfl
   all_goals (simp only [List.getElem?_cons_zero,List.getElem?_cons_succ,Option.some.injEq] at ho;subst ho;simp only [putsTo,List.getElem?_cons_zero,List.getElem?_cons_succ,Option.bind_some,Option.bind,Act.put,List.setIfInBounds_toArray,List.set_cons_zero,List.set_cons_succ] at hK ⊢;clear hq)
   ·clear hd
    go_wp2_with fail
    exact hK _ _ (Keeps.refl _ _) rfl
   ·have e0:vs 0=_:=hd 0 (by kernel_rfl)
    rw [e0] at hK ⊢;clear hd;go_wp2_with fail
    exact hK _ _ (Keeps.refl _ _) rfl
   ·clear hd
    go_wp2_with (go_at_call 79;refine (smallV 60 (by decide) _).mono ?_;rintro e W1 ⟨z,rfl,n1,g1⟩)
    exact hK _ _ g1 (n1.mono (fun _ _=>trivial))
   ·have e1:vs 1=_:=hd 1 (by kernel_rfl)
    obtain ⟨z2,e2,h2⟩:∃ z,vs 2=z /\ NumV W (fun _=>True) 1000000000 60 z:=⟨_,rfl,hd 2 (by kernel_rfl)⟩
    have H2:=Lib.hid h2;rw [e1,e2] at hK ⊢;clear h2;clear hd;go_wp2_with (go_at_call 78;refine (HAB.out W _ _ _ (fun _=>True) (by have:=HSW.out;omega) NW.out H2.out).mono ?_;rintro e W1 ⟨rfl,rfl⟩)
    exact hK _ _ (Keeps.refl _ _) rfl
  ·intro vs W4 hR0 hF
   have hR:Keeps NoBlk w4 W4:=((Keeps.refl NoBlk w4).drew).trans0 hR0;have K4':Hid (Keeps NoBlk w W4):=K4.out.trans0 hR;have e3:vs 3=_:=(hF 3 (by decide):vs 3=.bool (decide (60 < unS bs)));simp only [putsTo,List.getElem?_cons_zero,List.getElem?_cons_succ,Option.bind_some,Option.bind,Act.put,List.setIfInBounds_toArray,List.set_cons_zero,List.set_cons_succ,List.drop_succ_cons,List.drop_zero];rw [e3];clear hF e3;generalize vs 0=y0;generalize vs 1=y1;generalize vs 2=y2;rw [<- HA.out];have R34:=Lib.hid (R3.out.keeps hR (fun h=>h));have N25:=Lib.hid (N24.out.keeps0 hR);clear hR hR0 HA N14 N24 HAB R3;cases a
   ·go_upto_region 6 with fail
    refine wp_region_table 4 (by kernel_rfl) (by kernel_rfl) (Keeps NoBlk) (Keeps.refl NoBlk) (fun a b c h h'=>Keeps.trans0 h h') (TabV [some (.pointer (some ⟨b3,1,none⟩)),some (.slice p2 q2 r2)] (fun j v W=>match j with
     | 2=>NumV W (fun _=>True) 1000000000 10000 v
     | _=>v=.bool (decide (10000 < unW bs)))) (TabV.st (fun j v W W' h hk=>by
       revert h
       split
       ·exact fun h=>h.keeps0 hk
       ·exact fun h=>h)) ?_ ?_
    ·intro q oo hq ho vs W Q' hR0 hd hK
     have hR:Keeps NoBlk W4 W:=((Keeps.refl NoBlk W4).drew).trans0 hR0;obtain ⟨y0,y1⟩:=(R34.out.keeps (hR) (fun h=>h)).two;have NW:=Lib.hid (N25.out.keeps0 hR);clear hR hR0;rcases (show q=0 \/ q=1 \/ q=2 \/ q=3 by omega) with rfl | rfl | rfl | rfl
     all_goals (simp only [List.getElem?_cons_zero,List.getElem?_cons_succ,Option.some.injEq] at ho;subst ho;simp only [putsTo,List.getElem?_cons_zero,List.getElem?_cons_succ,Option.bind_some,Option.bind,Act.put,List.setIfInBounds_toArray,List.set_cons_zero,List.set_cons_succ] at hK ⊢;clear hq)
     ·clear hd
      go_wp2_with fail
      exact hK _ _ (Keeps.refl _ _) rfl
     ·have e0:vs 0=_:=hd 0 (by kernel_rfl)
      rw [e0] at hK ⊢;clear hd;go_wp2_with fail
      exact hK _ _ (Keeps.refl _ _) rfl
     ·clear hd
      go_wp2_with (go_at_call 79;refine (smallV 10000 (by decide) _).mono ?_;rintro e W1 ⟨z,rfl,n1,g1⟩)
      exact hK _ _ g1 (n1.mono (fun _ _=>trivial))
     ·have e1:vs 1=_:=hd 1 (by kernel_rfl)
      obtain ⟨z2,e2,h2⟩:∃ z,vs 2=z /\ NumV W (fun _=>True) 1000000000 10000 z:=⟨_,rfl,hd 2 (by kernel_rfl)⟩
      have H2:=Lib.hid h2;rw [e1,e2] at hK ⊢;clear h2;clear hd;go_wp2_with (go_at_call 78;refine (HAC.out W _ _ _ (fun _=>True) (Nat.le_refl _) NW.out H2.out).mono ?_;rintro e W1 ⟨rfl,rfl⟩)
      exact hK _ _ (Keeps.refl _ _) rfl
    ·intro vs W6 hR0 hF
     have hR:Keeps NoBlk W4 W6:=((Keeps.refl NoBlk W4).drew).trans0 hR0;have K6':Hid (Keeps NoBlk w W6):=K4'.out.trans0 hR;have e3:vs 3=_:=(hF 3 (by decide):vs 3=.bool (decide (10000 < unW bs)));simp only [putsTo,List.getElem?_cons_zero,List.getElem?_cons_succ,Option.bind_some,Option.bind,Act.put,List.setIfInBounds_toArray,List.set_cons_zero,List.set_cons_succ,List.drop_succ_cons,List.drop_zero];rw [e3];clear hF e3;generalize vs 0=y0;generalize vs 1=y1;generalize vs 2=y2;rw [<- HB.out];clear hR hR0 HB;cases b
     ·go_wp2_with fail
      go_ret
      exact ⟨by rw [HVV.out];rfl,K6'.out⟩
     ·go_wp2_with fail
      go_ret
      exact ⟨by rw [HVV.out];rfl,K6'.out⟩
   ·go_wp2_with fail
    go_ret
    exact ⟨by rw [HVV.out];rfl,K4'.out⟩
end Go.Proofs.YtnmifekgdkgknaaGreatDoor
