/- Layer K: texts joined. -/
import Derived.Test.YtfokdllgnblamaaGreatDoorK37
import Derived.Test.YtfokdllgnblamaaGreatDoorK34
import Derived.Test.YtfokdllgnblamaaGreatDoorK36
set_option linter.all false
set_option maxHeartbeats 4000000
set_option maxRecDepth 8000
namespace Go.Proofs.YtfokdllgnblamaaGreatDoor
open Go.RowKit
theorem J120 (P:Prop) (h:P:=by
 go_wp2_with fail
 go_ret
 exact ⟨by rw [HVV.out];rfl,K7.out⟩):P:=h
theorem zLL (cs:List Int) (mu:Int) (bs:List Bd) (w:World) (F:Nat -> Prop) (uca uta:Option Addr) (ucc utc:Nat) (hbd:zAk w F bs uta) (hok:zKm bs) (hsz:zAy bs < 900000000) (hl2:bs.length < 1000000000) :
 Calls Tryz.prog 56 #[.agg #[.slice uca cs.length ucc, .int .i64 mu, .slice uta bs.length utc]] w fun e w'=>∃ z1 z2,e=.returned (.tuple #[z1,z2]) /\ zQ w' (fun _=>True) 10 (unS bs) z1 /\ zQ w' (fun _=>True) 10 (unW bs) z2 /\ Keeps zA w w':=by
 have HBD:=yB hbd;have HOK:=yB hok;have HSZ:=yB hsz;have HLL:Hid (∀ m,m <= unW bs+1 -> (dig 10 m).length <= 12000000000):=fun m hm=>zHf (by decide) hok hsz hl2 hm
 clear hbd hok hsz;go_enter Tryz.func56,Tryz.ntmps56
 go_upto_region 1 with fail
 obtain ⟨b1,hb1⟩:=eX w.heap.size;have hr1:zC (w.alloc (.cells #[.slice uca cs.length ucc, .int .i64 mu, .slice uta bs.length utc] 25)) b1 [.slice uca cs.length ucc, .int .i64 mu, .slice uta bs.length utc]:=J186 _;have hk1:Keeps zA w (w.alloc (.cells #[.slice uca cs.length ucc, .int .i64 mu, .slice uta bs.length utc] 25)):=(yC _ _).alloc _;rw [<- hb1];generalize w.alloc (.cells #[.slice uca cs.length ucc, .int .i64 mu, .slice uta bs.length utc] 25)=w1 at hr1 hk1 ⊢;have R1:=yB hr1;have K1:=yB hk1;clear hr1 hk1 hb1;have BD1:Hid (zAk w1 F bs uta):=HBD.out.keeps K1.out (fun _ _ h=>h);clear HBD;go_upto_region 4 with fail
 go_loopw [4,5,6] (fun sv wv iv wr=>∃ i:Nat,i <= bs.length /\ iv=.int .i64 i /\ Hid (zQ wr (fun _=>True) 10 (unS (bs.take i)) sv) /\ Hid (zQ wr (fun _=>True) 10 (unW (bs.take i)) wv) /\ Hid (Keeps zA w1 wr)) (fun _ _ iv _=>bs.length - (intOf iv).toNat)
 case atStart=>exact ⟨0,yJ _,rfl,zQ.zero _ _ _,zQ.zero _ _ _,yC _ _⟩
 case round =>
  rename_i sv wv _
  obtain ⟨i,hi,rfl,HN,HM,HK⟩:=hrel;obtain ⟨y0,y1,y2⟩:=(R1.out.keeps HK.out (fun h=>h)).three;by_cases hlt:i < bs.length
  ·have i1:(0:Int) <= i:=by omega
   have i2:(i:Int) < bs.length:=by omega
   obtain ⟨g,o,ba,bc,e1,hg,d0,d1,hx⟩:=(BD1.out.keeps HK.out (fun _ _ h=>h)) i hlt;subst e1;have hokb:=HOK.out _ (yM hlt);have hszb:Ac.szL bs[i].acts < 1000000000:=J241 _;have HST:Hid (∀ W,Keeps zA wr W -> Calls Tryz.prog 86 #[.slice ba bs[i].acts.length bc] W fun e w'=>∃ z,e=.returned z /\ zQ w' (Since W.heap.size w') 10 (Ac.zk bs[i].acts) z /\ Keeps zA W w'):=fun W hk=>zPD _ W F ba bc (hx.keeps hk (fun _ _ h=>h)) hszb hokb
   have HWK:Hid (∀ W,Keeps zA wr W -> Calls Tryz.prog 87 #[.slice ba bs[i].acts.length bc] W fun e w'=>∃ z,e=.returned z /\ zQ w' (Since W.heap.size w') 10 (Ac.zY bs[i].acts) z /\ Keeps zA W w'):=fun W hk=>zOz _ W F ba bc (hx.keeps hk (fun _ _ h=>h)) hszb hokb
   have HTS:=yB (zEq hlt);have HTW:=yB (zEb hlt);have HPS:Hid (unS (bs.take i)+(Ac.zk bs[i].acts+1) <= unW bs):=J260 _;have HPW:Hid (unW (bs.take i)+(Ac.zY bs[i].acts+1) <= unW bs):=by have h1:=zIR bs (i+1);rw [zEb hlt] at h1;show _ <= _;omega
   clear hx hokb hszb;generalize Ac.zk bs[i].acts=ts at HST HTS HPS;generalize Ac.zY bs[i].acts=tw at HWK HTW HPW;generalize bs[i].acts.length=x1 at d1 HST HWK;go_upto_region 7 with (go_at_call 86;refine (HST.out _ (yC _ _)).mono ?_;rintro e w2 ⟨z2,rfl,n2,g2⟩;have d1':=g2.cell (p:=⟨g,o+i*2+1,none⟩) (fun h=>h) d1;have y2':=((R1.out.keeps HK.out (fun h=>h)).keeps g2 (fun h=>h)).three.2.2;have N2:=yB n2;have G2:=yB g2;clear g2 n2)
   clear d0 d1 y0 y1 y2;go_upto_region 8 with (go_at_call 87;refine (HWK.out _ G2.out).mono ?_;rintro e w3 ⟨z3,rfl,n3,g3⟩;have N3:=yB n3;have G3:Hid (Keeps zA wr w3):=G2.out.zB g3;have N2':Hid (zQ w3 (fun _=>True) 10 ts z2):=(N2.out.zD g3).mono (fun _ _=>trivial);clear g3 n3)
   clear d1' y2';go_upto_region 9 with (go_at_call 88;refine (zCK (HN.out.zD G3.out) N2'.out (by have:=HLL.out (unS (bs.take i)) (by have:=HPS.out;omega);omega) (by have:=HLL.out ts (by have:=HPS.out;omega);omega)).mono ?_;rintro e w4 ⟨z4,rfl,n4,g4⟩;have N4:=yB n4;have G4:Hid (Keeps zA wr w4):=G3.out.zB g4;have N34:Hid (zQ w4 (fun _=>True) 10 tw z3):=(N3.out.zD g4).mono (fun _ _=>trivial);clear g4 n4)
   go_upto_region 10 with (go_at_call 88;refine (zCK (F:=fun _=>True) ((N4.out.zD ((yC zA w4).alloc _)).mono (fun _ _=>trivial)) (zQ.one (by decide) _ (yN (yK w4 _)) trivial) (by have:=HLL.out (unS (bs.take i)+ts) (by have:=HPS.out;omega);omega) (J229 _)).mono ?_;rintro e w5 ⟨z5,rfl,n5,g5⟩;have N5:=yB n5;have G5:Hid (Keeps zA w4 w5):=((yC zA w4).alloc _).zB g5;have N35:Hid (zQ w5 (fun _=>True) 10 tw z3):=N34.out.zD G5.out;clear g5 n5)
   go_upto_region 11 with (go_at_call 88;refine (zCK (HM.out.zD (G4.out.zB G5.out)) N35.out (by have:=HLL.out (unW (bs.take i)) (by have:=HPW.out;omega);omega) (by have:=HLL.out tw (by have:=HPW.out;omega);omega)).mono ?_;rintro e w6 ⟨z6,rfl,n6,g6⟩;have N6:=yB n6;have G6:Hid (Keeps zA w5 w6):=g6;clear g6 n6)
   go_wp2_with (go_at_call 88;refine (zCK (F:=fun _=>True) ((N6.out.zD ((yC zA w6).alloc _)).mono (fun _ _=>trivial)) (zQ.one (by decide) _ (yN (yK w6 _)) trivial) (by have:=HLL.out (unW (bs.take i)+tw) (by have:=HPW.out;omega);omega) (J229 _)).mono ?_;rintro e w7 ⟨z7,rfl,n7,g7⟩;have N7:=yB n7;have G7:Hid (Keeps zA w6 w7):=((yC zA w6).alloc _).zB g7;clear g7 n7)
   go_roundw
   case rel =>
    refine ⟨i+1,by omega,by go_num,?_,?_,((HK.out.zB G4.out).zB G5.out).zB (G6.out.zB G7.out)⟩
    ·show zQ _ _ _ _ _
     rw [HTS.out,<- uK];exact (N5.out.zD (G6.out.zB G7.out)).mono (fun _ _=>trivial)
    ·show zQ _ _ _ _ _
     rw [HTW.out,<- uK];exact N7.out.mono (fun _ _=>trivial)
   case measure=>simp [intOf];omega
  ·obtain rfl:i=bs.length:=by omega
   go_wp2_with fail
   go_ret2
   have h1:=HN.out;have h2:=HM.out;rw [xT] at h1 h2;exact ⟨_,_,rfl,h1,h2,K1.out.zB HK.out⟩
def zCq (b:Bool) (s m:Nat):Int:=if b then (if 60 < s then 70 else if 10000 < m then 71 else 0) else 1
theorem zLv {x y:Nat} {w:World} {F:Nat -> Prop} {v u:Value} (hx:zQ w F 10 x v) (hy:zQ w F 10 y u) (lx:(dig 10 x).length <= 100000000000) (ly:(dig 10 y).length <= 100000000000) :
 Calls Tryz.prog 57 #[v,u] w fun e w'=>e=.returned (.bool (decide (x < y))) /\ Keeps zA w w':=by
 obtain ⟨xa,xc,rfl,h1⟩:=hx;obtain ⟨ya,yc,rfl,h2⟩:=hy;exact zIk x y w F xa ya xc yc h1 h2 lx ly
theorem zGQ (cs:List Int) (mu:Int) (bs:List Bd) (w:World) (F:Nat -> Prop) (uca uta:Option Addr) (ucc utc:Nat) (hcs:zAf w F cs uca) (hbd:zAk w F bs uta) (hF:∀ k,F k -> k < w.heap.size) (hsz:zAy bs < 900000000) (hl1:cs.length < 1000000000) (hl2:bs.length < 1000000000) :
 Calls Tryz.prog 19 #[.agg #[.slice uca cs.length ucc, .int .i64 mu, .slice uta bs.length utc]] w fun e w'=>e=.returned (.int .i64 (zCq (zX ⟨cs,mu,bs⟩) (unS bs) (unW bs))) /\ Keeps zA w w':=by
 obtain ⟨v,hv⟩:=eX (zCq (zX ⟨cs,mu,bs⟩) (unS bs) (unW bs));rw [<- hv];obtain ⟨r,hr⟩:=eX (zX ⟨cs,mu,bs⟩);have HR:=yB hr;rw [<- hr] at hv;have HV:=yB hv;clear hv;have HRT:Hid (∀ W,Keeps zA w W -> Calls Tryz.prog 55 #[.agg #[.slice uca cs.length ucc, .int .i64 mu, .slice uta bs.length utc]] W fun e w'=>e=.returned (.bool r) /\ Keeps zA W w'):=fun W hk=>hr ▸ zHD cs mu bs W F uca uta ucc utc (hcs.keeps hk (fun _ _ h=>h)) (hbd.keeps hk (fun _ _ h=>h)) (fun k h=>yI (hF k h) hk.size) hsz hl1 hl2
 have HBO:Hid (r=true -> ∀ W,Keeps zA w W -> Calls Tryz.prog 56 #[.agg #[.slice uca cs.length ucc, .int .i64 mu, .slice uta bs.length utc]] W fun e w'=>∃ z1 z2,e=.returned (.tuple #[z1,z2]) /\ zQ w' (fun _=>True) 10 (unS bs) z1 /\ zQ w' (fun _=>True) 10 (unW bs) z2 /\ Keeps zA W w'):=fun hr1 W hk=>zLL cs mu bs W F uca uta ucc utc (hbd.keeps hk (fun _ _ h=>h)) (zDO (u:=⟨cs,mu,bs⟩) (hr.symm.trans hr1)) hsz hl2
 have HDL:Hid (r=true -> ∀ m,m <= unW bs+1 -> (dig 10 m).length <= 12000000000):=fun hr1 m hm=>zHf (by decide) (zDO (u:=⟨cs,mu,bs⟩) (hr.symm.trans hr1)) hsz hl2 hm
 have HSW:Hid (unS bs <= unW bs):=zGC bs;clear hcs hbd hF hsz hl1 hl2 hr;go_enter Tryz.func19,Tryz.ntmps19
 go_upto_region 1 with fail
 obtain ⟨b1,hb1⟩:=eX w.heap.size;have hr1:zC (w.alloc (.cells #[.slice uca cs.length ucc, .int .i64 mu, .slice uta bs.length utc] 25)) b1 [.slice uca cs.length ucc, .int .i64 mu, .slice uta bs.length utc]:=J186 _;have hk1:Keeps zA w (w.alloc (.cells #[.slice uca cs.length ucc, .int .i64 mu, .slice uta bs.length utc] 25)):=(yC _ _).alloc _;rw [<- hb1];generalize w.alloc (.cells #[.slice uca cs.length ucc, .int .i64 mu, .slice uta bs.length utc] 25)=w1 at hr1 hk1 ⊢;have R1:=yB hr1;have K1:=yB hk1;obtain ⟨y0,y1,y2⟩:=hr1.three;clear hr1 hk1 hb1;generalize cs.length=n0 at y0 R1 HRT HBO;generalize bs.length=n2 at y2 R1 HRT HBO;go_upto_region 2 with (go_at_call 55;refine (HRT.out _ K1.out).mono ?_;rintro e w2 ⟨rfl,g2⟩;have c:=(R1.out.keeps g2 (fun h=>h)).three;clear y0 y1 y2;obtain ⟨y0,y1,y2⟩:=c;have K2:Hid (Keeps zA w w2):=K1.out.zB g2;clear g2)
 clear HR;cases r
 ·go_wp2_with fail
  go_ret
  exact ⟨by rw [HV.out];rfl,K2.out⟩
 ·have HBO2:=yB (HBO.out rfl)
  have HDL2:=yB (HDL.out rfl);clear HBO HDL;go_upto_region 5 with (go_at_call 56;refine (HBO2.out _ K2.out).mono ?_;rintro e w3 ⟨z1,z2,rfl,n1,n2,g3⟩;have N1:=yB n1;have N2:=yB n2;have K3:Hid (Keeps zA w w3):=K2.out.zB g3;clear n1 n2 g3)
  go_upto_region 6 with (first
   | (go_at_call 58;refine (zFh 61 (by decide) _).mono ?_;rintro e w4 ⟨z4,rfl,n4,g4⟩;have N4:=yB n4;have G4:=yB g4;clear g4 n4)
   | (go_at_call 57;refine (zLv (F:=fun _=>True) (N1.out.zD G4.out) (N4.out.mono (fun _ _=>trivial)) (by have:=HDL2.out (unS bs) (by have:=HSW.out;omega);omega) (by have h:=zDL (b:=10) (n:=61) (i:=2) (by decide) (by decide);omega)).mono ?_;rintro e w5 ⟨rfl,g5⟩;have G5:Hid (Keeps zA w3 w5):=G4.out.zB g5;have N25:=yB (N2.out.zD G5.out);have K5:=yB (K3.out.zB G5.out);clear g5))
  go_upto_region 7 with (first
   | (go_at_call 58;refine (zFh 10001 (by decide) _).mono ?_;rintro e w6 ⟨z6,rfl,n6,g6⟩;have N6:=yB n6;have G6:=yB g6;clear g6 n6)
   | (go_at_call 57;refine (zLv (F:=fun _=>True) (N25.out.zD G6.out) (N6.out.mono (fun _ _=>trivial)) (by have:=HDL2.out (unW bs) (by omega);omega) (by have h:=zDL (b:=10) (n:=10001) (i:=5) (by decide) (by decide);omega)).mono ?_;rintro e w7 ⟨rfl,g7⟩;have K7:Hid (Keeps zA w w7):=K5.out.zB (G6.out.zB g7);clear g7))
  have hE:∃ a b,a=decide (unS bs < 61) /\ b=decide (unW bs < 10001):=⟨_,_,rfl,rfl⟩
  obtain ⟨a,b,ha,hb⟩:=hE
  have HVV:Hid (v=if a then (if b then 0 else 71) else 70):=by
   show _=_
   rw [HV.out,ha,hb];unfold zCq;by_cases h1:unS bs < 61
   ·by_cases h2:unW bs < 10001
    ·simp [h1,h2,show ¬ 60 < unS bs by omega,show ¬ 10000 < unW bs by omega]
    ·simp [h1,h2,show ¬ 60 < unS bs by omega,show 10000 < unW bs by omega]
   ·simp [h1,show 60 < unS bs by omega]
  rw [<- ha,<- hb];clear ha hb;cases a
  ·exact J120 _
  ·cases b
   ·exact J120 _
   ·exact J120 _
theorem zK1 {u:Un} (h:zX u=true):u.threads.length <= 8:=by
 rcases xR 8 u.threads.length with h1 | h1
 ·rw [zFG (fun hh=>by have:=hh.2.1;omega)] at h;cases h
 ·exact h1
theorem zIo (a b:Option Addr) (l1 c1 l2 c2:Nat) (w:World):(Instr.field 130 (.agg #[.slice a l1 c1, .slice b l2 c2]) 0).run Tryz.prog w=.ok (.slice a l1 c1) w:=by
 simp [Instr.field,asAgg,go_sem,underlying,Tryz.underlying130]
theorem zI8 (a b:Option Addr) (l1 c1 l2 c2:Nat) (w:World):(Instr.field 130 (.agg #[.slice a l1 c1, .slice b l2 c2]) 1).run Tryz.prog w=.ok (.slice b l2 c2) w:=by
 simp [Instr.field,asAgg,go_sem,underlying,Tryz.underlying130]
theorem zFe (cs:List Int) (mu:Int) (bs:List Bd) (w:World) (F:Nat -> Prop) (uca uta:Option Addr) (ucc utc:Nat) (hcs:zAf w F cs uca) (hbd:zAk w F bs uta) (hF:∀ k,F k -> k < w.heap.size) (hkd:∀ b,b ∈ bs -> Ac.zBl b.acts) (hsz:zAy bs < 900000000) (hl1:cs.length < 1000000000) (hl2:bs.length < 1000000000) :
 Calls Tryz.prog 31 #[.agg #[.slice uca cs.length ucc, .int .i64 mu, .slice uta bs.length utc]] w fun e w'=>e=.returned (.int .i64 (zCq (zX ⟨cs,mu,bs⟩) (unS bs) (unW bs))) /\ Keeps zA w w':=by
 obtain ⟨v,hv⟩:=eX (zCq (zX ⟨cs,mu,bs⟩) (unS bs) (unW bs));rw [<- hv];obtain ⟨r,hr⟩:=eX (zX ⟨cs,mu,bs⟩);have HR:=yB hr;rw [<- hr] at hv;have HV:=yB hv;clear hv;have HRT:Hid (∀ W,Keeps zA w W -> Calls Tryz.prog 66 #[.agg #[.slice uca cs.length ucc, .int .i64 mu, .slice uta bs.length utc]] W fun e w'=>e=.returned (.bool r) /\ Keeps zA W w'):=fun W hk=>hr ▸ zFn cs mu bs W F uca uta ucc utc (hcs.keeps hk (fun _ _ h=>h)) (hbd.keeps hk (fun _ _ h=>h)) (fun k h=>yI (hF k h) hk.size) hkd hsz hl1 hl2
 have HBO:Hid (r=true -> ∀ W,Keeps zA w W -> Calls Tryz.prog 67 #[.agg #[.slice uca cs.length ucc, .int .i64 mu, .slice uta bs.length utc]] W fun e w'=>∃ z1 z2,e=.returned (.agg #[z1,z2]) /\ zQ w' (fun _=>True) 1000000000 (unS bs) z1 /\ zQ w' (fun _=>True) 1000000000 (unW bs) z2 /\ Keeps zA W w'):=fun hr1 W hk=>zKN cs mu bs W F uca uta ucc utc (hbd.keeps hk (fun _ _ h=>h)) (fun k h=>yI (hF k h) hk.size) (zDO (u:=⟨cs,mu,bs⟩) (hr.symm.trans hr1)) hsz hl2
 have HDL:Hid (r=true -> ∀ m,m <= unW bs+1 -> (dig 1000000000 m).length <= 10000000000):=fun hr1 m hm=>yX (zLP (by decide) (zDO (u:=⟨cs,mu,bs⟩) (hr.symm.trans hr1)) hsz (zK1 (u:=⟨cs,mu,bs⟩) (hr.symm.trans hr1)) hm) (by decide)
 have HSW:Hid (unS bs <= unW bs):=zGC bs;clear hcs hbd hF hsz hl1 hl2 hr hkd;go_enter Tryz.func31,Tryz.ntmps31
 go_upto_region 1 with fail
 obtain ⟨b1,hb1⟩:=eX w.heap.size;have hr1:zC (w.alloc (.cells #[.slice uca cs.length ucc, .int .i64 mu, .slice uta bs.length utc] 25)) b1 [.slice uca cs.length ucc, .int .i64 mu, .slice uta bs.length utc]:=J186 _;have hk1:Keeps zA w (w.alloc (.cells #[.slice uca cs.length ucc, .int .i64 mu, .slice uta bs.length utc] 25)):=(yC _ _).alloc _;rw [<- hb1];generalize w.alloc (.cells #[.slice uca cs.length ucc, .int .i64 mu, .slice uta bs.length utc] 25)=w1 at hr1 hk1 ⊢;have R1:=yB hr1;have K1:=yB hk1;obtain ⟨y0,y1,y2⟩:=hr1.three;clear hr1 hk1 hb1;generalize cs.length=n0 at y0 R1 HRT HBO;generalize bs.length=n2 at y2 R1 HRT HBO;clear HR;cases r
 ·go_wp2_with (go_at_call 66;refine (HRT.out _ K1.out).mono ?_;rintro e w2 ⟨rfl,g2⟩;have c:=(R1.out.keeps g2 (fun h=>h)).three;clear y0 y1 y2;obtain ⟨y0,y1,y2⟩:=c;have K2:Hid (Keeps zA w w2):=K1.out.zB g2;clear g2)
  go_ret
  exact ⟨by rw [HV.out];rfl,K2.out⟩
 ·have HBO2:=yB (HBO.out rfl)
  have HDL2:=yB (HDL.out rfl);clear HBO HDL;go_upto_region 3 with (go_at_call 66;refine (HRT.out _ K1.out).mono ?_;rintro e w2 ⟨rfl,g2⟩;have c:=(R1.out.keeps g2 (fun h=>h)).three;clear y0 y1 y2;obtain ⟨y0,y1,y2⟩:=c;have K2:Hid (Keeps zA w w2):=K1.out.zB g2;clear g2)
  obtain ⟨a,ha⟩:=eX (decide (60 < unS bs));obtain ⟨b,hb⟩:=eX (decide (10000 < unW bs))
  have HVV:Hid (v=if a then 70 else (if b then 71 else 0)):=by
   show _=_
   rw [HV.out,ha,hb];unfold zCq;by_cases h1:60 < unS bs
   ·simp [h1]
   ·by_cases h2:10000 < unW bs
    ·simp [h1,h2]
    ·simp [h1,h2]
  have HAB:=yB (fun (W:World) (k:Nat) (v u:Value) (F:Nat -> Prop) (hk:k <= unW bs) (h1:zQ W F 1000000000 k v) (h2:zQ W F 1000000000 60 u)=>zK5 h1 h2 (by have:=HDL2.out k (by omega);omega) (by have h:=zDL (b:=1000000000) (n:=60) (i:=1) (by decide) (by decide);omega));have HAC:=yB (fun (W:World) (k:Nat) (v u:Value) (F:Nat -> Prop) (hk:k <= unW bs) (h1:zQ W F 1000000000 k v) (h2:zQ W F 1000000000 10000 u)=>zK5 h1 h2 (by have:=HDL2.out k (by omega);omega) (by have h:=zDL (b:=1000000000) (n:=10000) (i:=1) (by decide) (by decide);omega));have HA:=yB ha;have HB:=yB hb;clear ha hb HV HDL2;go_upto_region 4 with (go_at_call 67;refine (HBO2.out _ K2.out).mono ?_;rintro e w3 ⟨z1,z2,rfl,n1,n2,g3⟩;have N1:=yB n1;have N2:=yB n2;obtain ⟨p1,r1,rfl,_⟩:=n1;generalize (dig 1000000000 (unS bs)).length=q1 at N1 ⊢;obtain ⟨p2,r2,rfl,_⟩:=n2;generalize (dig 1000000000 (unW bs)).length=q2 at N2 ⊢;have K3:Hid (Keeps zA w w3):=K2.out.zB g3;have hfl:=zIo p1 p2 q1 r1 q2 r2 w3;have hfm:=zI8 p1 p2 q1 r1 q2 r2 w3;clear g3)
  obtain ⟨b3,hb3⟩:=eX w3.heap.size;have hr3:zC (w3.alloc (.cells #[.slice p1 q1 r1, .slice p2 q2 r2] 130)) b3 [.slice p1 q1 r1, .slice p2 q2 r2]:=by rw [hb3];exact yN (yK w3 _)
  have hk3:Keeps zA w3 (w3.alloc (.cells #[.slice p1 q1 r1, .slice p2 q2 r2] 130)):=(yC _ _).alloc _;rw [<- hb3];generalize w3.alloc (.cells #[.slice p1 q1 r1, .slice p2 q2 r2] 130)=w4 at hr3 hk3 ⊢;have R3:=yB hr3;have K4:Hid (Keeps zA w w4):=K3.out.zB hk3;have N14:=yB (N1.out.zD hk3);have N24:=yB (N2.out.zD hk3);clear hr3 hk3 hb3 N1 N2 K3 y0 y1 y2 HRT HBO2
  refine zL 4 (by kernel_rfl) (by kernel_rfl) (Keeps zA) (yC zA) (fun a b c h h'=>xE h h') (zAH [some (.pointer (some ⟨b3,0,none⟩)),some (.slice p1 q1 r1)] (fun j v W=>match j with
   | 2=>zQ W (fun _=>True) 1000000000 60 v
   | _=>v=.bool (decide (60 < unS bs)))) (uG (fun j v W W' h hk=>by
     revert h
     split
     ·exact fun h=>h.zD hk
     ·exact fun h=>h)) ?_ ?_
  ·intro q oo hq ho vs W Q' hR0 hd hK
   have hR:Keeps zA w4 W:=((yC zA w4).drew).zB hR0;obtain ⟨y0,y1⟩:=(R3.out.keeps (hR) (fun h=>h)).two;have NW:=yB (N14.out.zD hR);clear hR hR0;rcases (show q=0 \/ q=1 \/ q=2 \/ q=3 by omega) with rfl | rfl | rfl | rfl
   all_goals (simp only [yD,yE,yO] at ho;subst ho;simp only [zJ,yD,yE,yL,Option.bind,Act.put,yF,yG,yH] at hK ⊢;clear hq)
   ·exact J3 _
   ·exact J150 _
   ·clear hd
    go_wp2_with (go_at_call 69;refine (zFO 60 (by decide) _).mono ?_;rintro e W1 ⟨z,rfl,n1,g1⟩)
    exact J50 _
   ·have e1:vs 1=_:=hd 1 (by kernel_rfl)
    obtain ⟨z2,e2,h2⟩:∃ z,vs 2=z /\ zQ W (fun _=>True) 1000000000 60 z:=⟨_,rfl,hd 2 (by kernel_rfl)⟩
    have H2:=yB h2;rw [e1,e2] at hK ⊢;clear h2;clear hd;go_wp2_with (go_at_call 68;refine (HAB.out W _ _ _ (fun _=>True) (by have:=HSW.out;omega) NW.out H2.out).mono ?_;rintro e W1 ⟨rfl,rfl⟩)
    exact hK _ _ (yC _ _) rfl
  ·intro vs W4 hR0 hF
   have hR:Keeps zA w4 W4:=((yC zA w4).drew).zB hR0;have K4':Hid (Keeps zA w W4):=K4.out.zB hR;have e3:vs 3=_:=(hF 3 (by decide):vs 3=.bool (decide (60 < unS bs)));simp only [zJ,yD,yE,yL,Option.bind,Act.put,yF,yG,yH,yS,yR];rw [e3];clear hF e3;generalize vs 0=y0;generalize vs 1=y1;generalize vs 2=y2;rw [<- HA.out];have R34:=yB (R3.out.keeps hR (fun h=>h));have N25:=yB (N24.out.zD hR);clear hR hR0 HA N14 N24 HAB R3;cases a
   ·go_upto_region 6 with fail
    refine zL 4 (by kernel_rfl) (by kernel_rfl) (Keeps zA) (yC zA) (fun a b c h h'=>xE h h') (zAH [some (.pointer (some ⟨b3,1,none⟩)),some (.slice p2 q2 r2)] (fun j v W=>match j with
     | 2=>zQ W (fun _=>True) 1000000000 10000 v
     | _=>v=.bool (decide (10000 < unW bs)))) (uG (fun j v W W' h hk=>by
       revert h
       split
       ·exact fun h=>h.zD hk
       ·exact fun h=>h)) ?_ ?_
    ·intro q oo hq ho vs W Q' hR0 hd hK
     have hR:Keeps zA W4 W:=((yC zA W4).drew).zB hR0;obtain ⟨y0,y1⟩:=(R34.out.keeps (hR) (fun h=>h)).two;have NW:=yB (N25.out.zD hR);clear hR hR0;rcases (show q=0 \/ q=1 \/ q=2 \/ q=3 by omega) with rfl | rfl | rfl | rfl
     all_goals (simp only [yD,yE,yO] at ho;subst ho;simp only [zJ,yD,yE,yL,Option.bind,Act.put,yF,yG,yH] at hK ⊢;clear hq)
     ·exact J3 _
     ·exact J150 _
     ·clear hd
      go_wp2_with (go_at_call 69;refine (zFO 10000 (by decide) _).mono ?_;rintro e W1 ⟨z,rfl,n1,g1⟩)
      exact J50 _
     ·have e1:vs 1=_:=hd 1 (by kernel_rfl)
      obtain ⟨z2,e2,h2⟩:∃ z,vs 2=z /\ zQ W (fun _=>True) 1000000000 10000 z:=⟨_,rfl,hd 2 (by kernel_rfl)⟩
      have H2:=yB h2;rw [e1,e2] at hK ⊢;clear h2;clear hd;go_wp2_with (go_at_call 68;refine (HAC.out W _ _ _ (fun _=>True) (yV _) NW.out H2.out).mono ?_;rintro e W1 ⟨rfl,rfl⟩)
      exact hK _ _ (yC _ _) rfl
    ·intro vs W6 hR0 hF
     have hR:Keeps zA W4 W6:=((yC zA W4).drew).zB hR0;have K6':Hid (Keeps zA w W6):=K4'.out.zB hR;have e3:vs 3=_:=(hF 3 (by decide):vs 3=.bool (decide (10000 < unW bs)));simp only [zJ,yD,yE,yL,Option.bind,Act.put,yF,yG,yH,yS,yR];rw [e3];clear hF e3;generalize vs 0=y0;generalize vs 1=y1;generalize vs 2=y2;rw [<- HB.out];clear hR hR0 HB;cases b
     ·go_wp2_with fail
      go_ret
      exact ⟨by rw [HVV.out];rfl,K6'.out⟩
     ·go_wp2_with fail
      go_ret
      exact ⟨by rw [HVV.out];rfl,K6'.out⟩
   ·go_wp2_with fail
    go_ret
    exact ⟨by rw [HVV.out];rfl,K4'.out⟩
end Go.Proofs.YtfokdllgnblamaaGreatDoor
