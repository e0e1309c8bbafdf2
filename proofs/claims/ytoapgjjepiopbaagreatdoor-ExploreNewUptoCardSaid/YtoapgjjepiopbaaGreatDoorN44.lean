/- Layer N: texts joined. -/
import Derived.Test.YtoapgjjepiopbaaGreatDoorN43
set_option linter.all false
set_option maxHeartbeats 4000000
set_option maxRecDepth 8000
namespace Go.Proofs.YtoapgjjepiopbaaGreatDoor
open Go.RowKit
theorem J189 (P:Prop) (h:P:=by obtain ⟨z,e,hz,h0⟩:=h;exact ⟨z,e,hz,h0.keeps hk (fun h=>h)⟩):P:=h
theorem J201 (P:Prop) (h:P:=by have e':q=bz:=e;have:=HB1.out;omega):P:=h
theorem J217 (P:Prop) (h:P:=by simp [results,Tryz.results178,go_sem,rq.cell (k:=0) rfl,rq.cell (k:=1) rfl]):P:=h
theorem zL9 {cs:List Int} {mu:Int} {bs:List Bd} {w:World} {F:Nat -> Prop} {uca uta:Option Addr} (ucc utc:Nat) (h:zCN w F cs bs uca uta) (hr:newR ⟨cs,mu,bs⟩ ≠ 0):Calls Tryz.prog 12 #[.agg #[.slice uca cs.length ucc, .int .i64 mu, .slice uta bs.length utc]] w fun e w'=>e=.returned (.tuple #[.pointer none, .int .i64 (newR ⟨cs,mu,bs⟩)]) /\ Keeps zA w w':=by
 obtain ⟨rv,hrv⟩:=eX (newR ⟨cs,mu,bs⟩);rw [<- hrv] at hr ⊢;obtain ⟨nc,hnc⟩:=eX cs.length;obtain ⟨nb,hnb⟩:=eX bs.length
 have HWI:Hid (∀ W,Keeps zA w W -> Calls Tryz.prog 6 #[.agg #[.slice uca nc ucc, .int .i64 mu, .slice uta nb utc]] W fun e w'=>e=.returned (.int .i64 rv) /\ Keeps zA W w'):=fun W hk=>by
  rw [hnc,hnb,hrv];exact (h.zD hk).within
 rw [<- hnc,<- hnb];have hb:(rv != 0)=true:=by simpa using hr
 clear h hr hrv hnc hnb;go_enter Tryz.func12,Tryz.ntmps12
 go_upto_region 1 with fail
 obtain ⟨b1,w1,e1,e2,R1,K1,_⟩:=newRow w [.slice uca nc ucc, .int .i64 mu, .slice uta nb utc] 25;rw [e1,e2];have y:=R1.zAo;have HK1:Hid (Keeps zA w w1):=K1;have HR1:=Lib.hid R1;have k1:=zH w1;clear e1 e2 R1 K1;go_upto_region 2 with (go_at_call 6;refine (HWI.out _ HK1.out).mono ?_;rintro e w2 ⟨rfl,g2⟩;have HK2:=Lib.hid (HK1.out.zB g2);have HR2:=Lib.hid (HR1.out.keeps g2 (fun h=>h));clear g2 y k1)
 go_wp2_with fail
 go_ret2
 exact ⟨rfl,HK2.out⟩
theorem zLW {cs:List Int} {mu:Int} {bs:List Bd} {w:World} {F:Nat -> Prop} {uca uta:Option Addr} (ucc utc:Nat) (h:zCN w F cs bs uca uta) (hr:newR ⟨cs,mu,bs⟩ ≠ 0):Calls Tryz.prog 13 #[.agg #[.slice uca cs.length ucc, .int .i64 mu, .slice uta bs.length utc]] w fun e w'=>e=.returned (.tuple #[.pointer none, .int .i64 (newR ⟨cs,mu,bs⟩)]) /\ Keeps zA w w':=by
 obtain ⟨rv,hrv⟩:=eX (newR ⟨cs,mu,bs⟩);rw [<- hrv] at hr ⊢;obtain ⟨nc,hnc⟩:=eX cs.length;obtain ⟨nb,hnb⟩:=eX bs.length
 have HWI:Hid (∀ W,Keeps zA w W -> Calls Tryz.prog 7 #[.agg #[.slice uca nc ucc, .int .i64 mu, .slice uta nb utc]] W fun e w'=>e=.returned (.int .i64 rv) /\ Keeps zA W w'):=fun W hk=>by
  rw [hnc,hnb,hrv];exact (h.zD hk).zIf
 rw [<- hnc,<- hnb];have hb:(rv != 0)=true:=by simpa using hr
 clear h hr hrv hnc hnb;go_enter Tryz.func13,Tryz.ntmps13
 go_upto_region 1 with fail
 obtain ⟨b1,w1,e1,e2,R1,K1,_⟩:=newRow w [.slice uca nc ucc, .int .i64 mu, .slice uta nb utc] 25;rw [e1,e2];have y:=R1.zAo;have HK1:Hid (Keeps zA w w1):=K1;have HR1:=Lib.hid R1;have k1:=zH w1;clear e1 e2 R1 K1;go_upto_region 2 with (go_at_call 7;refine (HWI.out _ HK1.out).mono ?_;rintro e w2 ⟨rfl,g2⟩;have HK2:=Lib.hid (HK1.out.zB g2);have HR2:=Lib.hid (HR1.out.keeps g2 (fun h=>h));clear g2 y k1)
 go_wp2_with fail
 go_ret2
 exact ⟨rfl,HK2.out⟩
theorem zIw {cs:List Int} {mu:Int} {bs:List Bd} {w:World} {F:Nat -> Prop} {uca uta:Option Addr} (ucc utc:Nat) (h:zCN w F cs bs uca uta) (hr:newR ⟨cs,mu,bs⟩=0):Calls Tryz.prog 12 #[.agg #[.slice uca cs.length ucc, .int .i64 mu, .slice uta bs.length utc]] w fun e w'=>∃ bx gs nc nb ca ta tc,e=.returned (.tuple #[(.pointer (some ⟨bx,0,none⟩)), .int .i64 0]) /\ zC w' bx [.slice ca nc nc, .int .i64 mu, .slice ta nb tc,(.pointer (some ⟨gs,0,none⟩)), .slice none 0 0, .func (.func 34) #[(.pointer (some ⟨bx,0,none⟩))] #[], .int .i64 1, .int .i64 0, .int .i64 0, .int .i64 0, .int .i64 0, .int .i64 0, .slice none 0 0, .slice none 0 0] /\ zP w' gs (.slice none 0 0) [] /\ (w.heap.size <= gs /\ gs < bx) /\ Keeps zA w w' /\ (bs=[⟨0,[]⟩] -> cs=[] -> nb=1 /\ nc=0 /\ ∃ gt ot gI,ta=some ⟨gt,ot,none⟩ /\ gt < gs /\ gI < gs /\ zC1 w' gt ot gI):=by
 obtain ⟨rv,hrv⟩:=eX (newR ⟨cs,mu,bs⟩);have hri:=zFM hr;obtain ⟨nc,hnc⟩:=eX cs.length;obtain ⟨nb,hnb⟩:=eX bs.length
 have HWI:Hid (∀ W,Keeps zA w W -> Calls Tryz.prog 6 #[.agg #[.slice uca nc ucc, .int .i64 mu, .slice uta nb utc]] W fun e w'=>e=.returned (.int .i64 rv) /\ Keeps zA W w'):=fun W hk=>by
  rw [hnc,hnb,hrv];exact (h.zD hk).within
 have HLO:Hid (∀ W,Keeps zA w W -> Calls Tryz.prog 32 #[.agg #[.slice uca nc ucc, .int .i64 mu, .slice uta nb utc]] W fun e w'=>∃ ca ta tc,e=.returned (.tuple #[.agg #[.slice ca nc nc, .int .i64 mu, .slice ta nb tc], .int .i64 0]) /\ Keeps zA W w' /\ (∀ rg,bs=[⟨rg,[]⟩] -> ∃ gI,zU w' (.slice ta 1 tc) 1 [.int .i64 rg, .slice (some ⟨gI,0,none⟩) 1 1] /\ zU w' (.slice (some ⟨gI,0,none⟩) 1 1) 1 [.int .i64 29, .int .i64 0, .int .i64 0, .int .i64 0])):=fun W hk=>by
  rw [hnc,hnb];exact zKa ucc utc (h.zD hk) hri
 rw [<- hrv] at hr;subst hr;have HNB:Hid (nb=bs.length):=hnb;have HNC:Hid (nc=cs.length):=hnc;rw [<- hnc,<- hnb];clear h hri hrv hnc hnb;have hmf:∀ (fn:Fn) (first cap:Array Value) (w:World),(Instr.makeFunc fn first cap).run Tryz.prog w=.ok (.func fn first cap) w:=fun _ _ _ _=>rfl
 go_enter Tryz.func12,Tryz.ntmps12
 go_upto_region 1 with fail
 obtain ⟨b1,w1,e1,e2,R1,K1,_⟩:=newRow w [.slice uca nc ucc, .int .i64 mu, .slice uta nb utc] 25;rw [e1,e2];have y:=R1.zAo;have HK1:Hid (Keeps zA w w1):=K1;have HR1:=Lib.hid R1;have k1:=zH w1;clear e1 e2 R1 K1;go_upto_region 2 with (go_at_call 6;refine (HWI.out _ HK1.out).mono ?_;rintro e w2 ⟨rfl,g2⟩;have HK2:=Lib.hid (HK1.out.zB g2);have HR2:=Lib.hid (HR1.out.keeps g2 (fun h=>h));clear g2 y k1)
 have y:=HR2.out.zAo;have k2:=zH w2;clear HR1 HK1;go_upto_region 5 with (go_at_call 32;refine (HLO.out _ HK2.out).mono ?_;rintro e w3 ⟨ca,ta,tc,rfl,g3,g4⟩;have HK3:=Lib.hid (HK2.out.zB g3);have HI3:=Lib.hid g4;clear g3 g4 y k2)
 obtain ⟨bi,w6,e1,e2,R6,K6,_⟩:=newRow w3 [.slice ca nc nc, .int .i64 mu, .slice ta nb tc] 78;rw [e1,e2];have y:=R6.zAo;have HK6:Hid (Keeps zA w w6):=HK3.out.zB K6
 have HI6:Hid (∀ rg,bs=[⟨rg,[]⟩] -> ∃ gI,zU w6 (.slice ta 1 tc) 1 [.int .i64 rg, .slice (some ⟨gI,0,none⟩) 1 1] /\ zU w6 (.slice (some ⟨gI,0,none⟩) 1 1) 1 [.int .i64 29, .int .i64 0, .int .i64 0, .int .i64 0]):=fun rg e=>by
  obtain ⟨gI,h1,h2⟩:=HI3.out rg e;exact ⟨gI,h1.zD K6,h2.zD K6⟩
 have k6:=zH w6;clear e1 e2 R6 K6 HK3 HI3 HK2 HR2;go_upto_region 7 with fail
 refine zAs 2 (by kernel_rfl) [some (.agg #[.slice ca nc nc, .int .i64 mu, .slice ta nb tc]),none] rfl (fun j v W=>∃ gs,v=.pointer (some ⟨gs,0,none⟩) /\ zP W gs (.slice none 0 0) [] /\ w6.heap.size <= gs) (fun j v W W' h hk=>by obtain ⟨gs,e,h1,h2⟩:=h;exact ⟨gs,e,h1.keeps hk (fun _ _ h=>h),h2⟩) ?_ ?_
 ·refine ⟨?_,?_,trivial⟩ <;> (intro vs gs W Q' hR hd hK;have HRW:Keeps zA w6 W:=((zH w6).drew).zB hR;simp only [zA1,zAg,zBQ,zJ,tz,Option.bind,Act.put] at hd hK ⊢;try simp only [hd] at hK ⊢)
  all_goals try (try clear hd;go_wp2_with (fail);first | exact hK _ _ (Keeps.refl _ _) rfl)
  ·clear hd
   go_wp2_with (go_at_call 33;refine (zHz W).mono ?_;rintro e W1 ⟨rfl,rfl⟩)
   exact hK _ _ ((Keeps.refl zA W).alloc _) ⟨_,rfl,zP.fresh W,HRW.size⟩
 ·intro vs W hR hFF
  have HRW:Keeps zA w6 W:=((zH w6).drew).zB hR;obtain ⟨gs,e8,S8,l8⟩:=(hFF 1 (by decide):∃ gs,vs 1=.pointer (some ⟨gs,0,none⟩) /\ zP W gs (.slice none 0 0) [] /\ w6.heap.size <= gs);have e0:vs 0=_:=hFF 0 (by decide);simp only [zJ,tz,Option.bind,Act.put];rw [e0,e8];have HSW:=Lib.hid S8;have HL8:Hid (w.heap.size <= gs /\ gs < W.heap.size /\ w6.heap.size <= gs):=⟨Nat.le_trans HK6.out.size l8,World.block_lt_of_cell? W _ S8.cell0,l8⟩;have HKW:Hid (Keeps zA w6 W):=HRW;clear hFF e0 e8 S8 l8 hR HRW y k6;go_upto_region 8 with fail
  obtain ⟨bx,w7,e1,e2,R7,K7,_⟩:=newRow W [.slice ca nc nc, .int .i64 mu, .slice ta nb tc,(.pointer (some ⟨gs,0,none⟩)), .slice none 0 0, .nilFunc, .int .i64 1, .int .i64 0, .int .i64 0, .int .i64 0, .int .i64 0, .int .i64 0, .slice none 0 0, .slice none 0 0] 87;rw [e1,e2];have HX:Hid (bx=W.heap.size):=e1.symm;have y5:=R7.cell (k:=5) rfl;have f5:=R7.free (k:=5) (by simp);have HR7:=Lib.hid R7;have HK7:=Lib.hid K7;clear e1 e2 R7 K7;go_upto_region 9 with fail
  have hrow:=HR7.out.set 5 (by simp) (.func (.func 34) #[(.pointer (some ⟨bx,0,none⟩))] #[]);have kS:Keeps (fun q=>q=bx) w7 (w7.setCell ⟨bx,5,none⟩ (.func (.func 34) #[(.pointer (some ⟨bx,0,none⟩))] #[])):=(Keeps.refl (fun q=>q=bx) w7).setCell (p:=⟨bx,5,none⟩) (fun _=>rfl) _;generalize w7.setCell ⟨bx,5,none⟩ (.func (.func 34) #[(.pointer (some ⟨bx,0,none⟩))] #[])=w8 at hrow kS ⊢;have HR8:=Lib.hid hrow;have HK8:Hid (Keeps zA W w8):=HK7.out.trans kS (fun q hq e=>by have e':q=bx:=e;have:=HX.out;omega);clear hrow kS y5 f5;go_wp2_with fail
  go_ret2
  refine ⟨bx,gs,nc,nb,ca,ta,tc,rfl,HR8.out,HSW.out.keeps HK8.out (fun _ _ h=>h),⟨HL8.out.1,by have:=HX.out;have:=HL8.out;omega⟩,(HK6.out.zB HKW.out).zB HK8.out,fun e ec=>⟨by have h0:=HNB.out;rw [e] at h0;exact h0,by have h0:=HNC.out;rw [ec] at h0;exact h0,?_⟩⟩
  obtain ⟨gI,h1,h2⟩:=HI6.out 0 e;have hk:=HKW.out.zB HK8.out;obtain ⟨ad,cap,e3,hs⟩:=h1;cases e3;obtain ⟨gt,ot,rfl,hc⟩:=hs (by decide);obtain ⟨ad,cap,e3,hs2⟩:=h2;cases e3;obtain ⟨gJ,oJ,e4,hd⟩:=hs2 (by decide);cases e4;have c0:=hc 0 _ rfl;have d0:=hd 0 _ rfl;have l0:=World.block_lt_of_cell? w6 _ c0;have l1:=World.block_lt_of_cell? w6 _ d0;have l2:=HL8.out.2.2;exact ⟨gt,ot,gI,rfl,Nat.lt_of_lt_of_le l0 l2,Nat.lt_of_lt_of_le l1 l2,zC1.zD ⟨c0,hc 1 _ rfl,d0,hd 1 _ rfl,hd 2 _ rfl,hd 3 _ rfl⟩ hk⟩
theorem zKQ {cs:List Int} {mu:Int} {bs:List Bd} {w:World} {F:Nat -> Prop} {uca uta:Option Addr} (ucc utc:Nat) (h:zCN w F cs bs uca uta) (hr:newR ⟨cs,mu,bs⟩=0):Calls Tryz.prog 13 #[.agg #[.slice uca cs.length ucc, .int .i64 mu, .slice uta bs.length utc]] w fun e w'=>∃ by' nc nb,e=.returned (.tuple #[(.pointer (some ⟨by',0,none⟩)), .int .i64 0]) /\ zC w' by' [.slice uca nc ucc, .int .i64 mu, .slice uta nb utc, .slice none 0 0, .slice none 0 0, .bool false, .int .i64 1, .int .i64 0, .int .i64 0, .int .i64 0, .int .i64 0, .int .i64 0, .slice none 0 0, .slice none 0 0] /\ Keeps zA w w':=by
 obtain ⟨rv,hrv⟩:=eX (newR ⟨cs,mu,bs⟩);have hri:=zFM hr;obtain ⟨nc,hnc⟩:=eX cs.length;obtain ⟨nb,hnb⟩:=eX bs.length
 have HWI:Hid (∀ W,Keeps zA w W -> Calls Tryz.prog 7 #[.agg #[.slice uca nc ucc, .int .i64 mu, .slice uta nb utc]] W fun e w'=>e=.returned (.int .i64 rv) /\ Keeps zA W w'):=fun W hk=>by
  rw [hnc,hnb,hrv];exact (h.zD hk).zIf
 have HLO:Hid (∀ W,Keeps zA w W -> Calls Tryz.prog 35 #[.agg #[.slice uca nc ucc, .int .i64 mu, .slice uta nb utc]] W fun e w'=>∃ ca cc ta tc,e=.returned (.tuple #[.agg #[.slice ca nc cc, .int .i64 mu, .slice ta nb tc], .int .i64 0]) /\ Keeps zA W w'):=fun W hk=>by
  rw [hnc,hnb];exact zJ1 ucc utc (h.zD hk) hri
 rw [<- hrv] at hr;subst hr;rw [<- hnc,<- hnb];clear h hri hrv hnc hnb;go_enter Tryz.func13,Tryz.ntmps13
 go_upto_region 1 with fail
 obtain ⟨b1,w1,e1,e2,R1,K1,_⟩:=newRow w [.slice uca nc ucc, .int .i64 mu, .slice uta nb utc] 25;rw [e1,e2];have y:=R1.zAo;have HK1:Hid (Keeps zA w w1):=K1;have HR1:=Lib.hid R1;have k1:=zH w1;clear e1 e2 R1 K1;go_upto_region 2 with (go_at_call 7;refine (HWI.out _ HK1.out).mono ?_;rintro e w2 ⟨rfl,g2⟩;have HK2:=Lib.hid (HK1.out.zB g2);have HR2:=Lib.hid (HR1.out.keeps g2 (fun h=>h));clear g2 y k1)
 have y:=HR2.out.zAo;have k2:=zH w2;clear HR1 HK1;go_upto_region 5 with (go_at_call 35;refine (HLO.out _ HK2.out).mono ?_;rintro e w3 ⟨ca,cc,ta,tc,rfl,g3⟩;have HK3:=Lib.hid (HK2.out.zB g3);have HR3:=Lib.hid (HR2.out.keeps g3 (fun h=>h));clear g3 y k2)
 obtain ⟨bi,w6,e1,e2,R6,K6,_⟩:=newRow w3 [.slice ca nc cc, .int .i64 mu, .slice ta nb tc] 78;rw [e1,e2];have HK6:Hid (Keeps zA w w6):=HK3.out.zB K6;have y:=(HR3.out.keeps K6 (fun h=>h)).zAo;have k6:=zH w6;clear e1 e2 R6 K6 HK3 HR3 HK2 HR2;go_upto_region 7 with fail
 go_wp2_with fail
 go_ret2
 obtain ⟨bx,w7,e1,e2,R7,K7,_⟩:=newRow w6 [.slice uca nc ucc, .int .i64 mu, .slice uta nb utc, .slice none 0 0, .slice none 0 0, .bool false, .int .i64 1, .int .i64 0, .int .i64 0, .int .i64 0, .int .i64 0, .int .i64 0, .slice none 0 0, .slice none 0 0] 90;exact ⟨bx,nc,nb,by rw [e1];rfl,by rw [e2];exact R7,by rw [e2];exact HK6.out.zB K7⟩
structure VmC (w:World) (b:Nat) (st:Int) (ca oa ra:Option Addr) (cc oc rc gc gi gf kc ki kf:Nat):Prop where
 row:zC w b [.slice ca 0 cc, .slice oa 0 oc, .slice (some ⟨gc,0,none⟩) 1 kc, .slice (some ⟨gf,0,none⟩) 1 kf]
 code:zC w gc [.slice (some ⟨gi,0,none⟩) 1 ki]
 ins:zC w gi [.int .i64 29, .int .i64 0, .int .i64 0, .int .i64 0]
 fr:zC w gf [.int .i64 st, .slice ra 0 rc, .int .i64 0]
 nb:gf ≠ b
 nc:gf ≠ gc
 ni:gf ≠ gi
theorem VmC.keeps {S:Nat -> Prop} {w':World} {w:World} {b gc gi gf:Nat} {ca oa ra:Option Addr} {cc oc rc kc ki kf:Nat} {st:Int} (h:VmC w b st ca oa ra cc oc rc gc gi gf kc ki kf) (hk:Keeps S w w') (h1:¬ S b) (h2:¬ S gc) (h3:¬ S gi) (h4:¬ S gf):VmC w' b st ca oa ra cc oc rc gc gi gf kc ki kf :=
 ⟨h.row.keeps hk h1,h.code.keeps hk h2,h.ins.keeps hk h3,h.fr.keeps hk h4,h.nb,h.nc,h.ni⟩
theorem VmC.zD {w':World} {w:World} {b gc gi gf:Nat} {ca oa ra:Option Addr} {cc oc rc kc ki kf:Nat} {st:Int} (h:VmC w b st ca oa ra cc oc rc gc gi gf kc ki kf) (hk:Keeps zA w w'):VmC w' b st ca oa ra cc oc rc gc gi gf kc ki kf:=h.keeps hk (fun h=>h) (fun h=>h) (fun h=>h) (fun h=>h)
theorem VmC.all {w:World} {b gc gi gf:Nat} {ca oa ra:Option Addr} {cc oc rc kc ki kf:Nat} {st:Int} (h:VmC w b st ca oa ra cc oc rc gc gi gf kc ki kf):∀ W,Keeps zA w W -> W.cell? ⟨b,0,none⟩=some (.slice ca 0 cc) /\ W.cell? ⟨b,1,none⟩=some (.slice oa 0 oc) /\ W.cell? ⟨b,2,none⟩=some (.slice (some ⟨gc,0,none⟩) 1 kc) /\ W.cell? ⟨b,3,none⟩=some (.slice (some ⟨gf,0,none⟩) 1 kf) /\ W.cell? ⟨gc,0,none⟩=some (.slice (some ⟨gi,0,none⟩) 1 ki) /\ W.cell? ⟨gi,0,none⟩=some (.int .i64 29) /\ W.cell? ⟨gi,1,none⟩=some (.int .i64 0) /\ W.cell? ⟨gi,2,none⟩=some (.int .i64 0) /\ W.cell? ⟨gi,3,none⟩=some (.int .i64 0) /\ W.cell? ⟨gf,0,none⟩=some (.int .i64 st) /\ W.cell? ⟨gf,1,none⟩=some (.slice ra 0 rc) /\ W.cell? ⟨gf,2,none⟩=some (.int .i64 0):=fun W q=>by
 have h:=h.zD q;exact ⟨h.row.cell (k:=0) rfl,h.row.cell (k:=1) rfl,h.row.cell (k:=2) rfl,h.row.cell (k:=3) rfl,h.code.cell (k:=0) rfl,h.ins.cell (k:=0) rfl,h.ins.cell (k:=1) rfl,h.ins.cell (k:=2) rfl,h.ins.cell (k:=3) rfl,h.fr.cell (k:=0) rfl,h.fr.cell (k:=1) rfl,h.fr.cell (k:=2) rfl⟩
theorem VmC.set {w:World} {b gc gi gf:Nat} {ca oa ra:Option Addr} {cc oc rc kc ki kf:Nat} {st:Int} (h:VmC w b st ca oa ra cc oc rc gc gi gf kc ki kf) (v:Int):VmC (w.setCell ⟨gf,0,none⟩ (.int .i64 v)) b v ca oa ra cc oc rc gc gi gf kc ki kf /\ Keeps (fun q=>q=gf) w (w.setCell ⟨gf,0,none⟩ (.int .i64 v)):=by
 have hk:Keeps (fun q=>q=gf) w (w.setCell ⟨gf,0,none⟩ (.int .i64 v)):=(Keeps.refl (fun q=>q=gf) w).setCell (p:=⟨gf,0,none⟩) (fun _=>rfl) _;exact ⟨⟨h.row.keeps hk (fun e=>h.nb e.symm),h.code.keeps hk (fun e=>h.nc e.symm),h.ins.keeps hk (fun e=>h.ni e.symm),h.fr.set 0 (by simp) _,h.nb,h.nc,h.ni⟩,hk⟩
theorem zMG (w:World):Calls Tryz.prog 210 #[.int .i64 29] w fun e w'=>e=.returned (.bool true) /\ w=w':=by
 go_enter Tryz.func210,Tryz.ntmps210
 exact J125 _
theorem zGt {w:World} {b gc gi gf:Nat} {ca oa ra:Option Addr} {cc oc rc kc ki kf:Nat} {st:Int} (h:VmC w b st ca oa ra cc oc rc gc gi gf kc ki kf) (hst:st=2 \/ st=3):Calls Tryz.prog 178 #[(.pointer (some ⟨b,0,none⟩)), .int .i64 0] w fun e w'=>e=.returned (.agg #[.int .i64 (if st=2 then 9 else 0), .int .i64 0]) /\ Keeps zA w w':=by
 have H:=Lib.hid h;clear h;go_enter Tryz.func178,Tryz.ntmps178
 go_upto_region 1 with fail
 obtain ⟨bz,w1,e1,e2,R1,K1,_⟩:=newRow w [.int .i64 0, .int .i64 0] 138;rw [e1,e2];have HB1:Hid (bz=w.heap.size):=e1.symm;have HR1:=Lib.hid R1;have HK1:=Lib.hid K1;have y:=(H.out.zD K1).all;have k1:=zH w1;clear e1 e2 R1 K1;go_upto_region 2 with fail
 obtain ⟨by_,w2,e1,e2,R2,K2,_⟩:=newRow w1 [.int .i64 st, .slice ra 0 rc, .int .i64 0] 276;rw [e1,e2];have HK2:Hid (Keeps zA w w2):=HK1.out.zB K2;have HRz:=Lib.hid (HR1.out.keeps K2 (fun h=>h));have HRy:=Lib.hid R2;clear e1 e2 R2 K2 y k1;have y:=(H.out.zD HK2.out).all;have u:=HRy.out.zAo;have k2:=zH w2;rcases hst with rfl | rfl
 ·go_upto_region 4 with fail
  refine zAs 12 (by kernel_rfl) [some ((.pointer (some ⟨b,0,none⟩))),some ((.pointer (some ⟨b,0,none⟩))),some ((.pointer (some ⟨b,2,none⟩))),some (.slice (some ⟨gc,0,none⟩) 1 kc),some (.int .i64 0),some ((.pointer (some ⟨gc,0,none⟩))),some (.slice (some ⟨gi,0,none⟩) 1 ki),some ((.pointer (some ⟨by_,2,none⟩))),some (.int .i64 0),some ((.pointer (some ⟨gi,0,none⟩))),some (.agg #[.int .i64 29, .int .i64 0, .int .i64 0, .int .i64 0]),none] rfl (fun j v W=>∃ z,v=.pointer (some ⟨z,0,none⟩) /\ w2.heap.size <= z /\ zC W z [.int .i64 0, .int .i64 0, .int .i64 0, .int .i64 0]) (fun j v W W' h hk=>by exact J189 _) ?_ ?_
  ·refine ⟨?_,?_,?_,?_,?_,?_,?_,?_,?_,?_,?_,?_,trivial⟩ <;> (intro vs gs W Q' hR hd hK;have HRW:Keeps zA w2 W:=((zH w2).drew).zB hR;simp only [zA1,zAg,zBQ,zJ,tz,Option.bind,Act.put] at hd hK ⊢;try simp only [hd] at hK ⊢)
   all_goals try (try clear hd;go_wp2_with (fail);first | exact hK _ _ (Keeps.refl _ _) rfl)
   ·exact J30 _
  ·intro vs W hR hFF
   have HRW:Keeps zA w2 W:=((zH w2).drew).zB hR;obtain ⟨z,e11,hz,rz⟩:=(hFF 11 (by decide):∃ z,vs 11=.pointer (some ⟨z,0,none⟩) /\ w2.heap.size <= z /\ zC W z [.int .i64 0, .int .i64 0, .int .i64 0, .int .i64 0]);have e10:vs 10=_:=hFF 10 (by decide);simp only [zJ,tz,Option.bind,Act.put];rw [e10,e11];have c0:=rz.cell (k:=0) rfl;have c1:=rz.cell (k:=1) rfl;have c2:=rz.cell (k:=2) rfl;have c3:=rz.cell (k:=3) rfl;have f0:=rz.free (k:=0) (by simp);have f1:=rz.free (k:=1) (by simp);have f2:=rz.free (k:=2) (by simp);have f3:=rz.free (k:=3) (by simp);have HsR:=Lib.hid rz;have HZ:Hid (w2.heap.size <= z /\ bz < w2.heap.size):=⟨hz,HRz.out.lt (by simp)⟩;have HKW:=Lib.hid HRW;clear hFF e10 e11 hR HRW y u k2 rz hz;go_upto_region 5 with fail
   have rs:zC ((((W.setCell ⟨z,0,none⟩ (.int .i64 29)).setCell ⟨z,1,none⟩ (.int .i64 0)).setCell ⟨z,2,none⟩ (.int .i64 0)).setCell ⟨z,3,none⟩ (.int .i64 0)) z [.int .i64 29, .int .i64 0, .int .i64 0, .int .i64 0]:=((((HsR.out.set 0 (by simp) (.int .i64 29)).set 1 (by simp) (.int .i64 0)).set 2 (by simp) (.int .i64 0)).set 3 (by simp) (.int .i64 0));have ks:Keeps (fun q=>q=z) W ((((W.setCell ⟨z,0,none⟩ (.int .i64 29)).setCell ⟨z,1,none⟩ (.int .i64 0)).setCell ⟨z,2,none⟩ (.int .i64 0)).setCell ⟨z,3,none⟩ (.int .i64 0)):=(((((Keeps.refl (fun q=>q=z) W).setCell (p:=⟨z,0,none⟩) (fun _=>rfl) (.int .i64 29)).setCell (p:=⟨z,1,none⟩) (fun _=>rfl) (.int .i64 0)).setCell (p:=⟨z,2,none⟩) (fun _=>rfl) (.int .i64 0)).setCell (p:=⟨z,3,none⟩) (fun _=>rfl) (.int .i64 0));generalize ((((W.setCell ⟨z,0,none⟩ (.int .i64 29)).setCell ⟨z,1,none⟩ (.int .i64 0)).setCell ⟨z,2,none⟩ (.int .i64 0)).setCell ⟨z,3,none⟩ (.int .i64 0))=w4 at rs ks ⊢;have HRA:=Lib.hid rs;have HK4:Hid (Keeps zA w w4):=(HK2.out.zB HKW.out).trans ks (fun q hq e=>by have e':q=z:=e;have:=HK2.out.size;have:=HZ.out.1;omega);have rq:=(HRz.out.keeps HKW.out (fun h=>h)).keeps ks (fun e=>by have e':bz=z:=e;have:=HZ.out;omega);have z0:=rq.cell (k:=0) rfl;have z1:=rq.cell (k:=1) rfl;have g0:=rq.free (k:=0) (by simp);have g1:=rq.free (k:=1) (by simp);have HqR:=Lib.hid rq;have y:=HRA.out.zAh;have k4:=zH w4;clear rs ks c0 c1 c2 c3 f0 f1 f2 f3 rq;go_wp2_with fail
   have rq:zC ((w4.setCell ⟨bz,0,none⟩ (.int .i64 9)).setCell ⟨bz,1,none⟩ (.int .i64 0)) bz [.int .i64 9, .int .i64 0]:=((HqR.out.set 0 (by simp) (.int .i64 9)).set 1 (by simp) (.int .i64 0));have kq:Keeps (fun q=>q=bz) w4 ((w4.setCell ⟨bz,0,none⟩ (.int .i64 9)).setCell ⟨bz,1,none⟩ (.int .i64 0)):=(((Keeps.refl (fun q=>q=bz) w4).setCell (p:=⟨bz,0,none⟩) (fun _=>rfl) (.int .i64 9)).setCell (p:=⟨bz,1,none⟩) (fun _=>rfl) (.int .i64 0));generalize ((w4.setCell ⟨bz,0,none⟩ (.int .i64 9)).setCell ⟨bz,1,none⟩ (.int .i64 0))=w5 at rq kq ⊢;refine bodyPost_ret (v:=.agg #[.int .i64 9, .int .i64 0]) (J217 _) rfl ?_
   exact ⟨rfl,HK4.out.trans kq (fun q hq e=>by exact J201 _)⟩
 ·have z0:=HRz.out.cell (k:=0) rfl
  have z1:=HRz.out.cell (k:=1) rfl;have g0:=HRz.out.free (k:=0) (by simp);have g1:=HRz.out.free (k:=1) (by simp);have HqR:=HRz;go_wp2_with fail
  have rq:zC ((w2.setCell ⟨bz,0,none⟩ (.int .i64 0)).setCell ⟨bz,1,none⟩ (.int .i64 0)) bz [.int .i64 0, .int .i64 0]:=((HqR.out.set 0 (by simp) (.int .i64 0)).set 1 (by simp) (.int .i64 0));have kq:Keeps (fun q=>q=bz) w2 ((w2.setCell ⟨bz,0,none⟩ (.int .i64 0)).setCell ⟨bz,1,none⟩ (.int .i64 0)):=(((Keeps.refl (fun q=>q=bz) w2).setCell (p:=⟨bz,0,none⟩) (fun _=>rfl) (.int .i64 0)).setCell (p:=⟨bz,1,none⟩) (fun _=>rfl) (.int .i64 0));generalize ((w2.setCell ⟨bz,0,none⟩ (.int .i64 0)).setCell ⟨bz,1,none⟩ (.int .i64 0))=w5 at rq kq ⊢;refine bodyPost_ret (v:=.agg #[.int .i64 0, .int .i64 0]) (J217 _) rfl ?_
  exact ⟨rfl,HK2.out.trans kq (fun q hq e=>by exact J201 _)⟩
theorem zE9 {w:World} {b gc gi gf:Nat} {ca oa ra:Option Addr} {cc oc rc kc ki kf:Nat} {st:Int} (h:VmC w b st ca oa ra cc oc rc gc gi gf kc ki kf) (hst:st=2 \/ st=3):Calls Tryz.prog 177 #[(.pointer (some ⟨b,0,none⟩)), .int .i64 0] w fun e w'=>e=.returned (.int .i64 (if st=2 then 0 else 81)) /\ Keeps zA w w':=by
 have HA:Hid (∀ W,Keeps zA w W -> Calls Tryz.prog 178 #[(.pointer (some ⟨b,0,none⟩)), .int .i64 0] W fun e w'=>e=.returned (.agg #[.int .i64 (if st=2 then 9 else 0), .int .i64 0]) /\ Keeps zA W w'):=fun W hk=>zGt (h.zD hk) hst
 have y:=h.all;have k0:=zH w;clear h;rcases hst with rfl | rfl
 ·go_enter Tryz.func177,Tryz.ntmps177
  go_upto_region 11 with (go_at_call 178;refine (HA.out _ (Keeps.refl _ _)).mono ?_;rintro e w1 ⟨rfl,h1⟩;have H1:=Lib.hid h1;clear h1 y k0)
  obtain ⟨b5,w2,e1,e2,R2,K2,_⟩:=newRow w1 [.int .i64 9, .int .i64 0] 138;try simp only [if_pos rfl]
  rw [e1,e2];have y:=R2.all2;have k2:=zH w2;have HK2:Hid (Keeps zA w w2):=H1.out.zB K2;clear e1 e2 R2 K2;go_quiet (fail)
  go_wp2_with fail
  go_quiet (fail)
  go_wp2_with fail
  go_ret
  refine ⟨rfl,?_⟩
  repeat (first | exact HK2.out | apply Keeps.drew | apply Keeps.drewN)
 ·go_enter Tryz.func177,Tryz.ntmps177
  exact J32 _
end Go.Proofs.YtoapgjjepiopbaaGreatDoor
