/- Layer N: texts joined. -/
import Derived.Test.YtoapgjjepiopbaaGreatDoorN44
set_option linter.all false
set_option maxHeartbeats 4000000
set_option maxRecDepth 8000
namespace Go.Proofs.YtoapgjjepiopbaaGreatDoor
open Go.RowKit
theorem J67 (P:Prop) (h:P:=by
 clear hd;rw [e4] at hK h1 ⊢;have HCN:=Lib.hid (zEg W ad 0 cap [] h1);clear h1;go_wp2_with (go_at_call 69;refine HCN.out.mono ?_;rintro e W2 ⟨rfl,rfl⟩)
 exact hK _ _ (Keeps.refl _ _) ⟨ad,rfl⟩):P:=h
theorem J71 (P:Prop) (h:P:=by
 clear hd;go_wp2_with (go_at_call 59;refine (zCm _ _ [] ⟨_,_,rfl,fun h=>absurd rfl h⟩ (by simp)).mono ?_;rintro e W2 ⟨ad,cap,rfl,g1,g2,g3⟩)
 exact hK _ _ g2 ⟨ad,cap,rfl,g1⟩):P:=h
theorem zC.zML {w:World} {g:Nat} {a b c d e:Value} (r:zC w g [a,b,c,d,e]):∀ W,Keeps zA w W -> W.cell? ⟨g,0,none⟩=some a /\ W.cell? ⟨g,1,none⟩=some b /\ W.cell? ⟨g,2,none⟩=some c /\ W.cell? ⟨g,3,none⟩=some d /\ W.cell? ⟨g,4,none⟩=some e:=fun W q=>by
 have r:=r.keeps q (fun h=>h);exact ⟨r.cell (k:=0) rfl,r.cell (k:=1) rfl,r.cell (k:=2) rfl,r.cell (k:=3) rfl,r.cell (k:=4) rfl⟩
theorem zN2 {w:World} {b gc gi gf:Nat} {ca oa ra:Option Addr} {cc oc rc kc ki kf:Nat} (h:VmC w b 2 ca oa ra cc oc rc gc gi gf kc ki kf):Calls Tryz.prog 180 #[(.pointer (some ⟨b,0,none⟩)), .int .i64 0] w fun e w'=>e=.returned (.tuple #[]) /\ Keeps zA w w':=by
 have y:=h.all;have k0:=zH w;clear h;go_enter Tryz.func180,Tryz.ntmps180
 go_wp2_with fail
 refine wp_loop_rounds 1 ?_
 rw [rounds_succ];go_upto_region 3 with fail
 refine zAs 14 (by kernel_rfl) [some ((.pointer (some ⟨b,0,none⟩))),some ((.pointer (some ⟨b,0,none⟩))),some ((.pointer (some ⟨b,2,none⟩))),some (.slice (some ⟨gc,0,none⟩) 1 kc),some (.int .i64 0),some ((.pointer (some ⟨gc,0,none⟩))),some (.slice (some ⟨gi,0,none⟩) 1 ki),some ((.pointer (some ⟨gf,0,none⟩))),some ((.pointer (some ⟨gf,0,none⟩))),some ((.pointer (some ⟨gf,2,none⟩))),some (.int .i64 0),some ((.pointer (some ⟨gi,0,none⟩))),some (.agg #[.int .i64 29, .int .i64 0, .int .i64 0, .int .i64 0]),none] rfl (fun j v W=>∃ z,v=.pointer (some ⟨z,0,none⟩) /\ w.heap.size <= z /\ zC W z [.int .i64 0, .int .i64 0, .int .i64 0, .int .i64 0]) (fun j v W W' h hk=>by exact J189 _) ?_ ?_
 ·refine ⟨?_,?_,?_,?_,?_,?_,?_,?_,?_,?_,?_,?_,?_,?_,trivial⟩ <;> (intro vs gs W Q' hR hd hK;have HRW:Keeps zA w W:=((zH w).drew).zB hR;simp only [zA1,zAg,zBQ,zJ,tz,Option.bind,Act.put] at hd hK ⊢;try simp only [hd] at hK ⊢)
  all_goals try (try clear hd;go_wp2_with (fail);first | exact hK _ _ (Keeps.refl _ _) rfl)
  ·exact J30 _
 ·intro vs W hR hFF
  have HRW:Keeps zA w W:=((zH w).drew).zB hR;obtain ⟨z,e11,hz,rz⟩:=(hFF 13 (by decide):∃ z,vs 13=.pointer (some ⟨z,0,none⟩) /\ w.heap.size <= z /\ zC W z [.int .i64 0, .int .i64 0, .int .i64 0, .int .i64 0]);have e10:vs 12=_:=hFF 12 (by decide);simp only [zJ,tz,Option.bind,Act.put];rw [e10,e11];have c0:=rz.cell (k:=0) rfl;have c1:=rz.cell (k:=1) rfl;have c2:=rz.cell (k:=2) rfl;have c3:=rz.cell (k:=3) rfl;have f0:=rz.free (k:=0) (by simp);have f1:=rz.free (k:=1) (by simp);have f2:=rz.free (k:=2) (by simp);have f3:=rz.free (k:=3) (by simp);have HsR:=Lib.hid rz;have HZ:Hid (w.heap.size <= z):=hz;have HKW:=Lib.hid HRW;clear hFF e10 e11 hR HRW y k0 rz hz;go_upto_region 4 with fail
  have rs:zC ((((W.setCell ⟨z,0,none⟩ (.int .i64 29)).setCell ⟨z,1,none⟩ (.int .i64 0)).setCell ⟨z,2,none⟩ (.int .i64 0)).setCell ⟨z,3,none⟩ (.int .i64 0)) z [.int .i64 29, .int .i64 0, .int .i64 0, .int .i64 0]:=((((HsR.out.set 0 (by simp) (.int .i64 29)).set 1 (by simp) (.int .i64 0)).set 2 (by simp) (.int .i64 0)).set 3 (by simp) (.int .i64 0));have ks:Keeps (fun q=>q=z) W ((((W.setCell ⟨z,0,none⟩ (.int .i64 29)).setCell ⟨z,1,none⟩ (.int .i64 0)).setCell ⟨z,2,none⟩ (.int .i64 0)).setCell ⟨z,3,none⟩ (.int .i64 0)):=(((((Keeps.refl (fun q=>q=z) W).setCell (p:=⟨z,0,none⟩) (fun _=>rfl) (.int .i64 29)).setCell (p:=⟨z,1,none⟩) (fun _=>rfl) (.int .i64 0)).setCell (p:=⟨z,2,none⟩) (fun _=>rfl) (.int .i64 0)).setCell (p:=⟨z,3,none⟩) (fun _=>rfl) (.int .i64 0));generalize ((((W.setCell ⟨z,0,none⟩ (.int .i64 29)).setCell ⟨z,1,none⟩ (.int .i64 0)).setCell ⟨z,2,none⟩ (.int .i64 0)).setCell ⟨z,3,none⟩ (.int .i64 0))=w4 at rs ks ⊢;have HK4:Hid (Keeps zA w w4):=HKW.out.trans ks (fun q hq e=>by have e':q=z:=e;have:=HZ.out;omega);have y:=rs.zAh;have k4:=zH w4;clear rs ks c0 c1 c2 c3 f0 f1 f2 f3;go_wp2_with (go_at_call 210;refine (zMG _).mono ?_;rintro e w' ⟨rfl,rfl⟩)
  go_returns
  exact ⟨rfl,HK4.out⟩
theorem zNu {w:World} {b gc gi gf:Nat} {ca oa ra:Option Addr} {cc oc rc kc ki kf:Nat} (h:VmC w b 1 ca oa ra cc oc rc gc gi gf kc ki kf):Calls Tryz.prog 176 #[(.pointer (some ⟨b,0,none⟩)), .int .i64 0] w fun e w'=>e=.returned (.tuple #[]) /\ VmC w' b 2 ca oa ra cc oc rc gc gi gf kc ki kf /\ Keeps (fun q=>q=gf) w w':=by
 have H:=Lib.hid h;have y:=h.all;have k0:=zH w;have c0:=h.fr.cell (k:=0) rfl;have f0:=h.fr.free (k:=0) (by simp);clear h;go_enter Tryz.func176,Tryz.ntmps176
 go_upto_region 1 with fail
 obtain ⟨h1,hk⟩:=H.out.set 2;generalize w.setCell ⟨gf,0,none⟩ (.int .i64 2)=w1 at h1 hk ⊢;have H1:=Lib.hid h1;have HK:=Lib.hid hk;clear h1 hk y k0 c0 f0;go_wp2_with (go_at_call 180;refine (zN2 H1.out).mono ?_;rintro e w2 ⟨rfl,g2⟩;have G2:=Lib.hid g2;clear g2)
 go_returns
 exact ⟨rfl,H1.out.zD G2.out,HK.out.trans G2.out (fun _ _ h=>h.elim)⟩
theorem zKy {w:World} {b gc gi gf:Nat} {ca oa ra:Option Addr} {cc oc rc kc ki kf:Nat} (h:VmC w b 3 ca oa ra cc oc rc gc gi gf kc ki kf):Calls Tryz.prog 120 #[(.pointer (some ⟨b,0,none⟩))] w fun e w'=>e=.returned (.slice none 0 0) /\ Keeps zA w w':=by
 have HR:Hid (∀ W,Keeps zA w W -> Calls Tryz.prog 177 #[(.pointer (some ⟨b,0,none⟩)), .int .i64 0] W fun e w'=>e=.returned (.int .i64 81) /\ Keeps zA W w'):=fun W hk=>zE9 (h.zD hk) (.inr rfl)
 have y:=h.all;have k0:=zH w;clear h;go_enter Tryz.func120,Tryz.ntmps120
 go_wp2_with fail
 refine wp_loop_rounds 2 ?_
 rw [rounds_succ];go_wp2_with (go_at_call 177;refine (HR.out _ (Keeps.refl _ _)).mono ?_;rintro e w1 ⟨rfl,g1⟩;have G1:=Lib.hid g1;clear g1 y k0)
 rw [rounds_succ];go_wp2_with fail
 go_ret
 exact ⟨rfl,G1.out⟩
theorem zLS {w:World} {b gc gi gf:Nat} {ca oa ra:Option Addr} {cc oc rc kc ki kf:Nat} (h:VmC w b 2 ca oa ra cc oc rc gc gi gf kc ki kf):Calls Tryz.prog 120 #[(.pointer (some ⟨b,0,none⟩))] w fun e w'=>∃ a c,e=.returned (.slice a 1 c) /\ zU w' (.slice a 1 c) 1 [.int .i64 0] /\ Keeps zA w w':=by
 have HR:Hid (∀ W,Keeps zA w W -> Calls Tryz.prog 177 #[(.pointer (some ⟨b,0,none⟩)), .int .i64 0] W fun e w'=>e=.returned (.int .i64 0) /\ Keeps zA W w'):=fun W hk=>zE9 (h.zD hk) (.inl rfl)
 have y:=h.all;have k0:=zH w;obtain ⟨i0,hi0,hz0,hz1,hz2⟩:=info_parts zA8;clear h;go_enter Tryz.func120,Tryz.ntmps120
 go_wp2_with fail
 refine wp_loop_rounds 2 ?_
 rw [rounds_succ];go_upto_region 6 with (go_at_call 177;refine (HR.out _ (Keeps.refl _ _)).mono ?_;rintro e w1 ⟨rfl,g1⟩;have G1:=Lib.hid g1;clear g1 y k0)
 go_upto_region 7 with (at_builtin;obtain ⟨g,w2,e1,e2,R2,K2,_⟩:=newRow w1 [.int .i64 0] 3;rw [e1,e2];have HR2:=Lib.hid R2;have HK2:Hid (Keeps zA w w2):=G1.out.zB K2;clear e1 e2 R2 K2;refine zI _ (by rfl) _ _ 22 (by rfl) 0 3 i0 _ 1 8 Tryz.underlying22 hi0 hz0 hz1 hz2 rfl (by decide) (.slice none 0 0) 0 [] (by rfl) (World.ownsRow_nil _ _ _ _) (.slice (some ⟨g,0,none⟩) 1 1) 1 [.int .i64 0] (by rfl) (zC.src HR2.out) rfl (by simp [Value.oneCell']) (by unfold maxLen;omega) (by omega) (Nat.zero_le _) ?_;intro ad cap w3 hout;have HO:=Lib.hid hout;clear hout)
 go_wp2_with fail
 rw [rounds_succ];go_wp2_with fail
 go_ret
 have ho:=HO.out.1;rw [Nat.zero_add,List.nil_append] at ho;exact ⟨ad,cap,by simp,(zBL.of (B:=0) ho (fun _ _=>Nat.zero_le _)).src,(zi.keeps HO.out HK2.out (fun q e _=>by exact J152 _))⟩
theorem step0 {w:World} {b gc gi gf:Nat} {ca oa ra:Option Addr} {cc oc rc kc ki kf:Nat} (h:VmC w b 2 ca oa ra cc oc rc gc gi gf kc ki kf):Calls Tryz.prog 118 #[(.pointer (some ⟨b,0,none⟩)), .int .i64 0] w fun e w'=>e=.returned (.tuple #[.agg #[.int .i64 0, .int .i64 9, .int .i64 0, .int .i64 0, .int .i64 0], .int .i64 0]) /\ VmC w' b 3 ca oa ra cc oc rc gc gi gf kc ki kf /\ Keeps (fun q=>q=gf) w w':=by
 have H:=Lib.hid h;clear h;go_enter Tryz.func118,Tryz.ntmps118
 go_upto_region 1 with fail
 obtain ⟨bz,w1,e1,e2,R1,K1,_⟩:=newRow w [.int .i64 0, .int .i64 0, .int .i64 0, .int .i64 0, .int .i64 0] 67;rw [e1,e2];have HB1:Hid (bz=w.heap.size /\ gf < w.heap.size):=⟨e1.symm,H.out.fr.lt (by simp)⟩;have HR1:=Lib.hid R1;have HK1:=Lib.hid K1;clear e1 e2 R1 K1;go_upto_region 4 with (go_at_call 177;refine (zE9 (H.out.zD HK1.out) (.inl rfl)).mono ?_;rintro e w2 ⟨rfl,g2⟩;have G2:=Lib.hid g2;clear g2)
 have HK2:Hid (Keeps zA w w2):=HK1.out.zB G2.out;have HRz:=Lib.hid (HR1.out.keeps G2.out (fun h=>h));have H2:=Lib.hid (H.out.zD HK2.out);have HA:Hid (∀ W,Keeps zA w2 W -> Calls Tryz.prog 178 #[(.pointer (some ⟨b,0,none⟩)), .int .i64 0] W fun e w'=>e=.returned (.agg #[.int .i64 9, .int .i64 0]) /\ Keeps zA W w'):=fun W hk=>zGt (H2.out.zD hk) (.inl rfl)
 have y:=H2.out.all;have k2:=zH w2;refine zAs 10 (by kernel_rfl) [some ((.pointer (some ⟨b,0,none⟩))),some ((.pointer (some ⟨b,0,none⟩))),some ((.pointer (some ⟨b,3,none⟩))),some (.slice (some ⟨gf,0,none⟩) 1 kf),some (.int .i64 0),some ((.pointer (some ⟨gf,0,none⟩))),some ((.pointer (some ⟨b,0,none⟩))),some (.int .i64 0),some (.agg #[.int .i64 9, .int .i64 0]),none] rfl (fun j v W=>∃ z,v=.pointer (some ⟨z,0,none⟩) /\ w2.heap.size <= z /\ zC W z [.int .i64 0, .int .i64 0]) (fun j v W W' h hk=>by exact J189 _) ?_ ?_
 ·refine ⟨?_,?_,?_,?_,?_,?_,?_,?_,?_,?_,trivial⟩ <;> (intro vs gs W Q' hR hd hK;have HRW:Keeps zA w2 W:=((zH w2).drew).zB hR;simp only [zA1,zAg,zBQ,zJ,tz,Option.bind,Act.put] at hd hK ⊢;try simp only [hd] at hK ⊢)
  all_goals try (try clear hd;go_wp2_with (go_at_call 178;refine (HA.out _ HRW).mono ?_;rintro e W1 ⟨rfl,g1⟩);first | exact hK _ _ (Keeps.refl _ _) rfl | exact hK _ _ g1 rfl)
  ·exact J30 _
 ·intro vs W hR hFF
  have HRW:Keeps zA w2 W:=((zH w2).drew).zB hR;obtain ⟨z,e9,hz,rz⟩:=(hFF 9 (by decide):∃ z,vs 9=.pointer (some ⟨z,0,none⟩) /\ w2.heap.size <= z /\ zC W z [.int .i64 0, .int .i64 0]);have e5:vs 5=_:=hFF 5 (by decide);have e8:vs 8=_:=hFF 8 (by decide);simp only [zJ,tz,Option.bind,Act.put];rw [e5,e8,e9];have c0:=rz.cell (k:=0) rfl;have c1:=rz.cell (k:=1) rfl;have f0:=rz.free (k:=0) (by simp);have f1:=rz.free (k:=1) (by simp);have HsR:=Lib.hid rz;have HZ:Hid (w2.heap.size <= z /\ bz < w2.heap.size):=⟨hz,HRz.out.lt (by simp)⟩;have HKW:=Lib.hid HRW;clear hFF e5 e8 e9 hR HRW y k2 rz hz;go_upto_region 5 with fail
  have rs:zC ((W.setCell ⟨z,0,none⟩ (.int .i64 9)).setCell ⟨z,1,none⟩ (.int .i64 0)) z [.int .i64 9, .int .i64 0]:=((HsR.out.set 0 (by simp) (.int .i64 9)).set 1 (by simp) (.int .i64 0));have ks:Keeps (fun q=>q=z) W ((W.setCell ⟨z,0,none⟩ (.int .i64 9)).setCell ⟨z,1,none⟩ (.int .i64 0)):=(((Keeps.refl (fun q=>q=z) W).setCell (p:=⟨z,0,none⟩) (fun _=>rfl) (.int .i64 9)).setCell (p:=⟨z,1,none⟩) (fun _=>rfl) (.int .i64 0));generalize ((W.setCell ⟨z,0,none⟩ (.int .i64 9)).setCell ⟨z,1,none⟩ (.int .i64 0))=w4 at rs ks ⊢;have HK4:Hid (Keeps zA w w4):=(HK2.out.zB HKW.out).trans ks (fun q hq e=>by have e':q=z:=e;have:=HK2.out.size;have:=HZ.out.1;omega);have HRz4:=Lib.hid ((HRz.out.keeps HKW.out (fun h=>h)).keeps ks (fun e=>by have e':bz=z:=e;have:=HZ.out;omega));have y:=rs.all2;have k4:=zH w4;clear rs ks c0 c1 f0 f1;go_upto_region 6 with fail
  obtain ⟨be,w5,e1,e2,R5,K5,_⟩:=newRow w4 [.int .i64 0, .int .i64 9, .int .i64 0, .int .i64 0, .int .i64 0] 67;rw [e1,e2];have HRe:=Lib.hid R5;have HBe:Hid (w4.heap.size=be):=e1;have H5:=Lib.hid (H.out.zD (HK4.out.zB K5));have HRz5:=Lib.hid (HRz4.out.keeps K5 (fun h=>h));have HK5:Hid (Keeps zA w w5):=HK4.out.zB K5;have y5:=y w5 K5;clear e1 e2 R5 K5 y k4;have ya:=HRe.out.zML;have yb:=H5.out.all;have ysx:=zL y5.1;have ysy:=zL y5.2;have k5:=zH w5;have c0:=H5.out.fr.cell (k:=0) rfl;have f0:=H5.out.fr.free (k:=0) (by simp);clear y5;go_upto_region 8 with fail
  obtain ⟨h6,hk6⟩:=H5.out.set 3;generalize w5.setCell ⟨gf,0,none⟩ (.int .i64 3)=w6 at h6 hk6 ⊢;have H6:=Lib.hid h6;have HK6:=Lib.hid hk6;have HNE:Hid (gf ≠ be /\ gf ≠ bz):=⟨by have h1:=HB1.out;have h2:=HBe.out;have h3:=HK4.out.size;omega,by have:=HB1.out;omega⟩;have re:=HRe.out.keeps hk6 (fun e=>HNE.out.1 (Eq.symm e));have rq:=HRz5.out.keeps hk6 (fun e=>HNE.out.2 (Eq.symm e));have y:=re.zML;have k6:=zH w6;have p0:=rq.cell (k:=0) rfl;have p1:=rq.cell (k:=1) rfl;have p2:=rq.cell (k:=2) rfl;have p3:=rq.cell (k:=3) rfl;have p4:=rq.cell (k:=4) rfl;have q0:=rq.free (k:=0) (by simp);have q1:=rq.free (k:=1) (by simp);have q2:=rq.free (k:=2) (by simp);have q3:=rq.free (k:=3) (by simp);have q4:=rq.free (k:=4) (by simp);have HqR:=Lib.hid rq;clear h6 hk6 re ya yb ysx ysy k5 c0 f0 rq;go_wp2_with fail
  have rq:zC (((((w6.setCell ⟨bz,0,none⟩ (.int .i64 0)).setCell ⟨bz,1,none⟩ (.int .i64 9)).setCell ⟨bz,2,none⟩ (.int .i64 0)).setCell ⟨bz,3,none⟩ (.int .i64 0)).setCell ⟨bz,4,none⟩ (.int .i64 0)) bz [.int .i64 0, .int .i64 9, .int .i64 0, .int .i64 0, .int .i64 0]:=(((((HqR.out.set 0 (by simp) (.int .i64 0)).set 1 (by simp) (.int .i64 9)).set 2 (by simp) (.int .i64 0)).set 3 (by simp) (.int .i64 0)).set 4 (by simp) (.int .i64 0));have kq:Keeps (fun q=>q=bz) w6 (((((w6.setCell ⟨bz,0,none⟩ (.int .i64 0)).setCell ⟨bz,1,none⟩ (.int .i64 9)).setCell ⟨bz,2,none⟩ (.int .i64 0)).setCell ⟨bz,3,none⟩ (.int .i64 0)).setCell ⟨bz,4,none⟩ (.int .i64 0)):=((((((Keeps.refl (fun q=>q=bz) w6).setCell (p:=⟨bz,0,none⟩) (fun _=>rfl) (.int .i64 0)).setCell (p:=⟨bz,1,none⟩) (fun _=>rfl) (.int .i64 9)).setCell (p:=⟨bz,2,none⟩) (fun _=>rfl) (.int .i64 0)).setCell (p:=⟨bz,3,none⟩) (fun _=>rfl) (.int .i64 0)).setCell (p:=⟨bz,4,none⟩) (fun _=>rfl) (.int .i64 0));generalize (((((w6.setCell ⟨bz,0,none⟩ (.int .i64 0)).setCell ⟨bz,1,none⟩ (.int .i64 9)).setCell ⟨bz,2,none⟩ (.int .i64 0)).setCell ⟨bz,3,none⟩ (.int .i64 0)).setCell ⟨bz,4,none⟩ (.int .i64 0))=w7 at rq kq ⊢;refine bodyPost_ret (v:=.tuple #[.agg #[.int .i64 0, .int .i64 9, .int .i64 0, .int .i64 0, .int .i64 0], .int .i64 0]) (by simp [results,Tryz.results118,go_sem,rq.cell (k:=0) rfl,rq.cell (k:=1) rfl,rq.cell (k:=2) rfl,rq.cell (k:=3) rfl,rq.cell (k:=4) rfl]) rfl ?_
  have hb1:=HB1.out;have hz1:∀ q,q < w.heap.size -> ¬ q=bz:=fun q hq e=>by omega
  exact ⟨rfl,H6.out.keeps kq (hz1 b (H.out.row.lt (by simp))) (hz1 gc (H.out.code.lt (by simp))) (hz1 gi (H.out.ins.lt (by simp))) (hz1 gf hb1.2),((HK5.out.mono (fun _ _ h=>h.elim)).trans HK6.out (fun _ _ h=>h)).trans kq (fun q hq e=>by have e':q=bz:=e;exact absurd e' (hz1 q hq))⟩
def EmF (B:Nat) (j:Nat) (v:Value) (W:World):Prop :=
 match j with
 | 4=>∃ ad cap,v=.slice ad 0 cap /\ W.ownsRow 0 3 1 v 0 (ints [])
 | 5=>∃ ad,v=.slice ad 0 0
 | 10=>∃ ad cap,v=.slice ad 0 cap /\ W.ownsRow 0 3 1 v 0 (ints [])
 | 11=>∃ ad,v=.slice ad 0 0
 | 12=>∃ a1 a2,v=.agg #[.slice a1 0 0, .slice a2 0 0, .slice none 0 0, .slice none 0 0]
 | 13=>∃ z,v=.pointer (some ⟨z,0,none⟩) /\ B <= z /\ zC W z [.slice none 0 0, .slice none 0 0, .slice none 0 0, .slice none 0 0]
 | _=>True
theorem EmF.st {B:Nat} (j:Nat) (v:Value) (W W':World) (h:EmF B j v W) (hk:Keeps zA W W'):EmF B j v W':=by
 unfold EmF at *;split at h
 case h_1=>obtain ⟨ad,cap,e,h1⟩:=h;exact ⟨ad,cap,e,zF h1 hk (fun _ _ h=>h)⟩
 case h_3=>obtain ⟨ad,cap,e,h1⟩:=h;exact ⟨ad,cap,e,zF h1 hk (fun _ _ h=>h)⟩
 case h_6=>obtain ⟨z,e,h1,h2⟩:=h;exact ⟨z,e,h1,h2.keeps hk (fun h=>h)⟩
 all_goals first | exact h | trivial
theorem zLJ {w:World} {b gc gi gf:Nat} {ca oa ra:Option Addr} {cc oc rc kc ki kf:Nat} {st ko:Int} (h:VmC w b st ca oa ra cc oc rc gc gi gf kc ki kf) (hst:st=2 /\ ko=9 \/ st=3 /\ ko=0):Calls Tryz.prog 121 #[(.pointer (some ⟨b,0,none⟩))] w fun e w'=>∃ a1 a2 a3 q3 a4 q4,e=.returned (.agg #[.slice a1 0 0, .slice a2 0 0, .slice a3 1 q3, .slice a4 1 q4]) /\ zU w' (.slice a3 1 q3) 1 [.int .i64 st] /\ zU w' (.slice a4 1 q4) 1 [.int .i64 ko, .int .i64 0] /\ Keeps zA w w' /\ ∀ q,(Value.slice a3 1 q3).ownBlock=some q \/ (Value.slice a4 1 q4).ownBlock=some q -> w.heap.size <= q:=by
 have H:=Lib.hid h;have HST:=Lib.hid hst;obtain ⟨i0,hi0,hz0,hz1,hz2⟩:=info_parts zA8;obtain ⟨j0,hj0,hy0,hy1,hy2⟩:=info_parts zLd;clear h hst;go_enter Tryz.func121,Tryz.ntmps121
 go_upto_region 1 with fail
 obtain ⟨bz,w1,e1,e2,R1,K1,_⟩:=newRow w [.slice none 0 0, .slice none 0 0, .slice none 0 0, .slice none 0 0] 34;rw [e1,e2];have HB1:Hid (bz=w.heap.size):=e1.symm;have HR1:=Lib.hid R1;have HK1:=Lib.hid K1;have y:=(H.out.zD K1).all;have k1:=zH w1;clear e1 e2 R1 K1;refine zAs 14 (by kernel_rfl) [some ((.pointer (some ⟨b,0,none⟩))),some ((.pointer (some ⟨b,0,none⟩))),some ((.pointer (some ⟨b,0,none⟩))),some (.slice ca 0 cc),none,none,some ((.pointer (some ⟨b,0,none⟩))),some ((.pointer (some ⟨b,0,none⟩))),some ((.pointer (some ⟨b,1,none⟩))),some (.slice oa 0 oc),none,none,none,none] rfl (EmF w1.heap.size) EmF.st ?_ ?_
 ·refine ⟨?_,?_,?_,?_,?_,?_,?_,?_,?_,?_,?_,?_,?_,?_,trivial⟩ <;> (intro vs gs W Q' hR hd hK;have HRW:Keeps zA w1 W:=((zH w1).drew).zB hR;simp only [zA1,zAg,zBQ,zJ,tz,Option.bind,Act.put] at hd hK ⊢;try simp only [hd] at hK ⊢)
  all_goals try (try clear hd;go_wp2_with (fail);first | exact hK _ _ (Keeps.refl _ _) rfl)
  ·exact J71 _
  ·obtain ⟨ad,cap,e4,h1⟩:∃ ad cap,vs 4=.slice ad 0 cap /\ W.ownsRow 0 3 1 (vs 4) 0 (ints []):=by simpa [EmF] using hd
   exact J67 _
  ·exact J71 _
  ·obtain ⟨ad,cap,e4,h1⟩:∃ ad cap,vs 10=.slice ad 0 cap /\ W.ownsRow 0 3 1 (vs 10) 0 (ints []):=by simpa [EmF] using hd
   exact J67 _
  ·obtain ⟨a1,e5⟩:∃ ad,vs 5=.slice ad 0 0:=by simpa [EmF] using hd.1
   obtain ⟨a2,e11⟩:∃ ad,vs 11=.slice ad 0 0:=by simpa [EmF] using hd.2.1
   clear hd;rw [e5,e11] at hK ⊢;go_wp2_with fail
   exact hK _ _ (Keeps.refl _ _) ⟨a1,a2,rfl⟩
  ·exact J30 _
 ·intro vs W hR hFF
  have HRW:Keeps zA w1 W:=((zH w1).drew).zB hR;obtain ⟨a1,a2,e12⟩:=(hFF 12 (by decide):∃ a1 a2,vs 12=.agg #[.slice a1 0 0, .slice a2 0 0, .slice none 0 0, .slice none 0 0]);obtain ⟨z,e13,hz,rz⟩:=(hFF 13 (by decide):∃ z,vs 13=.pointer (some ⟨z,0,none⟩) /\ w1.heap.size <= z /\ zC W z [.slice none 0 0, .slice none 0 0, .slice none 0 0, .slice none 0 0]);simp only [zJ,tz,Option.bind,Act.put];rw [e12,e13];have c0:=rz.cell (k:=0) rfl;have c1:=rz.cell (k:=1) rfl;have c2:=rz.cell (k:=2) rfl;have c3:=rz.cell (k:=3) rfl;have f0:=rz.free (k:=0) (by simp);have f1:=rz.free (k:=1) (by simp);have f2:=rz.free (k:=2) (by simp);have f3:=rz.free (k:=3) (by simp);have HsR:=Lib.hid rz;have HZ:Hid (w1.heap.size <= z /\ bz < w1.heap.size):=⟨hz,HR1.out.lt (by simp)⟩;have HKW:=Lib.hid HRW;clear hFF e12 e13 hR HRW y k1 rz hz;go_upto_region 2 with fail
  have rs:zC ((((W.setCell ⟨z,0,none⟩ (.slice a1 0 0)).setCell ⟨z,1,none⟩ (.slice a2 0 0)).setCell ⟨z,2,none⟩ (.slice none 0 0)).setCell ⟨z,3,none⟩ (.slice none 0 0)) z [.slice a1 0 0, .slice a2 0 0, .slice none 0 0, .slice none 0 0]:=((((HsR.out.set 0 (by simp) (.slice a1 0 0)).set 1 (by simp) (.slice a2 0 0)).set 2 (by simp) (.slice none 0 0)).set 3 (by simp) (.slice none 0 0));have ks:Keeps (fun q=>q=z) W ((((W.setCell ⟨z,0,none⟩ (.slice a1 0 0)).setCell ⟨z,1,none⟩ (.slice a2 0 0)).setCell ⟨z,2,none⟩ (.slice none 0 0)).setCell ⟨z,3,none⟩ (.slice none 0 0)):=(((((Keeps.refl (fun q=>q=z) W).setCell (p:=⟨z,0,none⟩) (fun _=>rfl) (.slice a1 0 0)).setCell (p:=⟨z,1,none⟩) (fun _=>rfl) (.slice a2 0 0)).setCell (p:=⟨z,2,none⟩) (fun _=>rfl) (.slice none 0 0)).setCell (p:=⟨z,3,none⟩) (fun _=>rfl) (.slice none 0 0));generalize ((((W.setCell ⟨z,0,none⟩ (.slice a1 0 0)).setCell ⟨z,1,none⟩ (.slice a2 0 0)).setCell ⟨z,2,none⟩ (.slice none 0 0)).setCell ⟨z,3,none⟩ (.slice none 0 0))=w4 at rs ks ⊢;have HR4:=Lib.hid rs;have HK4:Hid (Keeps zA w1 w4):=HKW.out.trans ks (fun q hq e=>by have e':q=z:=e;have:=HZ.out.1;omega);have HQ4:=Lib.hid (HR1.out.keeps HK4.out (fun h=>h));have H4:=Lib.hid (H.out.zD (HK1.out.zB HK4.out));have y:=H4.out.all;have k4:=zH w4;clear rs ks c0 c1 c2 c3 f0 f1 f2 f3;go_wp2_with fail
  refine wp_loop_rounds 2 ?_
  rw [rounds_succ];go_upto_region 5 with fail
  obtain ⟨b5,w5,e1,e2,R5,K5,_⟩:=newRow w4 [.int .i64 st, .slice ra 0 rc, .int .i64 0] 276;try rw [e1]
  try rw [e2]
  have u:=R5.zAo;have HK5:=Lib.hid K5;have rz5:=HR4.out.keeps K5 (fun h=>h);have HR5:=Lib.hid rz5;have c2:=zL (rz5.cell (k:=2) rfl);have k5:=zH w5;clear e1 e2 R5 K5 rz5 y k4;go_upto_region 6 with (at_builtin;obtain ⟨g,w6,e1,e2,R6,K6,_⟩:=newRow w5 [.int .i64 st] 3;rw [e1,e2];have HR6:=Lib.hid R6;have HK6:=Lib.hid K6;clear e1 e2 R6 K6 u c2 k5;refine zI _ (by rfl) _ _ 22 (by rfl) 0 3 i0 _ 1 8 Tryz.underlying22 hi0 hz0 hz1 hz2 rfl (by decide) (.slice none 0 0) 0 [] (by rfl) (World.ownsRow_nil _ _ _ _) (.slice (some ⟨g,0,none⟩) 1 1) 1 [.int .i64 st] (by rfl) (zC.src HR6.out) rfl (by simp [Value.oneCell']) (by unfold maxLen;omega) (by omega) (Nat.zero_le _) ?_;intro a3 q3 w7 hout;have HO3:=Lib.hid hout;have HK7:Hid (Keeps zA w4 w7):=(zi.keeps hout (HK5.out.zB HK6.out) (fun q e _=>by exact J152 _));have zr:=HR4.out.keeps HK7.out (fun h=>h);have zc:=zr.cell (k:=2) rfl;have zf:=zr.free (k:=2) (by simp);have HZR:=Lib.hid zr;clear hout zr)
  have r7:=HZR.out.set 2 (by simp) (.slice a3 1 q3);have kS:Keeps (fun q=>q=z) w7 (w7.setCell ⟨z,2,none⟩ (.slice a3 1 q3)):=(Keeps.refl (fun q=>q=z) w7).setCell (p:=⟨z,2,none⟩) (fun _=>rfl) _;have r7:zC (w7.setCell ⟨z,2,none⟩ (.slice a3 1 q3)) z [.slice a1 0 0, .slice a2 0 0, .slice a3 1 q3, .slice none 0 0]:=r7;generalize w7.setCell ⟨z,2,none⟩ (.slice a3 1 q3)=w8 at r7 kS ⊢;have ho3:=HO3.out.1;rw [Nat.zero_add,List.nil_append] at ho3
  have HG3:Hid (∀ q,(Value.slice a3 1 q3).ownBlock=some q -> q ≠ z /\ bz < q):=fun q e=>by
   have h1:=HR4.out.lt (by simp);have h2:=HZ.out;have h3:=HK6.out.size;have h4:=HK5.out.size;rcases HO3.out.2.2 q (by rw [Nat.zero_add];exact e) with h | h
   ·exact J66 _
   ·exact J47 _
  have HO8:=Lib.hid (zF ho3 kS (fun q e e2=>(HG3.out q e).1 e2));have HR8:=Lib.hid r7;have HK8:Hid (Keeps zA w1 w8):=(HK4.out.zB HK7.out).trans kS (fun q hq e=>by have e':q=z:=e;have:=HZ.out.1;omega);have HQ8:=Lib.hid (HR1.out.keeps HK8.out (fun h=>h));have H8:=Lib.hid (H.out.zD (HK1.out.zB HK8.out))
  have HA:Hid (∀ W,Keeps zA w8 W -> Calls Tryz.prog 178 #[(.pointer (some ⟨b,0,none⟩)), .int .i64 0] W fun e w'=>e=.returned (.agg #[.int .i64 ko, .int .i64 0]) /\ Keeps zA W w'):=fun W hk=>by
   have:=zGt (H8.out.zD hk) (HST.out.imp (fun h=>h.1) (fun h=>h.1))
   rcases HST.out with ⟨e1,e2⟩ | ⟨e1,e2⟩
   ·rw [e2];rw [if_pos e1] at this;exact this
   ·rw [e2];rw [if_neg (by omega)] at this;exact this
  have y:=HR8.out.zAh;have k8:=zH w8;clear r7 kS zc zf ho3;refine zAs 6 (by kernel_rfl) [some ((.pointer (some ⟨z,3,none⟩))),some (.slice none 0 0),some ((.pointer (some ⟨b,0,none⟩))),some (.int .i64 0),some (.agg #[.int .i64 ko, .int .i64 0]),none] rfl (fun j v W=>∃ g,v=.slice (some ⟨g,0,none⟩) 1 1 /\ zC W g [.int .i64 ko, .int .i64 0]) (fun j v W W' h hk=>by exact J165 _) ?_ ?_
  ·refine ⟨?_,?_,?_,?_,?_,?_,trivial⟩ <;> (intro vs gs W Q' hR hd hK;have HRW:Keeps zA w8 W:=((zH w8).drew).zB hR;simp only [zA1,zAg,zBQ,zJ,tz,Option.bind,Act.put] at hd hK ⊢;try simp only [hd] at hK ⊢)
   all_goals try (try clear hd;go_wp2_with (go_at_call 178;refine (HA.out _ HRW).mono ?_;rintro e W1 ⟨rfl,g1⟩);first | exact hK _ _ (Keeps.refl _ _) rfl | exact hK _ _ g1 rfl)
   ·exact J34 _
  ·intro vs W2 hR hFF
   have HRW:Keeps zA w8 W2:=((zH w8).drew).zB hR;obtain ⟨g5,e5,rg⟩:=(hFF 5 (by decide):∃ g,vs 5=.slice (some ⟨g,0,none⟩) 1 1 /\ zC W2 g [.int .i64 ko, .int .i64 0]);have e0:vs 0=_:=hFF 0 (by decide);have e1:vs 1=_:=hFF 1 (by decide);simp only [zJ,tz,Option.bind,Act.put];rw [e0,e1,e5];have HRG:=Lib.hid rg;have HKV:=Lib.hid HRW;have HRV:=Lib.hid (HR8.out.keeps HRW (fun h=>h));clear hFF e0 e1 e5 rg hR HRW y k8;go_upto_region 7 with (at_builtin;refine zI _ (by rfl) _ _ 32 (by rfl) 0 138 j0 _ 2 16 Tryz.underlying32 hj0 hy0 hy1 hy2 rfl (by decide) (.slice none 0 0) 0 [] (by rfl) (World.ownsRow_nil _ _ _ _) (.slice (some ⟨g5,0,none⟩) 1 1) 1 [.int .i64 ko, .int .i64 0] (by rfl) (zC.src HRG.out) rfl (by simp [Value.oneCell']) (by unfold maxLen;omega) (by omega) (Nat.zero_le _) ?_;intro a4 q4 w9 hout;have HO4:=Lib.hid hout;have HK9:Hid (Keeps zA w8 w9):=(zi.keeps hout HKV.out (fun q e _=>by exact J152 _));have zr:=HR8.out.keeps HK9.out (fun h=>h);have zc:=zr.cell (k:=3) rfl;have zf:=zr.free (k:=3) (by simp);have HZR9:=Lib.hid zr;clear hout zr)
   have r9:=HZR9.out.set 3 (by simp) (.slice a4 1 q4);have kS:Keeps (fun q=>q=z) w9 (w9.setCell ⟨z,3,none⟩ (.slice a4 1 q4)):=(Keeps.refl (fun q=>q=z) w9).setCell (p:=⟨z,3,none⟩) (fun _=>rfl) _;have r9:zC (w9.setCell ⟨z,3,none⟩ (.slice a4 1 q4)) z [.slice a1 0 0, .slice a2 0 0, .slice a3 1 q3, .slice a4 1 q4]:=r9;generalize w9.setCell ⟨z,3,none⟩ (.slice a4 1 q4)=wB at r9 kS ⊢;have ho4:=HO4.out.1;rw [Nat.zero_add,List.nil_append] at ho4
   have HG4:Hid (∀ q,(Value.slice a4 1 q4).ownBlock=some q -> q ≠ z /\ bz < q):=fun q e=>by
    have h1:=HRV.out.lt (by simp);have h2:=HZ.out;have h3:=HK8.out.size;have h4:=HKV.out.size;rcases HO4.out.2.2 q (by rw [Nat.zero_add];exact e) with h | h
    ·exact J66 _
    ·exact J47 _
   have HOB:=Lib.hid (zF ho4 kS (fun q e e2=>(HG4.out q e).1 e2));have HOC:=Lib.hid (zF (zF HO8.out HK9.out (fun _ _ h=>h)) kS (fun q e e2=>(HG3.out q e).1 e2));have rq:=(HQ8.out.keeps HK9.out (fun h=>h)).keeps kS (fun e=>by have e':bz=z:=e;have:=HZ.out;omega);have HqR:=Lib.hid rq;have HKB:Hid (Keeps zA w wB):=((HK1.out.zB HK8.out).zB HK9.out).trans kS (fun q hq e=>by have e':q=z:=e;have:=HZ.out;have:=HB1.out;omega);have y:=r9.zAh;have kB:=zH wB;have p0:=rq.cell (k:=0) rfl;have p1:=rq.cell (k:=1) rfl;have p2:=rq.cell (k:=2) rfl;have p3:=rq.cell (k:=3) rfl;have o0:=rq.free (k:=0) (by simp);have o1:=rq.free (k:=1) (by simp);have o2:=rq.free (k:=2) (by simp);have o3:=rq.free (k:=3) (by simp);clear r9 kS zc zf ho4 rq;go_wp2_with fail
   rw [rounds_succ];go_wp2_with fail
   have rq:zC ((((wB.setCell ⟨bz,0,none⟩ (.slice a1 0 0)).setCell ⟨bz,1,none⟩ (.slice a2 0 0)).setCell ⟨bz,2,none⟩ (.slice a3 1 q3)).setCell ⟨bz,3,none⟩ (.slice a4 1 q4)) bz [.slice a1 0 0, .slice a2 0 0, .slice a3 1 q3, .slice a4 1 q4]:=((((HqR.out.set 0 (by simp) (.slice a1 0 0)).set 1 (by simp) (.slice a2 0 0)).set 2 (by simp) (.slice a3 1 q3)).set 3 (by simp) (.slice a4 1 q4));have kq:Keeps (fun q=>q=bz) wB ((((wB.setCell ⟨bz,0,none⟩ (.slice a1 0 0)).setCell ⟨bz,1,none⟩ (.slice a2 0 0)).setCell ⟨bz,2,none⟩ (.slice a3 1 q3)).setCell ⟨bz,3,none⟩ (.slice a4 1 q4)):=(((((Keeps.refl (fun q=>q=bz) wB).setCell (p:=⟨bz,0,none⟩) (fun _=>rfl) (.slice a1 0 0)).setCell (p:=⟨bz,1,none⟩) (fun _=>rfl) (.slice a2 0 0)).setCell (p:=⟨bz,2,none⟩) (fun _=>rfl) (.slice a3 1 q3)).setCell (p:=⟨bz,3,none⟩) (fun _=>rfl) (.slice a4 1 q4));generalize ((((wB.setCell ⟨bz,0,none⟩ (.slice a1 0 0)).setCell ⟨bz,1,none⟩ (.slice a2 0 0)).setCell ⟨bz,2,none⟩ (.slice a3 1 q3)).setCell ⟨bz,3,none⟩ (.slice a4 1 q4))=wC at rq kq ⊢;refine bodyPost_ret (v:=.agg #[.slice a1 0 0, .slice a2 0 0, .slice a3 1 q3, .slice a4 1 q4]) (by simp [results,Tryz.results121,go_sem,rq.cell (k:=0) rfl,rq.cell (k:=1) rfl,rq.cell (k:=2) rfl,rq.cell (k:=3) rfl]) rfl ?_
   refine ⟨a1,a2,a3,q3,a4,q4,rfl,?_,?_,HKB.out.trans kq (fun q hq e=>by exact J201 _),fun q e=>?_⟩
   ·exact (zBL.of (B:=0) (zF HOC.out kq (fun q e e2=>by have e':q=bz:=e2;have:=(HG3.out q e).2;omega)) (fun _ _=>Nat.zero_le _)).src
   ·exact (zBL.of (B:=0) (zF HOB.out kq (fun q e e2=>by have e':q=bz:=e2;have:=(HG4.out q e).2;omega)) (fun _ _=>Nat.zero_le _)).src
   ·have hb:=HB1.out
    rcases e with e | e
    ·have:=(HG3.out q e).2;omega
    ·have:=(HG4.out q e).2;omega
def zFj (l:List LIn):List Value:=l.flatMap LIn.cells
theorem zLX (l:List LIn):(zFj l).length=l.length*4:=zAC _ 4 zBb l
theorem zKm (l:List LIn):∀ u ∈ zFj l,u.oneCell'=true:=by
 intro u hu
 simp only [zFj,List.mem_flatMap] at hu;obtain ⟨x,_,hx⟩:=hu;simp only [LIn.cells,List.mem_cons,List.mem_nil_iff,or_false] at hx;rcases hx with rfl | rfl | rfl | rfl <;> rfl
theorem zI9 (w:World) (v:Value) (xs:List LIn) (h:zU w v xs.length (zFj xs)) (hb:xs.length*32 <= 140737488355328) :
 Calls Tryz.prog 175 #[v] w (zB3 158 4 w xs.length (zFj xs)):=by
 obtain ⟨i0,hi0,hz0,hz1,hz2⟩:=info_parts zEf;have HS:=Lib.hid h;obtain ⟨ad,cap,rfl,hc⟩:=h
 have h0:ad=none -> xs=[]:=fun e=>by
  exact J111 _
 clear hc;cases ad with
 | none =>
   obtain rfl:=h0 rfl;have hnil:∀ W,(binOp .eql 152 (.slice none 0 cap) (.slice none 0 0)).run Tryz.prog W=.ok (.bool true) W:=fun W=>Lib.run_eql_slice_nil_nil W _ _ Tryz.underlying152
   go_enter Tryz.func175,Tryz.ntmps175
   go_wp2
   go_ret
   exact ⟨none,0,rfl,World.ownsRow_nil _ _ _ _,Keeps.refl _ _,fun kb e=>by exact J152 _⟩
 | some a =>
   clear h0;obtain ⟨n,hn⟩:=eX xs.length;have HL:Hid ((zFj xs).length=n*4):=by show _=_;rw [zLX,hn]
   rw [<- hn] at HS hb ⊢;have HB:Hid (n*32 <= 140737488355328):=hb;clear hb hn;have hnil:∀ W,(binOp .eql 152 (.slice (some a) n cap) (.slice none 0 0)).run Tryz.prog W=.ok (.bool false) W:=fun W=>Lib.run_eql_slice_some_nil W _ _ _ Tryz.underlying152
   go_enter Tryz.func175,Tryz.ntmps175
   go_wp2_with (at_builtin;refine zI _ (by rfl) _ _ 152 (by rfl) 0 158 i0 _ 4 32 Tryz.underlying152 hi0 hz0 hz1 hz2 rfl (by decide) (.slice (some ⟨w.heap.size,0,none⟩) 0 0) 0 [] (by rfl) (World.ownsRow_lit w #[] 0 (Nat.zero_le _) (by unfold maxLen;omega) rfl) (.slice (some a) n cap) n (zFj xs) (by rfl) (HS.out.keeps (S:=zA) ((Keeps.refl _ _).alloc _) (fun _ _ h=>h)) HL.out (zKm xs) (by have:=HB.out;unfold maxLen;omega) (by have:=HB.out;omega) (Nat.zero_le _) ?_;intro ad' cap' w6 hout;have HO:=Lib.hid hout;clear hout)
   go_ret
   have hO:=HO.out;refine ⟨ad',cap',by simp,?_,hO.keeps ((Keeps.refl _ _).alloc _) (fun k e hlt=>by exact J209 _),fun kb e=>?_⟩
   ·exact J98 _
   ·exact J58 _
theorem zHn (g:Nat) (a:Int) (w:World) (ha:w.cell? ⟨g,0,none⟩=some (.int .i64 a)) :
 Calls Tryz.prog 131 #[.slice (some ⟨g,0,none⟩) 1 1, .int .i64 0] w fun e w'=>∃ ad,e=.returned (.slice ad 0 0) /\ w'.ownsRow 0 3 1 (.slice ad 0 0) 0 [] /\ Keeps zA w w' /\ ∀ kb,(Value.slice ad 0 0).ownBlock=some kb -> w.heap.size <= kb:=by
 obtain ⟨i0,hi0,hz0,hz1,hz2⟩:=info_parts zFY;go_enter Tryz.func131,Tryz.ntmps131
 go_upto_region 7 with (first | (go_at_call 100;refine (mul_one _ (by omega) _).mono ?_;rintro e w' ⟨rfl,rfl⟩) | (at_make;refine wpList_make_full _ rfl _ _ _ rfl 0 3 i0 _ 1 Tryz.underlying22 hi0 hz0 hz1 _ _ _ _ 0 (by rfl) (by rfl) rfl rfl (by rw [hz2];omega) (by unfold maxLen;omega) (Nat.zero_le _) ?_;intro w1 hown hgr))
 have hw1:w1.ownsRow 0 3 1 (.slice (some ⟨w.heap.size,0,none⟩) 0 0) 0 []:=by
  have h:=hown;simp only [Value.cells] at h;rw [toList_madeCells_one] at h;simpa using h
 have hrow:Hid (w1.heap[w.heap.size]?=some (.cells ([]:List Value).toArray 3 (0,0))):=zDz hw1;have hbl:Hid (Below w.heap.size w w1):=show Below _ _ _ from (Below.refl _ _).grown hgr (Nat.le_refl _) (by simp)
 clear hown hgr hw1 ha;iterate 7 go_step
 refine wpList_copy_splice (by rfl) (.tmp 31) (.tmp 32) 22 22 (by rfl) 3 Tryz.underlying22 zGb (some ⟨w.heap.size,0,none⟩) (some ⟨g,0,none⟩) 0 0 1 1 (by rfl) (by rfl) w.heap.size 0 [] 3 hrow.out [] (by rfl) (fun h=>absurd h (by decide)) (by decide) (by simp) w.heap.size w hbl.out (Nat.le_refl _) ?_
 intro w2 hrow2 hbl2
 have hbl3:=Lib.hid hbl2;have hr3:Hid (w2.heap[w.heap.size]?=some (.cells ([]:List Value).toArray 3 (0,0))):=by show _=_;simpa [splice] using hrow2.out
 clear hrow hbl hbl2 hrow2;go_wp2
 go_loopw [8] (fun n wr=>n=.int .i64 0 /\ Hid (wr=w2)) (fun _ _=>0)
 case atStart=>exact ⟨rfl,rfl⟩
 case round =>
  obtain ⟨rfl,he⟩:=hrel;go_wp2
  go_ret
  have e:=he.out;subst e;refine ⟨some ⟨w.heap.size,0,none⟩,rfl,⟨rfl, .inr ⟨w.heap.size,0,#[],rfl,Nat.zero_le _,hr3.out,Nat.le_refl _,by unfold maxLen;omega,rfl,rfl⟩⟩,Keeps.zBv hbl3.out _,fun kb e=>by exact J209 _⟩
end Go.Proofs.YtoapgjjepiopbaaGreatDoor
