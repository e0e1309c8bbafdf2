/- Layer N: texts joined. -/
import Derived.Test.YtoapgjjepiopbaaGreatDoorN45
import Derived.RangeFuncNested
import Derived.RangeFuncBound
import Derived.Shelf.RegionOpen
import Derived.OwnWalkIn
import Derived.LoopNIn
import Derived.LoopIn
set_option linter.all false
set_option maxHeartbeats 4000000
set_option maxRecDepth 20000
namespace Go.Proofs.YtoapgjjepiopbaaGreatDoor
open Go.RowKit
theorem J168 (P:Prop) (h:P:=by constructor <;> simp [Nd.Ok]):P:=h
theorem zJ5:(Tryz.prog.info? 152).map (fun i=>(i.zero,i.size,i.bytes))=some (some (.slice none 0 0),1,24):=by kernel_rfl
theorem zMB:(Tryz.prog.info? 276).map (fun i=>(i.zero,i.size,i.bytes))=some (some (.agg #[.int .i64 0, .slice none 0 0, .int .i64 0]),3,40):=by kernel_rfl
def EnF (j:Nat) (v:Value) (W:World):Prop :=
 match j with
 | 2=>∃ ad cap,v=.slice ad 0 cap
 | 3=>∃ g,v=.slice (some ⟨g,0,none⟩) 1 1 /\ W.cell? ⟨g,0,none⟩=some (.int .i64 (-1))
 | 6=>∃ ad,v=.slice ad 0 0
 | _=>True
theorem EnF.st (j:Nat) (v:Value) (W W':World) (h:EnF j v W) (hk:Keeps zA W W'):EnF j v W':=by
 unfold EnF at *;split at h
 case h_2=>obtain ⟨g,e,h1⟩:=h;exact ⟨g,e,hk.cell (fun h=>h) h1⟩
 all_goals first | exact h | trivial
def EnG (B:Nat) (j:Nat) (v:Value) (W:World):Prop :=
 match j with
 | 7=>∃ gi ci,v=.slice (some ⟨gi,0,none⟩) 1 ci /\ zC W gi [.int .i64 29, .int .i64 0, .int .i64 0, .int .i64 0] /\ B <= gi
 | 8=>∃ g gi ci,v=.slice (some ⟨g,0,none⟩) 1 1 /\ zC W g [.slice (some ⟨gi,0,none⟩) 1 ci] /\ zC W gi [.int .i64 29, .int .i64 0, .int .i64 0, .int .i64 0] /\ B <= gi
 | _=>True
theorem EnG.st {B:Nat} (j:Nat) (v:Value) (W W':World) (h:EnG B j v W) (hk:Keeps zA W W'):EnG B j v W':=by
 unfold EnG at *;split at h
 case h_1=>obtain ⟨gi,ci,e,h1,h2⟩:=h;exact ⟨gi,ci,e,h1.keeps hk (fun h=>h),h2⟩
 case h_2=>obtain ⟨g,gi,ci,e,h1,h2,h3⟩:=h;exact ⟨g,gi,ci,e,h1.keeps hk (fun h=>h),h2.keeps hk (fun h=>h),h3⟩
 all_goals first | exact h | trivial
theorem EnG.of7 {B:Nat} {W:World} {ad:Option Addr} {cap:Nat} (h:W.ownsRow 0 158 4 (.slice ad 1 cap) 1 (zFj [⟨29,0,0,0⟩])) (hb:∀ q,(Value.slice ad 1 cap).ownBlock=some q -> B <= q):EnG B 7 (.slice ad 1 cap) W:=by
 rcases h.2 with ⟨e,_⟩ | ⟨g,cap',cur,e,_⟩
 ·simp at e
 ·simp only [Value.slice.injEq,true_and] at e
  obtain ⟨rfl,rfl⟩:=e;exact ⟨g,cap,rfl,zC.zAM h,hb g rfl⟩
def EnH (j:Nat) (v:Value) (W:World):Prop :=
 match j with
 | 7=>∃ a c,v=.slice a 0 c
 | 8=>∃ a c,v=.agg #[.int .i64 1, .slice a 0 c, .int .i64 0]
 | 9=>∃ g a c,v=.slice (some ⟨g,0,none⟩) 1 1 /\ zC W g [.int .i64 1, .slice a 0 c, .int .i64 0]
 | _=>True
theorem EnH.st (j:Nat) (v:Value) (W W':World) (h:EnH j v W) (hk:Keeps zA W W'):EnH j v W':=by
 unfold EnH at *;split at h
 case h_3=>obtain ⟨g,a,c,e,h1⟩:=h;exact ⟨g,a,c,e,h1.keeps hk (fun h=>h)⟩
 all_goals first | exact h | trivial
theorem zI6 {w:World} {e sz:Nat} {ad:Option Addr} {cap:Nat} {xs:List Value} (h:w.ownsRow 0 e sz (.slice ad 1 cap) 1 xs):∃ g,ad=some ⟨g,0,none⟩ /\ zC w g xs:=by
 rcases h.2 with ⟨e,_⟩ | ⟨g,cap',cur,e,_⟩
 ·simp at e
 ·simp only [Value.slice.injEq,true_and] at e
  obtain ⟨rfl,rfl⟩:=e;exact ⟨g,rfl,zC.zAM h⟩
theorem zOi (w:World) (ca:Option Addr) (cc gt ot tc gI:Nat) (h:zC1 w gt ot gI):Calls Tryz.prog 117 #[.agg #[.slice ca 0 cc, .int .i64 0, .slice (some ⟨gt,ot,none⟩) 1 tc]] w fun e w'=>∃ b ca oa ra cc oc rc gc gi gf kc ki kf,e=.returned (.tuple #[(.pointer (some ⟨b,0,none⟩)), .int .i64 0]) /\ VmC w' b 2 ca oa ra cc oc rc gc gi gf kc ki kf /\ w.heap.size <= gf /\ Keeps zA w w':=by
 have HI:=Lib.hid h;obtain ⟨i0,hi0,hz0,hz1,hz2⟩:=info_parts zA8;obtain ⟨j0,hj0,hy0,hy1,hy2⟩:=info_parts zJ5;obtain ⟨k0,hk0,hw0,hw1,hw2⟩:=info_parts zMB;clear h;go_enter Tryz.func117,Tryz.ntmps117
 go_upto_region 1 with fail
 obtain ⟨b1,w1,e1,e2,R1,K1,_⟩:=newRow w [.slice ca 0 cc, .int .i64 0, .slice (some ⟨gt,ot,none⟩) 1 tc] 78;rw [e1,e2];have HR1:=Lib.hid R1;have HK1:=Lib.hid K1;have y:=R1.zAo;have k1:=zH w1;clear e1 e2 R1 K1;go_upto_region 3 with (go_at_call 174;refine (zNc _ ca cc gt ot tc gI (HI.out.zD HK1.out)).mono ?_;rintro e w2 ⟨rfl,g2⟩;have G2:=Lib.hid g2;clear g2 y k1)
 have HK2:Hid (Keeps zA w w2):=HK1.out.zB G2.out;have HR2:=Lib.hid (HR1.out.keeps G2.out (fun h=>h));have y:=HR2.out.zAo;refine zAs 7 (by kernel_rfl) [some ((.pointer (some ⟨b1,0,none⟩))),some (.slice ca 0 cc),none,none,some ((.pointer (some ⟨b1,1,none⟩))),some (.int .i64 0),none] rfl EnF EnF.st ?_ ?_
 ·refine ⟨?_,?_,?_,?_,?_,?_,?_,trivial⟩ <;> (intro vs gs W Q' hR hd hK;have HRW:Keeps zA w2 W:=((zH w2).drew).zB hR;simp only [zA1,zAg,zBQ,zJ,tz,Option.bind,Act.put] at hd hK ⊢;try simp only [hd] at hK ⊢)
  all_goals try (try clear hd;go_wp2_with (fail);first | exact hK _ _ (Keeps.refl _ _) rfl)
  ·clear hd
   go_wp2_with (go_at_call 59;refine (zCm _ _ [] ⟨_,_,rfl,fun h=>absurd rfl h⟩ (by simp)).mono ?_;rintro e W2 ⟨ad,cap,rfl,g1,g2,g3⟩)
   exact hK _ _ g2 ⟨ad,cap,rfl⟩
  ·clear hd
   go_wp2_with fail
   exact hK _ _ ((Keeps.refl _ _).alloc _) ⟨_,rfl,(zC.zG (heap_alloc_new W _)).cell (k:=0) rfl⟩
  ·obtain ⟨g,e3,h3⟩:∃ g,vs 3=.slice (some ⟨g,0,none⟩) 1 1 /\ W.cell? ⟨g,0,none⟩=some (.int .i64 (-1)):=by simpa [EnF] using hd.1
   have HRP:=Lib.hid (zHn g (-1) W h3);simp only [hd,e3] at hK ⊢;clear hd h3;go_wp2_with (go_at_call 131;refine HRP.out.mono ?_;rintro e W2 ⟨ad,rfl,g1,g2,g3⟩)
   exact hK _ _ g2 ⟨ad,rfl⟩
 ·intro vs W hR hFF
  have HRW:Keeps zA w2 W:=((zH w2).drew).zB hR;obtain ⟨a1,c1,e2⟩:=(hFF 2 (by decide):∃ ad cap,vs 2=.slice ad 0 cap);obtain ⟨a2,e6⟩:=(hFF 6 (by decide):∃ ad,vs 6=.slice ad 0 0);simp only [zJ,tz,Option.bind,Act.put];rw [e2,e6];have HKW:=Lib.hid HRW;clear hFF e2 e6 hR HRW y;go_upto_region 4 with fail
  obtain ⟨b4,w4,e1,e2,R4,K4,_⟩:=newRow W [.slice a1 0 c1, .slice a2 0 0, .slice none 0 0, .slice none 0 0] 274;try rw [e1]
  try rw [e2]
  have HB4:Hid (W.heap.size=b4):=e1;have HR4:=Lib.hid R4;have HK4:Hid (Keeps zA w2 w4):=HKW.out.zB K4;have y:=(HR2.out.keeps HK4.out (fun h=>h)).zAo;have u:=R4.zAh;have t:=(HI.out.zD (HK2.out.zB HK4.out)).all;have k4:=zH w4;clear e1 e2 R4 K4;go_wp2_with fail
  refine wp_loop_rounds 2 ?_
  rw [rounds_succ];go_upto_region 7 with fail
  obtain ⟨b6,w6,e1,e2,R6,K6,_⟩:=newRow w4 [.int .i64 0, .slice (some ⟨gI,0,none⟩) 1 1] 161;try rw [e1]
  try rw [e2]
  have HB6:Hid (w4.heap.size=b6):=e1;have HR6:=Lib.hid R6;have HK6:=Lib.hid K6;have HR46:=Lib.hid (HR4.out.keeps K6 (fun h=>h));have HK26:Hid (Keeps zA w2 w6):=HK4.out.zB K6
  have HIS:Hid (zU w6 (.slice (some ⟨gI,0,none⟩) 1 1) 1 (zFj [⟨29,0,0,0⟩])):=by
   have h:=HI.out.zD (HK2.out.zB HK26.out);refine ⟨_,1,rfl,fun _=>⟨gI,0,rfl,fun j v hj=>?_⟩⟩
   simp only [zFj,List.flatMap_cons,List.flatMap_nil,List.append_nil,LIn.cells] at hj;rcases (show j=0 \/ j=1 \/ j=2 \/ j=3 \/ 4 <= j by omega) with rfl | rfl | rfl | rfl | h4
   ·simp at hj;subst hj;simpa using h.i0
   ·simp at hj;subst hj;simpa using h.i1
   ·simp at hj;subst hj;simpa using h.i2
   ·simp at hj;subst hj;simpa using h.i3
   ·rw [List.getElem?_eq_none (by simpa using h4)] at hj;cases hj
  clear e1 e2 R6 K6 y u t k4;have y:=HR46.out.zAh;have u:=HR6.out.all2;have k6:=zH w6;refine zCG 9 0 (by kernel_rfl) [some ((.pointer (some ⟨b4,0,none⟩))),some ((.pointer (some ⟨b4,0,none⟩))),some ((.pointer (some ⟨b4,0,none⟩))),some ((.pointer (some ⟨b4,2,none⟩))),some (.slice none 0 0),some ((.pointer (some ⟨b6,1,none⟩))),some (.slice (some ⟨gI,0,none⟩) 1 1),none,none] rfl (EnG w6.heap.size) EnG.st _ rfl (fun _ _ _ _ h=>h) _ rfl (fun _ _ _=>by exact J156 _) ?_ ?_
  ·refine ⟨?_,?_,?_,?_,?_,?_,?_,?_,?_,trivial⟩ <;> (intro vs gs W Q' hR hd hK;have HRW:Keeps zA w6 W:=((zH w6).drew).zB hR;simp only [zA1,zAg,zBQ,zJ,tz,Option.bind,Act.put] at hd hK ⊢;try simp only [hd] at hK ⊢)
   all_goals try (try clear hd;go_wp2_with (fail);first | exact hK _ _ (Keeps.refl _ _) rfl)
   ·clear hd
    have hz:=HRW.size;go_wp2_with (go_at_call 175;refine (zI9 W _ [⟨29,0,0,0⟩] (HIS.out.keeps HRW (fun _ _ h=>h)) (by simp)).mono ?_;rintro e W2 ⟨ad,cap,rfl,g1,g2,g3⟩)
    exact hK _ _ g2 (EnG.of7 g1 (fun q e=>Nat.le_trans hz (g3 q e)))
   ·obtain ⟨gi,ci,e7,h7,hb⟩:∃ gi ci,vs 7=.slice (some ⟨gi,0,none⟩) 1 ci /\ zC W gi [.int .i64 29, .int .i64 0, .int .i64 0, .int .i64 0] /\ w6.heap.size <= gi:=by simpa [EnG] using hd
    clear hd;rw [e7] at hK ⊢;go_wp2_with fail
    exact hK _ _ ((Keeps.refl zA W).alloc _) ⟨_,gi,ci,rfl,zC.zG (heap_alloc_new W _),h7.keeps ((Keeps.refl zA W).alloc _) (fun h=>h),hb⟩
  ·intro vs W2 hR hFF
   have HRW:Keeps zA w6 W2:=((zH w6).drew).zB hR;obtain ⟨g8,gi,ci,e8,rg,ri,hb⟩:=(hFF 8 (by decide):∃ g gi ci,vs 8=.slice (some ⟨g,0,none⟩) 1 1 /\ zC W2 g [.slice (some ⟨gi,0,none⟩) 1 ci] /\ zC W2 gi [.int .i64 29, .int .i64 0, .int .i64 0, .int .i64 0] /\ w6.heap.size <= gi);have e0:vs 0=_:=hFF 0 (by decide);have e4:vs 4=_:=hFF 4 (by decide);simp only [zJ,tz,Option.bind,Act.put];rw [e0,e4,e8];have HRG:=Lib.hid rg;have HRI:Hid (zC W2 gi [.int .i64 29, .int .i64 0, .int .i64 0, .int .i64 0] /\ w6.heap.size <= gi):=⟨ri,hb⟩;have HKV:=Lib.hid HRW;have HRV:=Lib.hid (HR46.out.keeps HRW (fun h=>h));clear hFF e0 e4 e8 rg ri hb hR HRW y u k6;go_upto_region 8 with (at_builtin;refine zI _ (by rfl) _ _ 271 (by rfl) 0 152 j0 _ 1 24 Tryz.underlying271 hj0 hy0 hy1 hy2 rfl (by decide) (.slice none 0 0) 0 [] (by rfl) (World.ownsRow_nil _ _ _ _) (.slice (some ⟨g8,0,none⟩) 1 1) 1 [.slice (some ⟨gi,0,none⟩) 1 ci] (by rfl) (zC.src HRG.out) rfl (by simp [Value.oneCell']) (by unfold maxLen;omega) (by omega) (Nat.zero_le _) ?_;intro a3 q3 w7 hout;have HO3:=Lib.hid hout;have HK7:Hid (Keeps zA W2 w7):=(zi.keeps hout (Keeps.refl _ _) (fun q e _=>by exact J152 _));have zr:=HRV.out.keeps HK7.out (fun h=>h);have zc:=zr.cell (k:=2) rfl;have zf:=zr.free (k:=2) (by simp);have HZR:=Lib.hid zr;clear hout zr)
   have r8:=HZR.out.set 2 (by simp) (.slice a3 1 q3);have kS:Keeps (fun q=>q=b4) w7 (w7.setCell ⟨b4,2,none⟩ (.slice a3 1 q3)):=(Keeps.refl (fun q=>q=b4) w7).setCell (p:=⟨b4,2,none⟩) (fun _=>rfl) _;have r8:zC (w7.setCell ⟨b4,2,none⟩ (.slice a3 1 q3)) b4 [.slice a1 0 c1, .slice a2 0 0, .slice a3 1 q3, .slice none 0 0]:=r8;generalize w7.setCell ⟨b4,2,none⟩ (.slice a3 1 q3)=w8 at r8 kS ⊢;have ho3:=HO3.out.1;rw [Nat.zero_add,List.nil_append] at ho3;obtain ⟨gc,hgc,rgc⟩:=zI6 ho3;subst hgc
   have HGC:Hid (W2.heap.size <= gc):=by
    rcases HO3.out.2.2 gc (by rfl) with h | h
    ·exact J66 _
    ·show _ <= _;omega
   have HSZ:Hid (b4 < w4.heap.size /\ w4.heap.size <= w6.heap.size /\ w6.heap.size <= W2.heap.size /\ W2.heap.size <= w7.heap.size /\ b6 < w6.heap.size /\ b4 ≠ b6 /\ w.heap.size <= b4):=⟨HR4.out.lt (by simp),HK6.out.size,HKV.out.size,HK7.out.size,HR6.out.lt (by simp),by
    have h1:=HR4.out.lt (by simp);have h2:=HB6.out;omega,by rw [<- HB4.out];exact (HK2.out.zB HKW.out).size⟩
   have HC8:=Lib.hid (rgc.keeps kS (fun e=>by have e':gc=b4:=e;have h1:=HSZ.out;have h2:=HGC.out;omega));have HI8:=Lib.hid ((HRI.out.1.keeps HK7.out (fun h=>h)).keeps kS (fun e=>by have e':gi=b4:=e;have h1:=HSZ.out;have h2:=HRI.out.2;omega));have HR68:=Lib.hid (((HR6.out.keeps HKV.out (fun h=>h)).keeps HK7.out (fun h=>h)).keeps kS (fun e=>by have e':b6=b4:=e;have h1:=HSZ.out;omega));have HR8:=Lib.hid r8;have HK8:Hid (Keeps zA w w8):=((((HK2.out.zB HK26.out).zB HKV.out).zB HK7.out).trans kS (fun q hq e=>by have e':q=b4:=e;have h1:=HSZ.out;omega));have y:=HR8.out.zAh;have u:=HR68.out.all2;have k8:=zH w8;clear r8 kS zc zf ho3 rgc;refine zCG 10 0 (by kernel_rfl) [some ((.pointer (some ⟨b4,0,none⟩))),some ((.pointer (some ⟨b4,0,none⟩))),some ((.pointer (some ⟨b4,0,none⟩))),some ((.pointer (some ⟨b4,3,none⟩))),some (.slice none 0 0),some ((.pointer (some ⟨b6,0,none⟩))),some (.int .i64 0),none,none,none] rfl EnH EnH.st _ rfl (fun _ _ _ _ h=>h) _ rfl (fun _ _ _=>by exact J156 _) ?_ ?_
   ·refine ⟨?_,?_,?_,?_,?_,?_,?_,?_,?_,?_,trivial⟩ <;> (intro vs gs W Q' hR hd hK;have HRW:Keeps zA w8 W:=((zH w8).drew).zB hR;simp only [zA1,zAg,zBQ,zJ,tz,Option.bind,Act.put] at hd hK ⊢;try simp only [hd] at hK ⊢)
    all_goals try (try clear hd;go_wp2_with (fail);first | exact hK _ _ (Keeps.refl _ _) rfl)
    ·clear hd
     go_wp2_with (at_make;refine wpList_make_own _ rfl _ _ _ rfl 0 3 i0 _ 1 Tryz.underlying22 hi0 hz0 hz1 _ _ _ 0 (by rfl) (by rfl) rfl (by rw [hz2];omega) (by unfold maxLen;omega) (Nat.zero_le _) ?_;intro W2 hown hgr;have HO:=Lib.hid hown;have HGR:=Lib.hid hgr;clear hown hgr)
     exact hK _ _ ((Keeps.refl zA W).grown HGR.out (by simp)) ⟨_,_,rfl⟩
    ·obtain ⟨a,c,e7⟩:∃ a c,vs 7=.slice a 0 c:=by simpa [EnH] using hd
     clear hd;rw [e7] at hK ⊢;go_wp2_with fail
     exact hK _ _ (Keeps.refl _ _) ⟨a,c,rfl⟩
    ·obtain ⟨a,c,e8⟩:∃ a c,vs 8=.agg #[.int .i64 1, .slice a 0 c, .int .i64 0]:=by simpa [EnH] using hd
     clear hd;rw [e8] at hK ⊢;go_wp2_with fail
     exact hK _ _ ((Keeps.refl zA W).alloc _) ⟨_,a,c,rfl,zC.zG (heap_alloc_new W _)⟩
   ·intro vs W3 hR hFF
    have HRW:Keeps zA w8 W3:=((zH w8).drew).zB hR;obtain ⟨g9,ra,rc,e9,rg⟩:=(hFF 9 (by decide):∃ g a c,vs 9=.slice (some ⟨g,0,none⟩) 1 1 /\ zC W3 g [.int .i64 1, .slice a 0 c, .int .i64 0]);have e0:vs 0=_:=hFF 0 (by decide);have e4:vs 4=_:=hFF 4 (by decide);simp only [zJ,tz,Option.bind,Act.put];rw [e0,e4,e9];have HRG3:=Lib.hid rg;have HKX:=Lib.hid HRW;have HRX:=Lib.hid (HR8.out.keeps HRW (fun h=>h));clear hFF e0 e4 e9 rg hR HRW y u k8;go_upto_region 9 with (at_builtin;refine zI _ (by rfl) _ _ 272 (by rfl) 0 276 k0 _ 3 40 Tryz.underlying272 hk0 hw0 hw1 hw2 rfl (by decide) (.slice none 0 0) 0 [] (by rfl) (World.ownsRow_nil _ _ _ _) (.slice (some ⟨g9,0,none⟩) 1 1) 1 [.int .i64 1, .slice ra 0 rc, .int .i64 0] (by rfl) (zC.src HRG3.out) rfl (by simp [Value.oneCell']) (by unfold maxLen;omega) (by omega) (Nat.zero_le _) ?_;intro a5 q5 w9 hout;have HO5:=Lib.hid hout;have HK9:Hid (Keeps zA W3 w9):=(zi.keeps hout (Keeps.refl _ _) (fun q e _=>by exact J152 _));have zr:=HRX.out.keeps HK9.out (fun h=>h);have zc:=zr.cell (k:=3) rfl;have zf:=zr.free (k:=3) (by simp);have HZR9:=Lib.hid zr;clear hout zr)
    have rA:=HZR9.out.set 3 (by simp) (.slice a5 1 q5);have kS:Keeps (fun q=>q=b4) w9 (w9.setCell ⟨b4,3,none⟩ (.slice a5 1 q5)):=(Keeps.refl (fun q=>q=b4) w9).setCell (p:=⟨b4,3,none⟩) (fun _=>rfl) _;have rA:zC (w9.setCell ⟨b4,3,none⟩ (.slice a5 1 q5)) b4 [.slice a1 0 c1, .slice a2 0 0, .slice (some ⟨gc,0,none⟩) 1 q3, .slice a5 1 q5]:=rA;generalize w9.setCell ⟨b4,3,none⟩ (.slice a5 1 q5)=wA at rA kS ⊢;have ho5:=HO5.out.1;rw [Nat.zero_add,List.nil_append] at ho5;obtain ⟨gf,hgf,rgf⟩:=zI6 ho5;subst hgf
    have HGF:Hid (W3.heap.size <= gf):=by
     rcases HO5.out.2.2 gf (by rfl) with h | h
     ·exact J66 _
     ·show _ <= _;omega
    have HSZ2:Hid (w8.heap.size <= W3.heap.size /\ gc < w8.heap.size /\ gi < w8.heap.size /\ b4 < w8.heap.size /\ w.heap.size <= w8.heap.size):=⟨HKX.out.size,HC8.out.lt (by simp),HI8.out.lt (by simp),HR8.out.lt (by simp),HK8.out.size⟩
    have HVM:Hid (VmC wA b4 1 a1 a2 ra c1 0 rc gc gi gf q3 ci q5):=by
     have h1:=HSZ.out;have h2:=HSZ2.out;have h3:=HGC.out;have h4:=HGF.out;have h5:=HRI.out.2;exact ⟨rA,((HC8.out.keeps HKX.out (fun h=>h)).keeps HK9.out (fun h=>h)).keeps kS (fun e=>by have e':gc=b4:=e;omega),((HI8.out.keeps HKX.out (fun h=>h)).keeps HK9.out (fun h=>h)).keeps kS (fun e=>by have e':gi=b4:=e;omega),rgf.keeps kS (fun e=>by have e':gf=b4:=e;omega),by omega,by omega,by omega⟩
    have HKA:Hid (Keeps zA w wA):=((HK8.out.zB HKX.out).zB HK9.out).trans kS (fun q hq e=>by have e':q=b4:=e;have h1:=HSZ.out;omega);clear rA kS zc zf ho5 rgf;go_wp2_with fail
    rw [rounds_succ];go_wp2_with (go_at_call 176;refine (zNu HVM.out).mono ?_;rintro e wB ⟨rfl,hB,gB⟩;have HB:=Lib.hid hB;have GB:=Lib.hid gB;clear hB gB)
    go_ret2
    have hgf:w.heap.size <= gf:=by have h2:=HSZ2.out;have h4:=HGF.out;omega
    exact ⟨b4,a1,a2,ra,c1,0,rc,gc,gi,gf,q3,ci,q5,rfl,HB.out,hgf,HKA.out.trans GB.out (fun q hq e=>by have e':q=gf:=e;omega)⟩
open Go.Shelf
theorem zNM (w:World):Calls Tryz.prog 181 #[.int .i64 0] w fun e w'=>e=.returned (.int .u64 1) /\ w=w':=by
 go_enter Tryz.func181,Tryz.ntmps181
 exact J125 _
theorem zPm (w:World):Calls Tryz.prog 119 #[.slice none 0 0] w fun e w'=>e=.returned (.int .u64 0) /\ w=w':=by
 go_enter Tryz.func119,Tryz.ntmps119
 go_wp2_with fail
 refine wp_loop_rounds 1 ?_
 rw [rounds_succ];exact J125 _
theorem zPi (w:World) (la:Option Addr) (lc:Nat) (h:zU w (.slice la 1 lc) 1 [.int .i64 0]):Calls Tryz.prog 119 #[.slice la 1 lc] w fun e w'=>e=.returned (.int .u64 1) /\ w=w':=by
 obtain ⟨ad,cap,e,hs⟩:=h;cases e;obtain ⟨g,o,rfl,hc⟩:=hs (by decide);have h0:=hc 0 (.int .i64 0) rfl;rw [Nat.add_zero] at h0;clear hc hs;go_enter Tryz.func119,Tryz.ntmps119
 go_wp2_with fail
 refine wp_loop_rounds 2 ?_
 rw [rounds_succ];go_wp2_with (go_at_call 181;refine (zNM _).mono ?_;rintro e w' ⟨rfl,rfl⟩)
 rw [rounds_succ];exact J125 _
theorem zPl (w:World):Calls Tryz.prog 170 #[.int .u64 0, .int .i64 0] w fun e w'=>e=.returned (.int .u64 0) /\ w=w':=by
 go_enter Tryz.func170,Tryz.ntmps170
 go_wp2_with (go_at_call 181;refine (zNM _).mono ?_;rintro e w' ⟨rfl,rfl⟩)
 exact J36 _
theorem zPb (w:World):Calls Tryz.prog 171 #[.int .u64 0] w fun e w'=>e=.returned (.func (.func 205) #[] #[.pointer (some ⟨w.heap.size,0,none⟩)]) /\ w'=w.alloc (.cells #[.int .u64 0] 170):=by
 have hmf:∀ (fn:Fn) (first cap:Array Value) (w:World),(Instr.makeFunc fn first cap).run Tryz.prog w=.ok (.func fn first cap) w:=fun _ _ _ _=>rfl
 go_enter Tryz.func171,Tryz.ntmps171
 exact J125 _
theorem zIT (n b:Nat) (Kp:World -> World -> Prop) (w:World) (hlt:b < w.heap.size) (hb:w.cell? ⟨b,0,none⟩=some (.int .u64 0)) :
 SeqStopsK (α:=Empty) Fence.wide n Tryz.prog 205 #[.pointer (some ⟨b,0,none⟩)] (fun x=>x.elim) Kp (fun xs=>xs=[]) (fun _=>False) 0 w:=fun l J Jx W hW hJ hJx hY h0=>by
 refine callsIn_wide.2 ?_
 have hb':W.cell? ⟨b,0,none⟩=some (.int .u64 0):=(hW.cell (p:=⟨b,0,none⟩) hlt).trans hb;show Calls Tryz.prog 205 #[.func (.yield l) #[] #[], .pointer (some ⟨b,0,none⟩)] W _
 clear hW hJ hJx hY hb;go_enter Tryz.func205,Tryz.ntmps205
 go_wp2_with fail
 refine wp_loop_rounds 1 ?_
 rw [rounds_succ];go_wp2_with fail
 go_returns
 exact ⟨⟨_,rfl⟩, .inl ⟨[],rfl,h0⟩⟩
theorem zMR (na:Option Addr) (nn nc:Nat) (w:World):Calls Tryz.prog 116 #[.int .u64 0, .slice na nn nc, .agg #[.int .i64 0, .int .i64 9, .int .i64 0, .int .i64 0, .int .i64 0]] w fun e w'=>e=.returned (.int .u64 0) /\ Below w.heap.size w w':=by
 refine (callsIn_wide (n:=6)).1 ?_
 refine callsIn_of_wp_marks Tryz.func116 rfl trivial ?_ rfl
 simp only [Tryz.ntmps116,List.size_toArray,List.length_cons,List.length_nil,Nat.reduceAdd,Nat.reduceSub,Array.replicate_succ,Array.replicate_zero,List.push_toArray,List.append_toArray,List.nil_append,List.cons_append];gi_wp2_with (first | (refine ⟨trivial,?_⟩;gi_at_call 170;refine (callsIn_wide.2 (zPl _)).mono ?_;rintro e w' ⟨rfl,rfl⟩) | (refine ⟨trivial,?_⟩;gi_at_call 171;refine (callsIn_wide.2 (zPb _)).mono ?_;rintro e w' ⟨rfl,rfl⟩))
 have hc:=(zC.zG (heap_alloc_new ((w.alloc (.cells #[.slice na nn nc] 32)).alloc (.cells #[.int .i64 0, .int .i64 9, .int .i64 0, .int .i64 0, .int .i64 0] 67)) (.cells #[.int .u64 0] 170))).cell (k:=0) rfl;have hd:=(zC.zG (heap_alloc_new (((w.alloc (.cells #[.slice na nn nc] 32)).alloc (.cells #[.int .i64 0, .int .i64 9, .int .i64 0, .int .i64 0, .int .i64 0] 67)).alloc (.cells #[.int .u64 0] 170)) (.cells #[.int .u64 0] 170))).cell (k:=0) rfl;simp only [World.size_alloc] at hc hd;have hB0:Below w.heap.size w ((((w.alloc (.cells #[.slice na nn nc] 32)).alloc (.cells #[.int .i64 0, .int .i64 9, .int .i64 0, .int .i64 0, .int .i64 0] 67)).alloc (.cells #[.int .u64 0] 170)).alloc (.cells #[.int .u64 0] 170)):=((((Below.refl _ w).alloc (Nat.le_refl _) _).alloc (by simp) _).alloc (by simp;omega) _).alloc (by simp;omega) _
 refine wpIn_rangeFunc_ownF (α:=Empty) rfl (by decide) (gf:=205) (lb:=#[.pointer (some ⟨w.heap.size+1+1+1,0,none⟩)]) rfl trivial (enters_of Tryz.func205 (by kernel_rfl) rfl)
  (zIT _ (w.heap.size+1+1+1) (Below w.heap.size) _ (by simp) hd) belowK_t (belowK_b (by simp;omega)) (Below.refl _ _) (fun x=>x.elim)
  (fun pre W=>W.cell? ⟨w.heap.size+1+1,0,none⟩=some (.int .u64 0) /\ Below w.heap.size w W)
  (fun _ _ _=>False)
  (OwnFrom.and (Own.from (fun s A B row hs hg hr=>cell_kept hs hg hr) _) (ownFrom_below (Nat.le_refl _) (by simp;omega)))
  (fun _ _ _ _ _ hs _ _=>hs)
  ⟨((Keeps.refl zA _).alloc _).cell (p:=⟨_,0,none⟩) (fun h=>h) hc,hB0⟩
  (fun x=>x.elim) ?assign ?body ?done ?stop
 case assign =>
  intro l x
  exact x.elim
 case body =>
  intro l pre x
  exact x.elim
 case done =>
  rintro D ys W hD rfl ⟨hc,hB⟩ hK
  gi_wp2
  refine ⟨by simp, .inl ⟨_,_,rfl,run_takeDeferred hK,?_⟩⟩
  exact ⟨_,results_tmp rfl _ _ _,rfl,hB.trans (belowK_b (w:=w) (Nat.le_refl _) W D _ _ (by simp at hD;omega) hK rfl rfl)⟩
 case stop =>
  rintro D c pre W _ _ h _
  exact h.elim
def XC (ca:Option Addr) (cc gt ot tc gs bx:Nat) (nx:Value) (fn:Fn) (an a0 a1 a2 a3 a4:Int) (ex fo:Value):List Value :=
 [.slice ca 0 cc, .int .i64 0, .slice (some ⟨gt,ot,none⟩) 1 tc, .pointer (some ⟨gs,0,none⟩),nx, .func fn #[.pointer (some ⟨bx,0,none⟩)] #[], .int .i64 an, .int .i64 a0, .int .i64 a1, .int .i64 a2, .int .i64 a3, .int .i64 a4,ex,fo]
theorem zOn {ca:Option Addr} {cc gt ot tc gI gs bx:Nat} {nx ex fo v:Value} {fn:Fn} {an a0 a1 a2 a3 a4:Int} {w:World} (hx:zC w bx (XC ca cc gt ot tc gs bx nx fn an a0 a1 a2 a3 a4 ex fo)) (hi:zC1 w gt ot gI) (hs:zP w gs v ([]:List Nd)):Calls Tryz.prog 74 #[(.pointer (some ⟨bx,0,none⟩))] w fun e w'=>∃ b c1 oa ra c2 oc rc gc gi gf kc ki kf,e=.returned (.tuple #[(.pointer (some ⟨b,0,none⟩)), .slice none 0 0]) /\ VmC w' b 2 c1 oa ra c2 oc rc gc gi gf kc ki kf /\ Keeps zA w w':=by
 have HS:=Lib.hid hs;have y:∀ W,Keeps zA w W -> W.cell? ⟨bx,0,none⟩=some (.slice ca 0 cc) /\ W.cell? ⟨bx,1,none⟩=some (.int .i64 0) /\ W.cell? ⟨bx,2,none⟩=some (.slice (some ⟨gt,ot,none⟩) 1 tc):=fun W q=>⟨hx.cellW rfl W q,hx.cellW rfl W q,hx.cellW rfl W q⟩
 have HX3:Hid (∀ W,Keeps zA w W -> W.cell? ⟨bx,3,none⟩=some ((.pointer (some ⟨gs,0,none⟩)))):=fun W q=>hx.cellW rfl W q
 have HN:=Lib.hid (zOi w ca cc gt ot tc gI hi);have k0:=zH w;clear hx hi hs;go_enter Tryz.func74,Tryz.ntmps74
 go_upto_region 3 with (go_at_call 117;refine HN.out.mono ?_;rintro e w1 ⟨b,c1,oa,ra,c2,oc,rc,gc,gi,gf,kc,ki,kf,rfl,g1,g2,g3⟩;have HM1:=Lib.hid g1;have HF1:=Lib.hid g2;have HK1:=Lib.hid g3;clear g1 g2 g3 y k0)
 have y:=HX3.out w1 HK1.out;have HPA:Hid (Calls Tryz.prog 79 #[(.pointer (some ⟨gs,0,none⟩))] w1 (zBM w1 (zCb (([]:List Nd).map Nd.thread)))):=zDD w1 gs v ([]:List Nd) (HS.out.keeps HK1.out (fun _ _ h=>h)) (J168 _) (by intro x hx;simp at hx);go_wp2_with (go_at_call 79;refine HPA.out.mono ?_;rintro e w2 ⟨v2,rfl,h1,h2,_⟩;have HK2:Hid (Keeps zA w1 w2):=Keeps.zBv h2 _;have hsr:zU w2 v2 ([]:List Int).length (ints []):=zAa.src h1;clear h1 h2 y;obtain ⟨pa,pc,rfl,hp⟩:=hsr;simp only [List.length_cons,List.length_nil,Nat.zero_add] at hp ⊢;have HPP:=Lib.hid hp;clear hp)
 refine wp_loop_rounds 1 ?_
 rw [rounds_succ];go_wp2_with fail
 go_ret2
 exact ⟨b,c1,oa,ra,c2,oc,rc,gc,gi,gf,kc,ki,kf,rfl,HM1.out.zD HK2.out,HK1.out.zB HK2.out⟩
theorem zOa {ca:Option Addr} {cc gt ot tc gI gs bx:Nat} {nx ex fo v:Value} {fn:Fn} {an a0 a1 a2 a3 a4:Int} {w:World} (hx:zC w bx (XC ca cc gt ot tc gs bx nx fn an a0 a1 a2 a3 a4 ex fo)) (hi:zC1 w gt ot gI) (hs:zP w gs v ([⟨0,1,0,0⟩]:List Nd)):Calls Tryz.prog 74 #[(.pointer (some ⟨bx,0,none⟩))] w fun e w'=>∃ b c1 oa ra c2 oc rc gc gi gf kc ki kf gl cl,e=.returned (.tuple #[(.pointer (some ⟨b,0,none⟩)), .slice (some ⟨gl,0,none⟩) 1 cl]) /\ VmC w' b 3 c1 oa ra c2 oc rc gc gi gf kc ki kf /\ zC w' gl [.int .i64 0, .int .i64 9, .int .i64 0, .int .i64 0, .int .i64 0] /\ 1 <= cl /\ w.heap.size <= gl /\ Keeps zA w w':=by
 have HS:=Lib.hid hs;have y:∀ W,Keeps zA w W -> W.cell? ⟨bx,0,none⟩=some (.slice ca 0 cc) /\ W.cell? ⟨bx,1,none⟩=some (.int .i64 0) /\ W.cell? ⟨bx,2,none⟩=some (.slice (some ⟨gt,ot,none⟩) 1 tc):=fun W q=>⟨hx.cellW rfl W q,hx.cellW rfl W q,hx.cellW rfl W q⟩
 have HX3:Hid (∀ W,Keeps zA w W -> W.cell? ⟨bx,3,none⟩=some ((.pointer (some ⟨gs,0,none⟩)))):=fun W q=>hx.cellW rfl W q
 have HN:=Lib.hid (zOi w ca cc gt ot tc gI hi);have k0:=zH w;clear hx hi hs;go_enter Tryz.func74,Tryz.ntmps74
 go_upto_region 3 with (go_at_call 117;refine HN.out.mono ?_;rintro e w1 ⟨b,c1,oa,ra,c2,oc,rc,gc,gi,gf,kc,ki,kf,rfl,g1,g2,g3⟩;have HM1:=Lib.hid g1;have HF1:=Lib.hid g2;have HK1:=Lib.hid g3;clear g1 g2 g3 y k0)
 have y:=HX3.out w1 HK1.out;have HPA:Hid (Calls Tryz.prog 79 #[(.pointer (some ⟨gs,0,none⟩))] w1 (zBM w1 (zCb (([⟨0,1,0,0⟩]:List Nd).map Nd.thread)))):=zDD w1 gs v ([⟨0,1,0,0⟩]:List Nd) (HS.out.keeps HK1.out (fun _ _ h=>h)) (J168 _) (by intro x hx;simp at hx);go_wp2_with (go_at_call 79;refine HPA.out.mono ?_;rintro e w2 ⟨v2,rfl,h1,h2,_⟩;have HK2:Hid (Keeps zA w1 w2):=Keeps.zBv h2 _;have hsr:zU w2 v2 ([0]:List Int).length (ints [0]):=zAa.src h1;clear h1 h2 y;obtain ⟨pa,pc,rfl,hp⟩:=hsr;simp only [List.length_cons,List.length_nil,Nat.zero_add] at hp ⊢;have HPP:=Lib.hid hp;clear hp)
 obtain ⟨g2,o2,rfl,hp2⟩:=HPP.out (by decide);have y:∀ W,Keeps zA w2 W -> W.cell? ⟨g2,o2,none⟩=some (.int .i64 0):=zL (hp2 0 _ rfl)
 have HM2:=Lib.hid (HM1.out.zD HK2.out);have HST:=Lib.hid (step0 HM2.out);have k2:=zH w2;obtain ⟨i0,hi0,hz0,hz1,hz2⟩:=info_parts zKg;clear hp2 HPP;refine wp_loop_rounds 2 ?_
 rw [rounds_succ];go_upto_region 7 with (go_at_call 118;refine HST.out.mono ?_;rintro e w3 ⟨rfl,g1,g2⟩;have HM3:=Lib.hid g1;have HK3:=Lib.hid g2;clear g1 g2 y k2)
 obtain ⟨b9,w4,e1,e2,R4,K4,_⟩:=newRow w3 [.int .i64 0, .int .i64 9, .int .i64 0, .int .i64 0, .int .i64 0] 67;rw [e1,e2];have HM4:=Lib.hid (HM3.out.zD K4);have HK4:=Lib.hid K4;have y:=R4.five;have k4:=zH w4;clear e1 e2 R4 K4;go_upto_region 8 with (at_builtin;obtain ⟨g,w5,e1,e2,R5,K5,_⟩:=newRow w4 [.int .i64 0, .int .i64 9, .int .i64 0, .int .i64 0, .int .i64 0] 67;rw [e1,e2];have HR5:=Lib.hid R5;have HK5:=Lib.hid K5;clear e1 e2 R5 K5;refine zI _ (by rfl) _ _ 31 (by rfl) 0 67 i0 _ 5 40 Tryz.underlying31 hi0 hz0 hz1 hz2 rfl (by decide) (.slice none 0 0) 0 [] (by rfl) (World.ownsRow_nil _ _ _ _) (.slice (some ⟨g,0,none⟩) 1 1) 1 [.int .i64 0, .int .i64 9, .int .i64 0, .int .i64 0, .int .i64 0] (by rfl) (zC.src HR5.out) rfl (by simp [Value.oneCell']) (by unfold maxLen;omega) (by omega) (Nat.zero_le _) ?_;intro ad cap w6 hout;have HO:=Lib.hid hout;clear hout)
 go_wp2_with fail
 rw [rounds_succ];go_wp2_with fail
 go_ret2
 have ho:=HO.out.1;rw [Nat.zero_add,List.nil_append] at ho;have hK6:Keeps zA w5 w6:=zi.keeps HO.out (Keeps.refl _ _) (fun q e _=>by exact J152 _);have hk46:Keeps zA w4 w6:=HK5.out.zB hK6;obtain ⟨ad',cap',e3,_,_,hr⟩:=zBL.of (B:=0) ho (fun _ _=>Nat.zero_le _);simp only [Value.slice.injEq,true_and] at e3;obtain ⟨rfl,rfl⟩:=e3;obtain ⟨gl,rfl,_,hrow⟩:=hr (by decide)
 have hcap:1 <= cap:=by
  rcases ho.2 with ⟨e,_⟩ | ⟨_,cap',cur,e,_,_,h1,_⟩
  ·simp at e
  ·simp only [Value.slice.injEq] at e
   omega
 have hgl:w.heap.size <= gl:=by
  have h1:=HK1.out.size;have h2:=HK2.out.size;have h3:=HK3.out.size;have h4:=HK4.out.size;have h5:=HK5.out.size;rcases HO.out.2.2 gl (by simp [Value.ownBlock]) with h | h
  ·exact J66 _
  ·omega
 exact ⟨b,c1,oa,ra,c2,oc,rc,gc,gi,gf,kc,ki,kf,gl,cap,rfl,HM4.out.zD hk46,hrow,hcap,hgl,((HK1.out.zB HK2.out).trans HK3.out (fun q hq e=>by have e':q=gf:=e;have:=HF1.out;omega)).zB (HK4.out.zB hk46)⟩
structure zKi (w:World) (b g cap:Nat) (xs:List Int):Prop where
 row:zC w b [.slice (some ⟨g,0,none⟩) xs.length cap]
 l:zC w g (ints xs)
 ne:g ≠ b
theorem zKi.keeps {S:Nat -> Prop} {w w':World} {b g cap:Nat} {xs:List Int} (h:zKi w b g cap xs) (hk:Keeps S w w') (h1:¬ S b) (h2:¬ S g):zKi w' b g cap xs :=
 ⟨h.row.keeps hk h1,h.l.keeps hk h2,h.ne⟩
end Go.Proofs.YtoapgjjepiopbaaGreatDoor
