/- Layer D: texts joined. -/
import Derived.Test.YtoapgjjepiopbaaGreatDoorD45
import Derived.RangeFuncNested
import Derived.RangeFuncBound
import Derived.Shelf.RegionOpen
import Derived.OwnWalkIn
import Derived.LoopNIn
import Derived.LoopIn
set_option linter.all false
set_option maxHeartbeats 4000000
set_option maxRecDepth 20000
namespace Go.Proofs.YtoapgjjepiopbaaGreatDoor
open Go.RowKit
theorem J72(P:Prop) (h:P:=by
 clear hd;rw[e4] at hK h1 ⊢;have HCN:=yA (zDJ W ad 0 cap [] h1);clear h1;go_wp2_with (go_at_call 69;refine HCN.out.mono ?_;rintro e W2 ⟨rfl,rfl⟩)
 exact hK _ _ (yB _ _) ⟨ad,rfl⟩):P:=h
theorem J78(P:Prop) (h:P:=by
 clear hd;go_wp2_with (go_at_call 59;refine(zBl _ _ [] ⟨_,_,rfl,λh=>absurd rfl h⟩ (by simp)).mono ?_;rintro e W2 ⟨ad,cap,rfl,g1,g2,g3⟩)
 exact hK _ _ g2 ⟨ad,cap,rfl,g1⟩):P:=h
theorem J180(P:Prop)(h:P:=by constructor <;> simp[Nd.Ok]):P:=h
def EmF(B:Nat)(j:Nat)(v:Value)(W:World):Prop:=
 match j with
 | 4=>∃ad cap,v=.slice ad 0 cap/\W.ownsRow 0 3 1 v 0 (ints [])
 | 5=>∃ad,v=.slice ad 0 0
 | 10=>∃ad cap,v=.slice ad 0 cap/\W.ownsRow 0 3 1 v 0 (ints [])
 | 11=>∃ad,v=.slice ad 0 0
 | 12=>∃a1 a2,v=.agg #[.slice a1 0 0,.slice a2 0 0,.slice none 0 0,.slice none 0 0]
 | 13=>∃z,v=.pointer (some ⟨z,0,none⟩)/\B<=z/\zB W z [.slice none 0 0,.slice none 0 0,.slice none 0 0,.slice none 0 0]
 | _=>True
theorem EmF.st{B:Nat}(j:Nat)(v:Value)(W W':World)(h:EmF B j v W)(hk:Keeps zA W W'):EmF B j v W':=by
 unfold EmF at *;split at h
 case h_1=>obtain⟨ad,cap,e,h1⟩:=h;exact⟨ad,cap,e,zD h1 hk (λ_ _ h=>h)⟩
 case h_3=>obtain⟨ad,cap,e,h1⟩:=h;exact⟨ad,cap,e,zD h1 hk (λ_ _ h=>h)⟩
 case h_6=>obtain⟨z,e,h1,h2⟩:=h;exact⟨z,e,h1,h2.keeps hk (λh=>h)⟩
 all_goals first|exact h|trivial
theorem zN7{w:World}{b gc gi gf:Nat}{ca oa ra:Option Addr}{cc oc rc kc ki kf:Nat}{st ko:Int}(h:VmC w b st ca oa ra cc oc rc gc gi gf kc ki kf)(hst:st=2/\ko=9\/st=3/\ko=0):Calls Tryz.prog 121 #[(.pointer (some ⟨b,0,none⟩))] w λe w'=>∃a1 a2 a3 q3 a4 q4,e=.returned (.agg #[.slice a1 0 0,.slice a2 0 0,.slice a3 1 q3,.slice a4 1 q4])/\zl w' (.slice a3 1 q3) 1 [.int .i64 st]/\zl w' (.slice a4 1 q4) 1 [.int .i64 ko,.int .i64 0]/\Keeps zA w w'/\∀q,(Value.slice a3 1 q3).ownBlock=some q\/(Value.slice a4 1 q4).ownBlock=some q->w.heap.size<=q:=by
 have H:=yA h;have HST:=yA hst;obtain⟨i0,hi0,hz0,hz1,hz2⟩:=info_parts zBI;obtain⟨j0,hj0,hy0,hy1,hy2⟩:=info_parts zJF;clear h hst;go_enter Tryz.func121,Tryz.ntmps121
 go_upto_region 1 with fail
 obtain⟨bz,w1,e1,e2,R1,K1,_⟩:=newRow w [.slice none 0 0,.slice none 0 0,.slice none 0 0,.slice none 0 0] 34;rw[e1,e2];have HB1:Hid (bz=w.heap.size):=e1.symm;have HR1:=yA R1;have HK1:=yA K1;have y:=(H.out.zG K1).all;have k1:=zF w1;clear e1 e2 R1 K1;refine zBG 14 (by kernel_rfl) [some ((.pointer (some ⟨b,0,none⟩))),some ((.pointer (some ⟨b,0,none⟩))),some ((.pointer (some ⟨b,0,none⟩))),some (.slice ca 0 cc),none,none,some ((.pointer (some ⟨b,0,none⟩))),some ((.pointer (some ⟨b,0,none⟩))),some ((.pointer (some ⟨b,1,none⟩))),some (.slice oa 0 oc),none,none,none,none] rfl (EmF w1.heap.size) EmF.st ?_ ?_
 ·refine⟨?_,?_,?_,?_,?_,?_,?_,?_,?_,?_,?_,?_,?_,?_,trivial⟩ <;> (intro vs gs W Q' hR hd hK;have HRW:Keeps zA w1 W:=((zF w1).drew).zC hR;simp only[zBK,zAt,zBo,zJ,tz,Option.bind,Act.put] at hd hK ⊢;try simp only[hd] at hK ⊢)
  all_goals try(try clear hd;go_wp2_with (fail);first|exact hK _ _ (yB _ _) rfl)
  ·exact J78 _
  ·obtain⟨ad,cap,e4,h1⟩:∃ad cap,vs 4=.slice ad 0 cap/\W.ownsRow 0 3 1 (vs 4) 0 (ints []):=by simpa [EmF] using hd
   exact J72 _
  ·exact J78 _
  ·obtain⟨ad,cap,e4,h1⟩:∃ad cap,vs 10=.slice ad 0 cap/\W.ownsRow 0 3 1 (vs 10) 0 (ints []):=by simpa [EmF] using hd
   exact J72 _
  ·obtain⟨a1,e5⟩:∃ad,vs 5=.slice ad 0 0:=by simpa [EmF] using hd.1
   obtain⟨a2,e11⟩:∃ad,vs 11=.slice ad 0 0:=by simpa [EmF] using hd.2.1
   clear hd;rw[e5,e11] at hK ⊢;go_wp2_with fail
   exact hK _ _ (yB _ _) ⟨a1,a2,rfl⟩
  ·exact J34 _
 ·intro vs W hR hFF
  have HRW:Keeps zA w1 W:=((zF w1).drew).zC hR;obtain⟨a1,a2,e12⟩:=(hFF 12 (by decide):∃a1 a2,vs 12=.agg #[.slice a1 0 0,.slice a2 0 0,.slice none 0 0,.slice none 0 0]);obtain⟨z,e13,hz,rz⟩:=(hFF 13 (by decide):∃z,vs 13=.pointer (some ⟨z,0,none⟩)/\w1.heap.size<=z/\zB W z [.slice none 0 0,.slice none 0 0,.slice none 0 0,.slice none 0 0]);simp only[zJ,tz,Option.bind,Act.put];rw[e12,e13];have c0:=rz.cell (k:=0) rfl;have c1:=rz.cell (k:=1) rfl;have c2:=rz.cell (k:=2) rfl;have c3:=rz.cell (k:=3) rfl;have f0:=rz.free (k:=0) (by simp);have f1:=rz.free (k:=1) (by simp);have f2:=rz.free (k:=2) (by simp);have f3:=rz.free (k:=3) (by simp);have HsR:=yA rz;have HZ:Hid (w1.heap.size<=z/\bz<w1.heap.size):=⟨hz,HR1.out.lt (by simp)⟩;have HKW:=yA HRW;clear hFF e12 e13 hR HRW y k1 rz hz;go_upto_region 2 with fail
  have rs:zB ((((W.setCell ⟨z,0,none⟩ (.slice a1 0 0)).setCell ⟨z,1,none⟩ (.slice a2 0 0)).setCell ⟨z,2,none⟩ (.slice none 0 0)).setCell ⟨z,3,none⟩ (.slice none 0 0)) z [.slice a1 0 0,.slice a2 0 0,.slice none 0 0,.slice none 0 0]:=((((HsR.out.set 0 (by simp) (.slice a1 0 0)).set 1 (by simp) (.slice a2 0 0)).set 2 (by simp) (.slice none 0 0)).set 3 (by simp) (.slice none 0 0));have ks:Keeps (λq=>q=z) W ((((W.setCell ⟨z,0,none⟩ (.slice a1 0 0)).setCell ⟨z,1,none⟩ (.slice a2 0 0)).setCell ⟨z,2,none⟩ (.slice none 0 0)).setCell ⟨z,3,none⟩ (.slice none 0 0)):=(((((yB (λq=>q=z) W).setCell (p:=⟨z,0,none⟩) (λ_=>rfl) (.slice a1 0 0)).setCell (p:=⟨z,1,none⟩) (λ_=>rfl) (.slice a2 0 0)).setCell (p:=⟨z,2,none⟩) (λ_=>rfl) (.slice none 0 0)).setCell (p:=⟨z,3,none⟩) (λ_=>rfl) (.slice none 0 0));generalize ((((W.setCell ⟨z,0,none⟩ (.slice a1 0 0)).setCell ⟨z,1,none⟩ (.slice a2 0 0)).setCell ⟨z,2,none⟩ (.slice none 0 0)).setCell ⟨z,3,none⟩ (.slice none 0 0))=w4 at rs ks ⊢;have HR4:=yA rs;have HK4:Hid (Keeps zA w1 w4):=HKW.out.trans ks (λq hq e=>by have e':q=z:=e;have:=HZ.out.1;omega);have HQ4:=yA (HR1.out.keeps HK4.out (λh=>h));have H4:=yA (H.out.zG (HK1.out.zC HK4.out));have y:=H4.out.all;have k4:=zF w4;clear rs ks c0 c1 c2 c3 f0 f1 f2 f3;go_wp2_with fail
  refine yY 2 ?_
  rw[yQ];go_upto_region 5 with fail
  obtain⟨b5,w5,e1,e2,R5,K5,_⟩:=newRow w4 [st,.slice ra 0 rc,(0:Int)] 276;try rw[e1]
  try rw[e2]
  have u:=R5.zA7;have HK5:=yA K5;have rz5:=HR4.out.keeps K5 (λh=>h);have HR5:=yA rz5;have c2:=zL (rz5.cell (k:=2) rfl);have k5:=zF w5;clear e1 e2 R5 K5 rz5 y k4;go_upto_region 6 with(at_builtin;obtain⟨g,w6,e1,e2,R6,K6,_⟩:=newRow w5 [st] 3;rw[e1,e2];have HR6:=yA R6;have HK6:=yA K6;clear e1 e2 R6 K6 u c2 k5;refine zI _ (by rfl) _ _ 22 (by rfl) 0 3 i0 _ 1 8 Tryz.underlying22 hi0 hz0 hz1 hz2 rfl (by decide) (.slice none 0 0) 0 [] (by rfl) (World.ownsRow_nil _ _ _ _) (.slice (some ⟨g,0,none⟩) 1 1) 1 [.int .i64 st] (by rfl) (xE HR6.out) rfl (by simp[Value.oneCell']) (by unfold maxLen;omega) (by omega) (yF _) ?_;intro a3 q3 w7 hout;have HO3:=yA hout;have HK7:Hid (Keeps zA w4 w7):=(xD hout (HK5.out.zC HK6.out) (λq e _=>by exact J170 _));have zr:=HR4.out.keeps HK7.out (λh=>h);have zc:=zr.cell (k:=2) rfl;have zf:=zr.free (k:=2) (by simp);have HZR:=yA zr;clear hout zr)
  have r7:=HZR.out.set 2 (by simp) (.slice a3 1 q3);have kS:Keeps (λq=>q=z) w7 (w7.setCell ⟨z,2,none⟩ (.slice a3 1 q3)):=(yB (λq=>q=z) w7).setCell (p:=⟨z,2,none⟩) (λ_=>rfl) _;have r7:zB (w7.setCell ⟨z,2,none⟩ (.slice a3 1 q3)) z [.slice a1 0 0,.slice a2 0 0,.slice a3 1 q3,.slice none 0 0]:=r7;generalize w7.setCell ⟨z,2,none⟩ (.slice a3 1 q3)=w8 at r7 kS ⊢;have ho3:=HO3.out.1;rw[xA,uG] at ho3
  have HG3:Hid (∀q,(Value.slice a3 1 q3).ownBlock=some q->q≠z/\bz<q):=λq e=>by
   have h1:=HR4.out.lt (by simp);have h2:=HZ.out;have h3:=HK6.out.size;have h4:=HK5.out.size;rcases HO3.out.2.2 q (by rw[xA];exact e) with h|h
   ·exact J65 _
   ·exact J54 _
  have HO8:=yA (zD ho3 kS (λq e e2=>(HG3.out q e).1 e2));have HR8:=yA r7;have HK8:Hid (Keeps zA w1 w8):=(HK4.out.zC HK7.out).trans kS (λq hq e=>by have e':q=z:=e;have:=HZ.out.1;omega);have HQ8:=yA (HR1.out.keeps HK8.out (λh=>h));have H8:=yA (H.out.zG (HK1.out.zC HK8.out))
  have HA:Hid (∀W,Keeps zA w8 W->Calls Tryz.prog 178 #[(.pointer (some ⟨b,0,none⟩)),(0:Int)] W λe w'=>e=.returned (.agg #[ko,(0:Int)])/\Keeps zA W w'):=λW hk=>by
   have:=zIY (H8.out.zG hk) (HST.out.imp (λh=>h.1) (λh=>h.1))
   rcases HST.out with⟨e1,e2⟩|⟨e1,e2⟩
   ·rw[e2];rw[if_pos e1] at this;exact this
   ·rw[e2];rw[if_neg (by omega)] at this;exact this
  have y:=HR8.out.zBF;have k8:=zF w8;clear r7 kS zc zf ho3;refine zBG 6 (by kernel_rfl) [some ((.pointer (some ⟨z,3,none⟩))),some (.slice none 0 0),some ((.pointer (some ⟨b,0,none⟩))),some (.int .i64 0),some (.agg #[ko,(0:Int)]),none] rfl (λj v W=>∃g,v=.slice (some ⟨g,0,none⟩) 1 1/\zB W g [ko,(0:Int)]) (λj v W W' h hk=>by exact J181 _) ?_ ?_
  ·refine⟨?_,?_,?_,?_,?_,?_,trivial⟩ <;> (intro vs gs W Q' hR hd hK;have HRW:Keeps zA w8 W:=((zF w8).drew).zC hR;simp only[zBK,zAt,zBo,zJ,tz,Option.bind,Act.put] at hd hK ⊢;try simp only[hd] at hK ⊢)
   all_goals try(try clear hd;go_wp2_with (go_at_call 178;refine(HA.out _ HRW).mono ?_;rintro e W1 ⟨rfl,g1⟩);first|exact hK _ _ (yB _ _) rfl|exact hK _ _ g1 rfl)
   ·exact J46 _
  ·intro vs W2 hR hFF
   have HRW:Keeps zA w8 W2:=((zF w8).drew).zC hR;obtain⟨g5,e5,rg⟩:=(hFF 5 (by decide):∃g,vs 5=.slice (some ⟨g,0,none⟩) 1 1/\zB W2 g [ko,(0:Int)]);have e0:vs 0=_:=hFF 0 (by decide);have e1:vs 1=_:=hFF 1 (by decide);simp only[zJ,tz,Option.bind,Act.put];rw[e0,e1,e5];have HRG:=yA rg;have HKV:=yA HRW;have HRV:=yA (HR8.out.keeps HRW (λh=>h));clear hFF e0 e1 e5 rg hR HRW y k8;go_upto_region 7 with(at_builtin;refine zI _ (by rfl) _ _ 32 (by rfl) 0 138 j0 _ 2 16 Tryz.underlying32 hj0 hy0 hy1 hy2 rfl (by decide) (.slice none 0 0) 0 [] (by rfl) (World.ownsRow_nil _ _ _ _) (.slice (some ⟨g5,0,none⟩) 1 1) 1 [.int .i64 ko,.int .i64 0] (by rfl) (xE HRG.out) rfl (by simp[Value.oneCell']) (by unfold maxLen;omega) (by omega) (yF _) ?_;intro a4 q4 w9 hout;have HO4:=yA hout;have HK9:Hid (Keeps zA w8 w9):=(xD hout HKV.out (λq e _=>by exact J170 _));have zr:=HR8.out.keeps HK9.out (λh=>h);have zc:=zr.cell (k:=3) rfl;have zf:=zr.free (k:=3) (by simp);have HZR9:=yA zr;clear hout zr)
   have r9:=HZR9.out.set 3 (by simp) (.slice a4 1 q4);have kS:Keeps (λq=>q=z) w9 (w9.setCell ⟨z,3,none⟩ (.slice a4 1 q4)):=(yB (λq=>q=z) w9).setCell (p:=⟨z,3,none⟩) (λ_=>rfl) _;have r9:zB (w9.setCell ⟨z,3,none⟩ (.slice a4 1 q4)) z [.slice a1 0 0,.slice a2 0 0,.slice a3 1 q3,.slice a4 1 q4]:=r9;generalize w9.setCell ⟨z,3,none⟩ (.slice a4 1 q4)=wB at r9 kS ⊢;have ho4:=HO4.out.1;rw[xA,uG] at ho4
   have HG4:Hid (∀q,(Value.slice a4 1 q4).ownBlock=some q->q≠z/\bz<q):=λq e=>by
    have h1:=HRV.out.lt (by simp);have h2:=HZ.out;have h3:=HK8.out.size;have h4:=HKV.out.size;rcases HO4.out.2.2 q (by rw[xA];exact e) with h|h
    ·exact J65 _
    ·exact J54 _
   have HOB:=yA (zD ho4 kS (λq e e2=>(HG4.out q e).1 e2));have HOC:=yA (zD (zD HO8.out HK9.out (λ_ _ h=>h)) kS (λq e e2=>(HG3.out q e).1 e2));have rq:=(HQ8.out.keeps HK9.out (λh=>h)).keeps kS (λe=>by have e':bz=z:=e;have:=HZ.out;omega);have HqR:=yA rq;have HKB:Hid (Keeps zA w wB):=((HK1.out.zC HK8.out).zC HK9.out).trans kS (λq hq e=>by have e':q=z:=e;have:=HZ.out;have:=HB1.out;omega);have y:=r9.zBF;have kB:=zF wB;have p0:=rq.cell (k:=0) rfl;have p1:=rq.cell (k:=1) rfl;have p2:=rq.cell (k:=2) rfl;have p3:=rq.cell (k:=3) rfl;have o0:=rq.free (k:=0) (by simp);have o1:=rq.free (k:=1) (by simp);have o2:=rq.free (k:=2) (by simp);have o3:=rq.free (k:=3) (by simp);clear r9 kS zc zf ho4 rq;go_wp2_with fail
   rw[yQ];go_wp2_with fail
   have rq:zB ((((wB.setCell ⟨bz,0,none⟩ (.slice a1 0 0)).setCell ⟨bz,1,none⟩ (.slice a2 0 0)).setCell ⟨bz,2,none⟩ (.slice a3 1 q3)).setCell ⟨bz,3,none⟩ (.slice a4 1 q4)) bz [.slice a1 0 0,.slice a2 0 0,.slice a3 1 q3,.slice a4 1 q4]:=((((HqR.out.set 0 (by simp) (.slice a1 0 0)).set 1 (by simp) (.slice a2 0 0)).set 2 (by simp) (.slice a3 1 q3)).set 3 (by simp) (.slice a4 1 q4));have kq:Keeps (λq=>q=bz) wB ((((wB.setCell ⟨bz,0,none⟩ (.slice a1 0 0)).setCell ⟨bz,1,none⟩ (.slice a2 0 0)).setCell ⟨bz,2,none⟩ (.slice a3 1 q3)).setCell ⟨bz,3,none⟩ (.slice a4 1 q4)):=(((((yB (λq=>q=bz) wB).setCell (p:=⟨bz,0,none⟩) (λ_=>rfl) (.slice a1 0 0)).setCell (p:=⟨bz,1,none⟩) (λ_=>rfl) (.slice a2 0 0)).setCell (p:=⟨bz,2,none⟩) (λ_=>rfl) (.slice a3 1 q3)).setCell (p:=⟨bz,3,none⟩) (λ_=>rfl) (.slice a4 1 q4));generalize ((((wB.setCell ⟨bz,0,none⟩ (.slice a1 0 0)).setCell ⟨bz,1,none⟩ (.slice a2 0 0)).setCell ⟨bz,2,none⟩ (.slice a3 1 q3)).setCell ⟨bz,3,none⟩ (.slice a4 1 q4))=wC at rq kq ⊢;refine xK (v:=.agg #[.slice a1 0 0,.slice a2 0 0,.slice a3 1 q3,.slice a4 1 q4]) (by simp[results,Tryz.results121,go_sem,rq.cell (k:=0) rfl,rq.cell (k:=1) rfl,rq.cell (k:=2) rfl,rq.cell (k:=3) rfl]) rfl ?_
   refine⟨a1,a2,a3,q3,a4,q4,rfl,?_,?_,HKB.out.trans kq (λq hq e=>by exact J225 _),λq e=>?_⟩
   ·exact(zAV.of (B:=0) (zD HOC.out kq (λq e e2=>by have e':q=bz:=e2;have:=(HG3.out q e).2;omega)) (λ_ _=>yF _)).src
   ·exact(zAV.of (B:=0) (zD HOB.out kq (λq e e2=>by have e':q=bz:=e2;have:=(HG4.out q e).2;omega)) (λ_ _=>yF _)).src
   ·have hb:=HB1.out
    rcases e with e|e
    ·have:=(HG3.out q e).2;omega
    ·have:=(HG4.out q e).2;omega
def zG4(l:List LIn):List Value:=l.flatMap LIn.cells
theorem zNh(l:List LIn):(zG4 l).length=l.length*4:=zAI _ 4 zEy l
theorem zN6(l:List LIn):∀u∈zG4 l,u.oneCell'=true:=by
 intro u hu
 simp only[zG4,List.mem_flatMap] at hu;obtain⟨x,_,hx⟩:=hu;simp only[LIn.cells,xU,List.mem_nil_iff,or_false] at hx;rcases hx with rfl|rfl|rfl|rfl <;> rfl
theorem zLg(w:World)(v:Value)(xs:List LIn)(h:zl w v xs.length (zG4 xs))(hb:xs.length*32<=140737488355328):
 Calls Tryz.prog 175 #[v] w (zBb 158 4 w xs.length (zG4 xs)):=by
 obtain⟨i0,hi0,hz0,hz1,hz2⟩:=info_parts zHF;have HS:=yA h;obtain⟨ad,cap,rfl,hc⟩:=h
 have h0:ad=none->xs=[]:=λe=>by
  exact J127 _
 clear hc;cases ad with
 | none =>
   obtain rfl:=h0 rfl;have hnil:∀W,(binOp .eql 152 (.slice none 0 cap) (.slice none 0 0)).run Tryz.prog W=.ok (.bool true) W:=λW=>Lib.run_eql_slice_nil_nil W _ _ Tryz.underlying152
   go_enter Tryz.func175,Tryz.ntmps175
   go_wp2
   go_ret
   exact⟨none,0,rfl,World.ownsRow_nil _ _ _ _,yB _ _,λkb e=>by exact J170 _⟩
 | some a =>
   clear h0;obtain⟨n,hn⟩:=eX xs.length;have HL:Hid ((zG4 xs).length=n*4):=by show _=_;rw[zNh,hn]
   rw[<-hn] at HS hb ⊢;have HB:Hid (n*32<=140737488355328):=hb;clear hb hn;have hnil:∀W,(binOp .eql 152 (.slice (some a) n cap) (.slice none 0 0)).run Tryz.prog W=.ok (.bool false) W:=λW=>Lib.run_eql_slice_some_nil W _ _ _ Tryz.underlying152
   go_enter Tryz.func175,Tryz.ntmps175
   go_wp2_with (at_builtin;refine zI _ (by rfl) _ _ 152 (by rfl) 0 158 i0 _ 4 32 Tryz.underlying152 hi0 hz0 hz1 hz2 rfl (by decide) (.slice (some ⟨w.heap.size,0,none⟩) 0 0) 0 [] (by rfl) (World.ownsRow_lit w #[] 0 (yF _) (by unfold maxLen;omega) rfl) (.slice (some a) n cap) n (zG4 xs) (by rfl) (HS.out.keeps (S:=zA) ((yB _ _).alloc _) (λ_ _ h=>h)) HL.out (zN6 xs) (by have:=HB.out;unfold maxLen;omega) (by have:=HB.out;omega) (yF _) ?_;intro ad' cap' w6 hout;have HO:=yA hout;clear hout)
   go_ret
   have hO:=HO.out;refine⟨ad',cap',by simp,?_,hO.keeps ((yB _ _).alloc _) (λk e hlt=>by exact J236 _),λkb e=>?_⟩
   ·exact J106 _
   ·exact J66 _
theorem zI2(g:Nat)(a:Int)(w:World)(ha:w.cell? ⟨g,0,none⟩=some (.int .i64 a)):
 Calls Tryz.prog 131 #[.slice (some ⟨g,0,none⟩) 1 1,(0:Int)] w λe w'=>∃ad,e=.returned (.slice ad 0 0)/\w'.ownsRow 0 3 1 (.slice ad 0 0) 0 []/\Keeps zA w w'/\∀kb,(Value.slice ad 0 0).ownBlock=some kb->w.heap.size<=kb:=by
 obtain⟨i0,hi0,hz0,hz1,hz2⟩:=info_parts zJI;go_enter Tryz.func131,Tryz.ntmps131
 go_upto_region 7 with(first|(go_at_call 100;refine(mul_one _ (by omega) _).mono ?_;rintro e w' ⟨rfl,rfl⟩)|(at_make;refine wpList_make_full _ rfl _ _ _ rfl 0 3 i0 _ 1 Tryz.underlying22 hi0 hz0 hz1 _ _ _ _ 0 (by rfl) (by rfl) rfl rfl (by rw[hz2];omega) (by unfold maxLen;omega) (yF _) ?_;intro w1 hown hgr))
 have hw1:w1.ownsRow 0 3 1 (.slice (some ⟨w.heap.size,0,none⟩) 0 0) 0 []:=by
  have h:=hown;simp only[Value.cells] at h;rw[toList_madeCells_one] at h;simpa using h
 have hrow:Hid (w1.heap[w.heap.size]?=some (.cells ([]:List Value).toArray 3 (0,0))):=zIP hw1;have hbl:Hid (Below w.heap.size w w1):=show Below _ _ _ from (Below.refl _ _).grown hgr (yT _) (by simp)
 clear hown hgr hw1 ha;iterate 7 go_step
 refine wpList_copy_splice (by rfl) (.tmp 31) (.tmp 32) 22 22 (by rfl) 3 Tryz.underlying22 zOz (some ⟨w.heap.size,0,none⟩) (some ⟨g,0,none⟩) 0 0 1 1 (by rfl) (by rfl) w.heap.size 0 [] 3 hrow.out [] (by rfl) (λh=>absurd h (by decide)) (by decide) (by simp) w.heap.size w hbl.out (yT _) ?_
 intro w2 hrow2 hbl2
 have hbl3:=yA hbl2;have hr3:Hid (w2.heap[w.heap.size]?=some (.cells ([]:List Value).toArray 3 (0,0))):=by show _=_;simpa [splice] using hrow2.out
 clear hrow hbl hbl2 hrow2;go_wp2
 go_loopw [8] (λn wr=>n=.int .i64 0/\Hid (wr=w2)) (λ_ _=>0)
 case atStart=>exact⟨rfl,rfl⟩
 case round =>
  obtain⟨rfl,he⟩:=hrel;go_wp2
  go_ret
  have e:=he.out;subst e;refine⟨some ⟨w.heap.size,0,none⟩,rfl,⟨rfl,.inr ⟨w.heap.size,0,#[],rfl,yF _,hr3.out,yT _,by unfold maxLen;omega,rfl,rfl⟩⟩,kP hbl3.out _,λkb e=>by exact J236 _⟩
theorem zMj:(Tryz.prog.info? 152).map (λi=>(i.zero,i.size,i.bytes))=some (some (.slice none 0 0),1,24):=by kernel_rfl
theorem zOg:(Tryz.prog.info? 276).map (λi=>(i.zero,i.size,i.bytes))=some (some (.agg #[(0:Int),.slice none 0 0,(0:Int)]),3,40):=by kernel_rfl
def EnF(j:Nat)(v:Value)(W:World):Prop:=
 match j with
 | 2=>∃ad cap,v=.slice ad 0 cap
 | 3=>∃g,v=.slice (some ⟨g,0,none⟩) 1 1/\W.cell? ⟨g,0,none⟩=some (.int .i64 (-1))
 | 6=>∃ad,v=.slice ad 0 0
 | _=>True
theorem EnF.st(j:Nat)(v:Value)(W W':World)(h:EnF j v W)(hk:Keeps zA W W'):EnF j v W':=by
 unfold EnF at *;split at h
 case h_2=>obtain⟨g,e,h1⟩:=h;exact⟨g,e,hk.cell (λh=>h) h1⟩
 all_goals first|exact h|trivial
def EnG(B:Nat)(j:Nat)(v:Value)(W:World):Prop:=
 match j with
 | 7=>∃gi ci,v=.slice (some ⟨gi,0,none⟩) 1 ci/\zB W gi [(29:Int),(0:Int),(0:Int),(0:Int)]/\B<=gi
 | 8=>∃g gi ci,v=.slice (some ⟨g,0,none⟩) 1 1/\zB W g [.slice (some ⟨gi,0,none⟩) 1 ci]/\zB W gi [(29:Int),(0:Int),(0:Int),(0:Int)]/\B<=gi
 | _=>True
theorem EnG.st{B:Nat}(j:Nat)(v:Value)(W W':World)(h:EnG B j v W)(hk:Keeps zA W W'):EnG B j v W':=by
 unfold EnG at *;split at h
 case h_1=>obtain⟨gi,ci,e,h1,h2⟩:=h;exact⟨gi,ci,e,h1.keeps hk (λh=>h),h2⟩
 case h_2=>obtain⟨g,gi,ci,e,h1,h2,h3⟩:=h;exact⟨g,gi,ci,e,h1.keeps hk (λh=>h),h2.keeps hk (λh=>h),h3⟩
 all_goals first|exact h|trivial
theorem EnG.of7{B:Nat}{W:World}{ad:Option Addr}{cap:Nat}(h:W.ownsRow 0 158 4 (.slice ad 1 cap) 1 (zG4 [⟨29,0,0,0⟩]))(hb:∀q,(Value.slice ad 1 cap).ownBlock=some q->B<=q):EnG B 7 (.slice ad 1 cap) W:=by
 rcases h.2 with⟨e,_⟩|⟨g,cap',cur,e,_⟩
 ·simp at e
 ·simp only[xH,yh] at e
  obtain⟨rfl,rfl⟩:=e;exact⟨g,cap,rfl,uB h,hb g rfl⟩
def EnH(j:Nat)(v:Value)(W:World):Prop:=
 match j with
 | 7=>∃a c,v=.slice a 0 c
 | 8=>∃a c,v=.agg #[(1:Int),.slice a 0 c,(0:Int)]
 | 9=>∃g a c,v=.slice (some ⟨g,0,none⟩) 1 1/\zB W g [(1:Int),.slice a 0 c,(0:Int)]
 | _=>True
theorem EnH.st(j:Nat)(v:Value)(W W':World)(h:EnH j v W)(hk:Keeps zA W W'):EnH j v W':=by
 unfold EnH at *;split at h
 case h_3=>obtain⟨g,a,c,e,h1⟩:=h;exact⟨g,a,c,e,h1.keeps hk (λh=>h)⟩
 all_goals first|exact h|trivial
theorem zKx{w:World}{e sz:Nat}{ad:Option Addr}{cap:Nat}{xs:List Value}(h:w.ownsRow 0 e sz (.slice ad 1 cap) 1 xs):∃g,ad=some ⟨g,0,none⟩/\zB w g xs:=by
 rcases h.2 with⟨e,_⟩|⟨g,cap',cur,e,_⟩
 ·simp at e
 ·simp only[xH,yh] at e
  obtain⟨rfl,rfl⟩:=e;exact⟨g,rfl,uB h⟩
theorem zRL(w:World)(ca:Option Addr)(cc gt ot tc gI:Nat)(h:zDb w gt ot gI):Calls Tryz.prog 117 #[.agg #[.slice ca 0 cc,(0:Int),.slice (some ⟨gt,ot,none⟩) 1 tc]] w λe w'=>∃b ca oa ra cc oc rc gc gi gf kc ki kf,e=.returned (.tuple #[(.pointer (some ⟨b,0,none⟩)),(0:Int)])/\VmC w' b 2 ca oa ra cc oc rc gc gi gf kc ki kf/\w.heap.size<=gf/\Keeps zA w w':=by
 have HI:=yA h;obtain⟨i0,hi0,hz0,hz1,hz2⟩:=info_parts zBI;obtain⟨j0,hj0,hy0,hy1,hy2⟩:=info_parts zMj;obtain⟨k0,hk0,hw0,hw1,hw2⟩:=info_parts zOg;clear h;go_enter Tryz.func117,Tryz.ntmps117
 go_upto_region 1 with fail
 obtain⟨b1,w1,e1,e2,R1,K1,_⟩:=newRow w [.slice ca 0 cc,(0:Int),.slice (some ⟨gt,ot,none⟩) 1 tc] 78;rw[e1,e2];have HR1:=yA R1;have HK1:=yA K1;have y:=R1.zA7;have k1:=zF w1;clear e1 e2 R1 K1;go_upto_region 3 with(go_at_call 174;refine(zQF _ ca cc gt ot tc gI (HI.out.zG HK1.out)).mono ?_;rintro e w2 ⟨rfl,g2⟩;have G2:=yA g2;clear g2 y k1)
 have HK2:Hid (Keeps zA w w2):=HK1.out.zC G2.out;have HR2:=yA (HR1.out.keeps G2.out (λh=>h));have y:=HR2.out.zA7;refine zBG 7 (by kernel_rfl) [some ((.pointer (some ⟨b1,0,none⟩))),some (.slice ca 0 cc),none,none,some ((.pointer (some ⟨b1,1,none⟩))),some (.int .i64 0),none] rfl EnF EnF.st ?_ ?_
 ·refine⟨?_,?_,?_,?_,?_,?_,?_,trivial⟩ <;> (intro vs gs W Q' hR hd hK;have HRW:Keeps zA w2 W:=((zF w2).drew).zC hR;simp only[zBK,zAt,zBo,zJ,tz,Option.bind,Act.put] at hd hK ⊢;try simp only[hd] at hK ⊢)
  all_goals try(try clear hd;go_wp2_with (fail);first|exact hK _ _ (yB _ _) rfl)
  ·clear hd
   go_wp2_with (go_at_call 59;refine(zBl _ _ [] ⟨_,_,rfl,λh=>absurd rfl h⟩ (by simp)).mono ?_;rintro e W2 ⟨ad,cap,rfl,g1,g2,g3⟩)
   exact hK _ _ g2 ⟨ad,cap,rfl⟩
  ·clear hd
   go_wp2_with fail
   exact hK _ _ ((yB _ _).alloc _) ⟨_,rfl,(yK (yG W _)).cell (k:=0) rfl⟩
  ·obtain⟨g,e3,h3⟩:∃g,vs 3=.slice (some ⟨g,0,none⟩) 1 1/\W.cell? ⟨g,0,none⟩=some (.int .i64 (-1)):=by simpa [EnF] using hd.1
   have HRP:=yA (zI2 g (-1) W h3);simp only[hd,e3] at hK ⊢;clear hd h3;go_wp2_with (go_at_call 131;refine HRP.out.mono ?_;rintro e W2 ⟨ad,rfl,g1,g2,g3⟩)
   exact hK _ _ g2 ⟨ad,rfl⟩
 ·intro vs W hR hFF
  have HRW:Keeps zA w2 W:=((zF w2).drew).zC hR;obtain⟨a1,c1,e2⟩:=(hFF 2 (by decide):∃ad cap,vs 2=.slice ad 0 cap);obtain⟨a2,e6⟩:=(hFF 6 (by decide):∃ad,vs 6=.slice ad 0 0);simp only[zJ,tz,Option.bind,Act.put];rw[e2,e6];have HKW:=yA HRW;clear hFF e2 e6 hR HRW y;go_upto_region 4 with fail
  obtain⟨b4,w4,e1,e2,R4,K4,_⟩:=newRow W [.slice a1 0 c1,.slice a2 0 0,.slice none 0 0,.slice none 0 0] 274;try rw[e1]
  try rw[e2]
  have HB4:Hid (W.heap.size=b4):=e1;have HR4:=yA R4;have HK4:Hid (Keeps zA w2 w4):=HKW.out.zC K4;have y:=(HR2.out.keeps HK4.out (λh=>h)).zA7;have u:=R4.zBF;have t:=(HI.out.zG (HK2.out.zC HK4.out)).all;have k4:=zF w4;clear e1 e2 R4 K4;go_wp2_with fail
  refine yY 2 ?_
  rw[yQ];go_upto_region 7 with fail
  obtain⟨b6,w6,e1,e2,R6,K6,_⟩:=newRow w4 [(0:Int),.slice (some ⟨gI,0,none⟩) 1 1] 161;try rw[e1]
  try rw[e2]
  have HB6:Hid (w4.heap.size=b6):=e1;have HR6:=yA R6;have HK6:=yA K6;have HR46:=yA (HR4.out.keeps K6 (λh=>h));have HK26:Hid (Keeps zA w2 w6):=HK4.out.zC K6
  have HIS:Hid (zl w6 (.slice (some ⟨gI,0,none⟩) 1 1) 1 (zG4 [⟨29,0,0,0⟩])):=by
   have h:=HI.out.zG (HK2.out.zC HK26.out);refine⟨_,1,rfl,λ_=>⟨gI,0,rfl,λj v hj=>?_⟩⟩
   simp only[zG4,uT,List.flatMap_nil,List.append_nil,LIn.cells] at hj;rcases (show j=0\/j=1\/j=2\/j=3\/4<=j by omega) with rfl|rfl|rfl|rfl|h4
   ·simp at hj;subst hj;simpa using h.i0
   ·simp at hj;subst hj;simpa using h.i1
   ·simp at hj;subst hj;simpa using h.i2
   ·simp at hj;subst hj;simpa using h.i3
   ·rw[List.getElem?_eq_none (by simpa using h4)] at hj;cases hj
  clear e1 e2 R6 K6 y u t k4;have y:=HR46.out.zBF;have u:=HR6.out.all2;have k6:=zF w6;refine zB5 9 0 (by kernel_rfl) [some ((.pointer (some ⟨b4,0,none⟩))),some ((.pointer (some ⟨b4,0,none⟩))),some ((.pointer (some ⟨b4,0,none⟩))),some ((.pointer (some ⟨b4,2,none⟩))),some (.slice none 0 0),some ((.pointer (some ⟨b6,1,none⟩))),some (.slice (some ⟨gI,0,none⟩) 1 1),none,none] rfl (EnG w6.heap.size) EnG.st _ rfl (λ_ _ _ _ h=>h) _ rfl (λ_ _ _=>by exact J171 _) ?_ ?_
  ·refine⟨?_,?_,?_,?_,?_,?_,?_,?_,?_,trivial⟩ <;> (intro vs gs W Q' hR hd hK;have HRW:Keeps zA w6 W:=((zF w6).drew).zC hR;simp only[zBK,zAt,zBo,zJ,tz,Option.bind,Act.put] at hd hK ⊢;try simp only[hd] at hK ⊢)
   all_goals try(try clear hd;go_wp2_with (fail);first|exact hK _ _ (yB _ _) rfl)
   ·clear hd
    have hz:=HRW.size;go_wp2_with (go_at_call 175;refine(zLg W _ [⟨29,0,0,0⟩] (HIS.out.keeps HRW (λ_ _ h=>h)) (by simp)).mono ?_;rintro e W2 ⟨ad,cap,rfl,g1,g2,g3⟩)
    exact hK _ _ g2 (EnG.of7 g1 (λq e=>yX hz (g3 q e)))
   ·obtain⟨gi,ci,e7,h7,hb⟩:∃gi ci,vs 7=.slice (some ⟨gi,0,none⟩) 1 ci/\zB W gi [(29:Int),(0:Int),(0:Int),(0:Int)]/\w6.heap.size<=gi:=by simpa [EnG] using hd
    clear hd;rw[e7] at hK ⊢;go_wp2_with fail
    exact hK _ _ ((yB zA W).alloc _) ⟨_,gi,ci,rfl,yK (yG W _),h7.keeps ((yB zA W).alloc _) (λh=>h),hb⟩
  ·intro vs W2 hR hFF
   have HRW:Keeps zA w6 W2:=((zF w6).drew).zC hR;obtain⟨g8,gi,ci,e8,rg,ri,hb⟩:=(hFF 8 (by decide):∃g gi ci,vs 8=.slice (some ⟨g,0,none⟩) 1 1/\zB W2 g [.slice (some ⟨gi,0,none⟩) 1 ci]/\zB W2 gi [(29:Int),(0:Int),(0:Int),(0:Int)]/\w6.heap.size<=gi);have e0:vs 0=_:=hFF 0 (by decide);have e4:vs 4=_:=hFF 4 (by decide);simp only[zJ,tz,Option.bind,Act.put];rw[e0,e4,e8];have HRG:=yA rg;have HRI:Hid (zB W2 gi [(29:Int),(0:Int),(0:Int),(0:Int)]/\w6.heap.size<=gi):=⟨ri,hb⟩;have HKV:=yA HRW;have HRV:=yA (HR46.out.keeps HRW (λh=>h));clear hFF e0 e4 e8 rg ri hb hR HRW y u k6;go_upto_region 8 with(at_builtin;refine zI _ (by rfl) _ _ 271 (by rfl) 0 152 j0 _ 1 24 Tryz.underlying271 hj0 hy0 hy1 hy2 rfl (by decide) (.slice none 0 0) 0 [] (by rfl) (World.ownsRow_nil _ _ _ _) (.slice (some ⟨g8,0,none⟩) 1 1) 1 [.slice (some ⟨gi,0,none⟩) 1 ci] (by rfl) (xE HRG.out) rfl (by simp[Value.oneCell']) (by unfold maxLen;omega) (by omega) (yF _) ?_;intro a3 q3 w7 hout;have HO3:=yA hout;have HK7:Hid (Keeps zA W2 w7):=(xD hout (yB _ _) (λq e _=>by exact J170 _));have zr:=HRV.out.keeps HK7.out (λh=>h);have zc:=zr.cell (k:=2) rfl;have zf:=zr.free (k:=2) (by simp);have HZR:=yA zr;clear hout zr)
   have r8:=HZR.out.set 2 (by simp) (.slice a3 1 q3);have kS:Keeps (λq=>q=b4) w7 (w7.setCell ⟨b4,2,none⟩ (.slice a3 1 q3)):=(yB (λq=>q=b4) w7).setCell (p:=⟨b4,2,none⟩) (λ_=>rfl) _;have r8:zB (w7.setCell ⟨b4,2,none⟩ (.slice a3 1 q3)) b4 [.slice a1 0 c1,.slice a2 0 0,.slice a3 1 q3,.slice none 0 0]:=r8;generalize w7.setCell ⟨b4,2,none⟩ (.slice a3 1 q3)=w8 at r8 kS ⊢;have ho3:=HO3.out.1;rw[xA,uG] at ho3;obtain⟨gc,hgc,rgc⟩:=zKx ho3;subst hgc
   have HGC:Hid (W2.heap.size<=gc):=by
    rcases HO3.out.2.2 gc (by rfl) with h|h
    ·exact J65 _
    ·show _<=_;omega
   have HSZ:Hid (b4<w4.heap.size/\w4.heap.size<=w6.heap.size/\w6.heap.size<=W2.heap.size/\W2.heap.size<=w7.heap.size/\b6<w6.heap.size/\b4≠b6/\w.heap.size<=b4):=⟨HR4.out.lt (by simp),HK6.out.size,HKV.out.size,HK7.out.size,HR6.out.lt (by simp),by
    have h1:=HR4.out.lt (by simp);have h2:=HB6.out;omega,by rw[<-HB4.out];exact(HK2.out.zC HKW.out).size⟩
   have HC8:=yA (rgc.keeps kS (λe=>by have e':gc=b4:=e;have h1:=HSZ.out;have h2:=HGC.out;omega));have HI8:=yA ((HRI.out.1.keeps HK7.out (λh=>h)).keeps kS (λe=>by have e':gi=b4:=e;have h1:=HSZ.out;have h2:=HRI.out.2;omega));have HR68:=yA (((HR6.out.keeps HKV.out (λh=>h)).keeps HK7.out (λh=>h)).keeps kS (λe=>by have e':b6=b4:=e;have h1:=HSZ.out;omega));have HR8:=yA r8;have HK8:Hid (Keeps zA w w8):=((((HK2.out.zC HK26.out).zC HKV.out).zC HK7.out).trans kS (λq hq e=>by have e':q=b4:=e;have h1:=HSZ.out;omega));have y:=HR8.out.zBF;have u:=HR68.out.all2;have k8:=zF w8;clear r8 kS zc zf ho3 rgc;refine zB5 10 0 (by kernel_rfl) [some ((.pointer (some ⟨b4,0,none⟩))),some ((.pointer (some ⟨b4,0,none⟩))),some ((.pointer (some ⟨b4,0,none⟩))),some ((.pointer (some ⟨b4,3,none⟩))),some (.slice none 0 0),some ((.pointer (some ⟨b6,0,none⟩))),some (.int .i64 0),none,none,none] rfl EnH EnH.st _ rfl (λ_ _ _ _ h=>h) _ rfl (λ_ _ _=>by exact J171 _) ?_ ?_
   ·refine⟨?_,?_,?_,?_,?_,?_,?_,?_,?_,?_,trivial⟩ <;> (intro vs gs W Q' hR hd hK;have HRW:Keeps zA w8 W:=((zF w8).drew).zC hR;simp only[zBK,zAt,zBo,zJ,tz,Option.bind,Act.put] at hd hK ⊢;try simp only[hd] at hK ⊢)
    all_goals try(try clear hd;go_wp2_with (fail);first|exact hK _ _ (yB _ _) rfl)
    ·clear hd
     go_wp2_with (at_make;refine wpList_make_own _ rfl _ _ _ rfl 0 3 i0 _ 1 Tryz.underlying22 hi0 hz0 hz1 _ _ _ 0 (by rfl) (by rfl) rfl (by rw[hz2];omega) (by unfold maxLen;omega) (yF _) ?_;intro W2 hown hgr;have HO:=yA hown;have HGR:=yA hgr;clear hown hgr)
     exact hK _ _ ((yB zA W).grown HGR.out (by simp)) ⟨_,_,rfl⟩
    ·obtain⟨a,c,e7⟩:∃a c,vs 7=.slice a 0 c:=by simpa [EnH] using hd
     clear hd;rw[e7] at hK ⊢;go_wp2_with fail
     exact hK _ _ (yB _ _) ⟨a,c,rfl⟩
    ·obtain⟨a,c,e8⟩:∃a c,vs 8=.agg #[(1:Int),.slice a 0 c,(0:Int)]:=by simpa [EnH] using hd
     clear hd;rw[e8] at hK ⊢;go_wp2_with fail
     exact hK _ _ ((yB zA W).alloc _) ⟨_,a,c,rfl,yK (yG W _)⟩
   ·intro vs W3 hR hFF
    have HRW:Keeps zA w8 W3:=((zF w8).drew).zC hR;obtain⟨g9,ra,rc,e9,rg⟩:=(hFF 9 (by decide):∃g a c,vs 9=.slice (some ⟨g,0,none⟩) 1 1/\zB W3 g [(1:Int),.slice a 0 c,(0:Int)]);have e0:vs 0=_:=hFF 0 (by decide);have e4:vs 4=_:=hFF 4 (by decide);simp only[zJ,tz,Option.bind,Act.put];rw[e0,e4,e9];have HRG3:=yA rg;have HKX:=yA HRW;have HRX:=yA (HR8.out.keeps HRW (λh=>h));clear hFF e0 e4 e9 rg hR HRW y u k8;go_upto_region 9 with(at_builtin;refine zI _ (by rfl) _ _ 272 (by rfl) 0 276 k0 _ 3 40 Tryz.underlying272 hk0 hw0 hw1 hw2 rfl (by decide) (.slice none 0 0) 0 [] (by rfl) (World.ownsRow_nil _ _ _ _) (.slice (some ⟨g9,0,none⟩) 1 1) 1 [.int .i64 1,.slice ra 0 rc,.int .i64 0] (by rfl) (xE HRG3.out) rfl (by simp[Value.oneCell']) (by unfold maxLen;omega) (by omega) (yF _) ?_;intro a5 q5 w9 hout;have HO5:=yA hout;have HK9:Hid (Keeps zA W3 w9):=(xD hout (yB _ _) (λq e _=>by exact J170 _));have zr:=HRX.out.keeps HK9.out (λh=>h);have zc:=zr.cell (k:=3) rfl;have zf:=zr.free (k:=3) (by simp);have HZR9:=yA zr;clear hout zr)
    have rA:=HZR9.out.set 3 (by simp) (.slice a5 1 q5);have kS:Keeps (λq=>q=b4) w9 (w9.setCell ⟨b4,3,none⟩ (.slice a5 1 q5)):=(yB (λq=>q=b4) w9).setCell (p:=⟨b4,3,none⟩) (λ_=>rfl) _;have rA:zB (w9.setCell ⟨b4,3,none⟩ (.slice a5 1 q5)) b4 [.slice a1 0 c1,.slice a2 0 0,.slice (some ⟨gc,0,none⟩) 1 q3,.slice a5 1 q5]:=rA;generalize w9.setCell ⟨b4,3,none⟩ (.slice a5 1 q5)=wA at rA kS ⊢;have ho5:=HO5.out.1;rw[xA,uG] at ho5;obtain⟨gf,hgf,rgf⟩:=zKx ho5;subst hgf
    have HGF:Hid (W3.heap.size<=gf):=by
     rcases HO5.out.2.2 gf (by rfl) with h|h
     ·exact J65 _
     ·show _<=_;omega
    have HSZ2:Hid (w8.heap.size<=W3.heap.size/\gc<w8.heap.size/\gi<w8.heap.size/\b4<w8.heap.size/\w.heap.size<=w8.heap.size):=⟨HKX.out.size,HC8.out.lt (by simp),HI8.out.lt (by simp),HR8.out.lt (by simp),HK8.out.size⟩
    have HVM:Hid (VmC wA b4 1 a1 a2 ra c1 0 rc gc gi gf q3 ci q5):=by
     have h1:=HSZ.out;have h2:=HSZ2.out;have h3:=HGC.out;have h4:=HGF.out;have h5:=HRI.out.2;exact⟨rA,((HC8.out.keeps HKX.out (λh=>h)).keeps HK9.out (λh=>h)).keeps kS (λe=>by have e':gc=b4:=e;omega),((HI8.out.keeps HKX.out (λh=>h)).keeps HK9.out (λh=>h)).keeps kS (λe=>by have e':gi=b4:=e;omega),rgf.keeps kS (λe=>by have e':gf=b4:=e;omega),by omega,by omega,by omega⟩
    have HKA:Hid (Keeps zA w wA):=((HK8.out.zC HKX.out).zC HK9.out).trans kS (λq hq e=>by have e':q=b4:=e;have h1:=HSZ.out;omega);clear rA kS zc zf ho5 rgf;go_wp2_with fail
    rw[yQ];go_wp2_with (go_at_call 176;refine(zQq HVM.out).mono ?_;rintro e wB ⟨rfl,hB,gB⟩;have HB:=yA hB;have GB:=yA gB;clear hB gB)
    go_ret2
    have hgf:w.heap.size<=gf:=by have h2:=HSZ2.out;have h4:=HGF.out;omega
    exact⟨b4,a1,a2,ra,c1,0,rc,gc,gi,gf,q3,ci,q5,rfl,HB.out,hgf,HKA.out.trans GB.out (λq hq e=>by have e':q=gf:=e;omega)⟩
open Go.Shelf
theorem zPv(w:World):Calls Tryz.prog 181 #[(0:Int)] w λe w'=>e=.returned (.int .u64 1)/\w=w':=by
 go_enter Tryz.func181,Tryz.ntmps181
 exact J145 _
theorem zSV(w:World):Calls Tryz.prog 119 #[.slice none 0 0] w λe w'=>e=.returned (.int .u64 0)/\w=w':=by
 go_enter Tryz.func119,Tryz.ntmps119
 go_wp2_with fail
 refine yY 1 ?_
 rw[yQ];exact J145 _
theorem zSS(w:World)(la:Option Addr)(lc:Nat)(h:zl w (.slice la 1 lc) 1 [.int .i64 0]):Calls Tryz.prog 119 #[.slice la 1 lc] w λe w'=>e=.returned (.int .u64 1)/\w=w':=by
 obtain⟨ad,cap,e,hs⟩:=h;cases e;obtain⟨g,o,rfl,hc⟩:=hs (by decide);have h0:=hc 0 (.int .i64 0) rfl;rw[uQ] at h0;clear hc hs;go_enter Tryz.func119,Tryz.ntmps119
 go_wp2_with fail
 refine yY 2 ?_
 rw[yQ];go_wp2_with (go_at_call 181;refine(zPv _).mono ?_;rintro e w' ⟨rfl,rfl⟩)
 rw[yQ];exact J145 _
theorem zSE(w:World):Calls Tryz.prog 170 #[.int .u64 0,(0:Int)] w λe w'=>e=.returned (.int .u64 0)/\w=w':=by
 go_enter Tryz.func170,Tryz.ntmps170
 go_wp2_with (go_at_call 181;refine(zPv _).mono ?_;rintro e w' ⟨rfl,rfl⟩)
 exact J38 _
theorem zSI(w:World):Calls Tryz.prog 171 #[.int .u64 0] w λe w'=>e=.returned (.func (.func 205) #[] #[.pointer (some ⟨w.heap.size,0,none⟩)])/\w'=w.alloc (.cells #[.int .u64 0] 170):=by
 have hmf:∀(fn:Fn)(first cap:Array Value)(w:World),(Instr.makeFunc fn first cap).run Tryz.prog w=.ok (.func fn first cap) w:=λ_ _ _ _=>rfl
 go_enter Tryz.func171,Tryz.ntmps171
 exact J145 _
theorem zKU(n b:Nat)(Kp:World->World->Prop)(w:World)(hlt:b<w.heap.size)(hb:w.cell? ⟨b,0,none⟩=some (.int .u64 0)):
 SeqStopsK (α:=Empty) Fence.wide n Tryz.prog 205 #[.pointer (some ⟨b,0,none⟩)] (λx=>x.elim) Kp (λxs=>xs=[]) (λ_=>False) 0 w:=λl J Jx W hW hJ hJx hY h0=>by
 refine callsIn_wide.2 ?_
 have hb':W.cell? ⟨b,0,none⟩=some (.int .u64 0):=(hW.cell (p:=⟨b,0,none⟩) hlt).trans hb;show Calls Tryz.prog 205 #[.func (.yield l) #[] #[],.pointer (some ⟨b,0,none⟩)] W _
 clear hW hJ hJx hY hb;go_enter Tryz.func205,Tryz.ntmps205
 go_wp2_with fail
 refine yY 1 ?_
 rw[yQ];go_wp2_with fail
 go_returns
 exact⟨⟨_,rfl⟩,.inl ⟨[],rfl,h0⟩⟩
theorem zOc(na:Option Addr)(nn nc:Nat)(w:World):Calls Tryz.prog 116 #[.int .u64 0,.slice na nn nc,.agg #[(0:Int),(9:Int),(0:Int),(0:Int),(0:Int)]] w λe w'=>e=.returned (.int .u64 0)/\Below w.heap.size w w':=by
 refine(callsIn_wide (n:=6)).1 ?_
 refine callsIn_of_wp_marks Tryz.func116 rfl trivial ?_ rfl
 simp only[Tryz.ntmps116,List.size_toArray,xM,List.length_nil,Nat.reduceAdd,Nat.reduceSub,Array.replicate_succ,Array.replicate_zero,List.push_toArray,List.append_toArray,uG,vU];gi_wp2_with (first|(refine⟨trivial,?_⟩;gi_at_call 170;refine(callsIn_wide.2 (zSE _)).mono ?_;rintro e w' ⟨rfl,rfl⟩)|(refine⟨trivial,?_⟩;gi_at_call 171;refine(callsIn_wide.2 (zSI _)).mono ?_;rintro e w' ⟨rfl,rfl⟩))
 have hc:=(yK (yG ((w.alloc (.cells #[.slice na nn nc] 32)).alloc (.cells #[(0:Int),(9:Int),(0:Int),(0:Int),(0:Int)] 67)) (.cells #[.int .u64 0] 170))).cell (k:=0) rfl;have hd:=(yK (yG (((w.alloc (.cells #[.slice na nn nc] 32)).alloc (.cells #[(0:Int),(9:Int),(0:Int),(0:Int),(0:Int)] 67)).alloc (.cells #[.int .u64 0] 170)) (.cells #[.int .u64 0] 170))).cell (k:=0) rfl;simp only[World.size_alloc] at hc hd;have hB0:Below w.heap.size w ((((w.alloc (.cells #[.slice na nn nc] 32)).alloc (.cells #[(0:Int),(9:Int),(0:Int),(0:Int),(0:Int)] 67)).alloc (.cells #[.int .u64 0] 170)).alloc (.cells #[.int .u64 0] 170)):=((((Below.refl _ w).alloc (yT _) _).alloc (by simp) _).alloc (by simp;omega) _).alloc (by simp;omega) _
 refine wpIn_rangeFunc_ownF (α:=Empty) rfl (by decide) (gf:=205) (lb:=#[.pointer (some ⟨w.heap.size+1+1+1,0,none⟩)]) rfl trivial (enters_of Tryz.func205 (by kernel_rfl) rfl)
  (zKU _ (w.heap.size+1+1+1) (Below w.heap.size) _ (by simp) hd) belowK_t (belowK_b (by simp;omega)) (Below.refl _ _) (λx=>x.elim)
  (λpre W=>W.cell? ⟨w.heap.size+1+1,0,none⟩=some (.int .u64 0)/\Below w.heap.size w W)
  (λ_ _ _=>False)
  (OwnFrom.and (Own.from (λs A B row hs hg hr=>cell_kept hs hg hr) _) (ownFrom_below (yT _) (by simp;omega)))
  (λ_ _ _ _ _ hs _ _=>hs)
  ⟨((yB zA _).alloc _).cell (p:=⟨_,0,none⟩) (λh=>h) hc,hB0⟩
  (λx=>x.elim) ?assign ?body ?done ?stop
 case assign =>
  intro l x
  exact x.elim
 case body =>
  intro l pre x
  exact x.elim
 case done =>
  rintro D ys W hD rfl ⟨hc,hB⟩ hK
  gi_wp2
  refine⟨by simp,.inl ⟨_,_,rfl,run_takeDeferred hK,?_⟩⟩
  exact⟨_,results_tmp rfl _ _ _,rfl,hB.trans (belowK_b (w:=w) (yT _) W D _ _ (by simp at hD;omega) hK rfl rfl)⟩
 case stop =>
  rintro D c pre W _ _ h _
  exact h.elim
def XC(ca:Option Addr)(cc gt ot tc gs bx:Nat)(nx:Value)(fn:Fn)(an a0 a1 a2 a3 a4:Int)(ex fo:Value):List Value:=
 [.slice ca 0 cc,.int .i64 0,.slice (some ⟨gt,ot,none⟩) 1 tc,.pointer (some ⟨gs,0,none⟩),nx,.func fn #[.pointer (some ⟨bx,0,none⟩)] #[],.int .i64 an,.int .i64 a0,.int .i64 a1,.int .i64 a2,.int .i64 a3,.int .i64 a4,ex,fo]
theorem zRx{ca:Option Addr}{cc gt ot tc gI gs bx:Nat}{nx ex fo v:Value}{fn:Fn}{an a0 a1 a2 a3 a4:Int}{w:World}(hx:zB w bx (XC ca cc gt ot tc gs bx nx fn an a0 a1 a2 a3 a4 ex fo))(hi:zDb w gt ot gI)(hs:zQ w gs v ([]:List Nd)):Calls Tryz.prog 74 #[(.pointer (some ⟨bx,0,none⟩))] w λe w'=>∃b c1 oa ra c2 oc rc gc gi gf kc ki kf,e=.returned (.tuple #[(.pointer (some ⟨b,0,none⟩)),.slice none 0 0])/\VmC w' b 2 c1 oa ra c2 oc rc gc gi gf kc ki kf/\Keeps zA w w':=by
 have HS:=yA hs;have y:∀W,Keeps zA w W->W.cell? ⟨bx,0,none⟩=some (.slice ca 0 cc)/\W.cell? ⟨bx,1,none⟩=some (.int .i64 0)/\W.cell? ⟨bx,2,none⟩=some (.slice (some ⟨gt,ot,none⟩) 1 tc):=λW q=>⟨hx.cellW rfl W q,hx.cellW rfl W q,hx.cellW rfl W q⟩
 have HX3:Hid (∀W,Keeps zA w W->W.cell? ⟨bx,3,none⟩=some ((.pointer (some ⟨gs,0,none⟩)))):=λW q=>hx.cellW rfl W q
 have HN:=yA (zRL w ca cc gt ot tc gI hi);have k0:=zF w;clear hx hi hs;go_enter Tryz.func74,Tryz.ntmps74
 go_upto_region 3 with(go_at_call 117;refine HN.out.mono ?_;rintro e w1 ⟨b,c1,oa,ra,c2,oc,rc,gc,gi,gf,kc,ki,kf,rfl,g1,g2,g3⟩;have HM1:=yA g1;have HF1:=yA g2;have HK1:=yA g3;clear g1 g2 g3 y k0)
 have y:=HX3.out w1 HK1.out;have HPA:Hid (Calls Tryz.prog 79 #[(.pointer (some ⟨gs,0,none⟩))] w1 (zCl w1 (zDc (([]:List Nd).map Nd.thread)))):=zE9 w1 gs v ([]:List Nd) (HS.out.keeps HK1.out (λ_ _ h=>h)) (J180 _) (by intro x hx;simp at hx);go_wp2_with (go_at_call 79;refine HPA.out.mono ?_;rintro e w2 ⟨v2,rfl,h1,h2,_⟩;have HK2:Hid (Keeps zA w1 w2):=kP h2 _;have hsr:zl w2 v2 ([]:List Int).length (ints []):=zBm.src h1;clear h1 h2 y;obtain⟨pa,pc,rfl,hp⟩:=hsr;simp only[xM,List.length_nil,xA] at hp ⊢;have HPP:=yA hp;clear hp)
 refine yY 1 ?_
 rw[yQ];go_wp2_with fail
 go_ret2
 exact⟨b,c1,oa,ra,c2,oc,rc,gc,gi,gf,kc,ki,kf,rfl,HM1.out.zG HK2.out,HK1.out.zC HK2.out⟩
theorem zRo{ca:Option Addr}{cc gt ot tc gI gs bx:Nat}{nx ex fo v:Value}{fn:Fn}{an a0 a1 a2 a3 a4:Int}{w:World}(hx:zB w bx (XC ca cc gt ot tc gs bx nx fn an a0 a1 a2 a3 a4 ex fo))(hi:zDb w gt ot gI)(hs:zQ w gs v ([⟨0,1,0,0⟩]:List Nd)):Calls Tryz.prog 74 #[(.pointer (some ⟨bx,0,none⟩))] w λe w'=>∃b c1 oa ra c2 oc rc gc gi gf kc ki kf gl cl,e=.returned (.tuple #[(.pointer (some ⟨b,0,none⟩)),.slice (some ⟨gl,0,none⟩) 1 cl])/\VmC w' b 3 c1 oa ra c2 oc rc gc gi gf kc ki kf/\zB w' gl [(0:Int),(9:Int),(0:Int),(0:Int),(0:Int)]/\1<=cl/\w.heap.size<=gl/\Keeps zA w w':=by
 have HS:=yA hs;have y:∀W,Keeps zA w W->W.cell? ⟨bx,0,none⟩=some (.slice ca 0 cc)/\W.cell? ⟨bx,1,none⟩=some (.int .i64 0)/\W.cell? ⟨bx,2,none⟩=some (.slice (some ⟨gt,ot,none⟩) 1 tc):=λW q=>⟨hx.cellW rfl W q,hx.cellW rfl W q,hx.cellW rfl W q⟩
 have HX3:Hid (∀W,Keeps zA w W->W.cell? ⟨bx,3,none⟩=some ((.pointer (some ⟨gs,0,none⟩)))):=λW q=>hx.cellW rfl W q
 have HN:=yA (zRL w ca cc gt ot tc gI hi);have k0:=zF w;clear hx hi hs;go_enter Tryz.func74,Tryz.ntmps74
 go_upto_region 3 with(go_at_call 117;refine HN.out.mono ?_;rintro e w1 ⟨b,c1,oa,ra,c2,oc,rc,gc,gi,gf,kc,ki,kf,rfl,g1,g2,g3⟩;have HM1:=yA g1;have HF1:=yA g2;have HK1:=yA g3;clear g1 g2 g3 y k0)
 have y:=HX3.out w1 HK1.out;have HPA:Hid (Calls Tryz.prog 79 #[(.pointer (some ⟨gs,0,none⟩))] w1 (zCl w1 (zDc (([⟨0,1,0,0⟩]:List Nd).map Nd.thread)))):=zE9 w1 gs v ([⟨0,1,0,0⟩]:List Nd) (HS.out.keeps HK1.out (λ_ _ h=>h)) (J180 _) (by intro x hx;simp at hx);go_wp2_with (go_at_call 79;refine HPA.out.mono ?_;rintro e w2 ⟨v2,rfl,h1,h2,_⟩;have HK2:Hid (Keeps zA w1 w2):=kP h2 _;have hsr:zl w2 v2 ([0]:List Int).length (ints [0]):=zBm.src h1;clear h1 h2 y;obtain⟨pa,pc,rfl,hp⟩:=hsr;simp only[xM,List.length_nil,xA] at hp ⊢;have HPP:=yA hp;clear hp)
 obtain⟨g2,o2,rfl,hp2⟩:=HPP.out (by decide);have y:∀W,Keeps zA w2 W->W.cell? ⟨g2,o2,none⟩=some (.int .i64 0):=zL (hp2 0 _ rfl)
 have HM2:=yA (HM1.out.zG HK2.out);have HST:=yA (step0 HM2.out);have k2:=zF w2;obtain⟨i0,hi0,hz0,hz1,hz2⟩:=info_parts zKH;clear hp2 HPP;refine yY 2 ?_
 rw[yQ];go_upto_region 7 with(go_at_call 118;refine HST.out.mono ?_;rintro e w3 ⟨rfl,g1,g2⟩;have HM3:=yA g1;have HK3:=yA g2;clear g1 g2 y k2)
 obtain⟨b9,w4,e1,e2,R4,K4,_⟩:=newRow w3 [(0:Int),(9:Int),(0:Int),(0:Int),(0:Int)] 67;rw[e1,e2];have HM4:=yA (HM3.out.zG K4);have HK4:=yA K4;have y:=R4.five;have k4:=zF w4;clear e1 e2 R4 K4;go_upto_region 8 with(at_builtin;obtain⟨g,w5,e1,e2,R5,K5,_⟩:=newRow w4 [(0:Int),(9:Int),(0:Int),(0:Int),(0:Int)] 67;rw[e1,e2];have HR5:=yA R5;have HK5:=yA K5;clear e1 e2 R5 K5;refine zI _ (by rfl) _ _ 31 (by rfl) 0 67 i0 _ 5 40 Tryz.underlying31 hi0 hz0 hz1 hz2 rfl (by decide) (.slice none 0 0) 0 [] (by rfl) (World.ownsRow_nil _ _ _ _) (.slice (some ⟨g,0,none⟩) 1 1) 1 [.int .i64 0,.int .i64 9,.int .i64 0,.int .i64 0,.int .i64 0] (by rfl) (xE HR5.out) rfl (by simp[Value.oneCell']) (by unfold maxLen;omega) (by omega) (yF _) ?_;intro ad cap w6 hout;have HO:=yA hout;clear hout)
 go_wp2_with fail
 rw[yQ];go_wp2_with fail
 go_ret2
 have ho:=HO.out.1;rw[xA,uG] at ho;have hK6:Keeps zA w5 w6:=xD HO.out (yB _ _) (λq e _=>by exact J170 _);have hk46:Keeps zA w4 w6:=HK5.out.zC hK6;obtain⟨ad',cap',e3,_,_,hr⟩:=zAV.of (B:=0) ho (λ_ _=>yF _);simp only[xH,yh] at e3;obtain⟨rfl,rfl⟩:=e3;obtain⟨gl,rfl,_,hrow⟩:=hr (by decide)
 have hcap:1<=cap:=by
  rcases ho.2 with⟨e,_⟩|⟨_,cap',cur,e,_,_,h1,_⟩
  ·simp at e
  ·simp only[xH] at e
   omega
 have hgl:w.heap.size<=gl:=by
  have h1:=HK1.out.size;have h2:=HK2.out.size;have h3:=HK3.out.size;have h4:=HK4.out.size;have h5:=HK5.out.size;rcases HO.out.2.2 gl (by simp[Value.ownBlock]) with h|h
  ·exact J65 _
  ·omega
 exact⟨b,c1,oa,ra,c2,oc,rc,gc,gi,gf,kc,ki,kf,gl,cap,rfl,HM4.out.zG hk46,hrow,hcap,hgl,((HK1.out.zC HK2.out).trans HK3.out (λq hq e=>by have e':q=gf:=e;have:=HF1.out;omega)).zC (HK4.out.zC hk46)⟩
