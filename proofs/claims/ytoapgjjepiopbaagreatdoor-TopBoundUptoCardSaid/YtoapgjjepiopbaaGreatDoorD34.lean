/- Layer D: texts joined. -/
import Derived.Test.YtoapgjjepiopbaaGreatDoorD33
set_option linter.all false
set_option maxHeartbeats 8000000
set_option maxRecDepth 8000
namespace Go.Proofs.YtoapgjjepiopbaaGreatDoor
open Go.RowKit
theorem J52(P:Prop) (h:P:=by
 dsimp only at R5
 refine xK (v:=.tuple #[evV ⟨i,a.kind-1,a.obj,v,bad⟩,(0:Int)]) (by simp[results,Tryz.results27,go_sem,R5.cell (k:=0) rfl,R5.cell (k:=1) rfl,R5.cell (k:=2) rfl,R5.cell (k:=3) rfl,R5.cell (k:=4) rfl,evV]) rfl ?_
 rw[HH.out.2.2.2.2,HD.out];exact⟨rfl,hw⟩):P:=h
theorem J62(P:Prop) (h:P:=by
 obtain⟨_,_,_,_,kk⟩:=HW.out;exact xX (S:=zAk T id) HR4.out kk (λ⟨t,e⟩=>by rw[HFR.out.1] at e;cases e)):P:=h
theorem J211(P:Prop)(h:P:=by simp[results,Tryz.results27,go_sem,R5.cell (k:=0) rfl,R5.cell (k:=1) rfl,R5.cell (k:=2) rfl,R5.cell (k:=3) rfl,R5.cell (k:=4) rfl,evV]):P:=h
def evV(x:Evt):Value:=.agg #[x.thread,x.kind,x.obj,x.value,x.bad]
def zF7(R:zA5 WFr)(sz:Nat)(ty:TypeId)(B:zC0)(w:World)(T:zZ)(F:Nat->Prop)(id b:Nat)(u:Un)(p:zB8)(r:zy × Evt × Int)(e:Ending)(w':World):Prop:=
 e=.returned (.tuple #[evV r.2.1,r.2.2])/\zAy R sz ty B w T F id b u p r.1 w'
theorem zB.five{w:World}{g:Nat}{a b c d e:Value}(r:zB w g [a,b,c,d,e]):∀W,Keeps zA w W->W.cell? ⟨g,0,none⟩=some a/\W.cell? ⟨g,1,none⟩=some b/\W.cell? ⟨g,2,none⟩=some c/\W.cell? ⟨g,3,none⟩=some d/\W.cell? ⟨g,4,none⟩=some e:=λW q =>
 have r':=r.keeps q (λh=>h);⟨r'.cell (k:=0) rfl,r'.cell (k:=1) rfl,r'.cell (k:=2) rfl,r'.cell (k:=3) rfl,r'.cell (k:=4) rfl⟩
def zB2(w:World)(g:Nat)(x:Evt):World:=((((w.setCell ⟨g,0,none⟩ (.int .i64 x.thread)).setCell ⟨g,1,none⟩ (.int .i64 x.kind)).setCell ⟨g,2,none⟩ (.int .i64 x.obj)).setCell ⟨g,3,none⟩ (.int .i64 x.value)).setCell ⟨g,4,none⟩ (.int .i64 x.bad)
theorem zC3{w:World}{g:Nat}{a b c d e:Value}(r:zB w g [a,b,c,d,e])(x:Evt):zB (zB2 w g x) g [x.thread,x.kind,x.obj,x.value,x.bad]:=
 ((((r.set 0 (by simp) _).set 1 (by simp) _).set 2 (by simp) _).set 3 (by simp) _).set 4 (by simp) _
theorem zEA(w:World)(g:Nat)(x:Evt):Keeps (λq=>q=g) w (zB2 w g x):=
 (((((yB (λq=>q=g) w).setCell (p:=⟨g,0,none⟩) (λ_=>rfl) _).setCell (p:=⟨g,1,none⟩) (λ_=>rfl) _).setCell (p:=⟨g,2,none⟩) (λ_=>rfl) _).setCell (p:=⟨g,3,none⟩) (λ_=>rfl) _).setCell (p:=⟨g,4,none⟩) (λ_=>rfl) _
section
variable {R:zA5 WFr} {sz:Nat} {ty:TypeId} {B:zC0} (L:zAU R sz) (LB:BOk B) {w w1 w':World} {T:zZ} {F:Nat->Prop} {id b g:Nat} {u:Un} {p:zB8} {m:zy}
include L LB in
theorem zAy.own(h:zAy R sz ty B w1 T F id b u p m w')(hk:Keeps zA w w1)(h1:w.heap.size<=g)(h2:g<w1.heap.size)(h3:T g=none)(h4:¬F g)(x:Evt):zAy R sz ty B w T F id b u p m (zB2 w' g x):=by
 obtain⟨T',H',M,e,q⟩:=h;have hg:T' g=none:=e.none h3 h2
 refine⟨T',H',MaP.keeps L LB M (zEA w' g x) (λq e1 e2=>by
  rw[e2] at e1;rcases e1 with⟨t,e1⟩|e1
  ·rw[hg] at e1;cases e1
  ·exact h4 e1),⟨e.1,λk y ey=>(e.2 k y ey).imp (λh=>h) (λh=>⟨yX hk.size h.1,h.2⟩)⟩,?_⟩
 exact((hk.mono (λ_ _ h=>h.elim)).trans q (λ_ _ h=>h)).trans (zEA w' g x) (λk hlt e=>by
  have e':k=g:=e;omega)
end
section
variable {w:World} {T:zZ} {F:Nat->Prop} {id b:Nat} {u:Un} {p:zB8} {m:zy} {H:List HTh}
theorem zPQ(h:MaP zm 1 148 zBk w T F id b u p m H)(hm:m.ok u)(i:Int)(hr:zCF m i≠0):
 Calls Tryz.prog 27 #[.pointer (some ⟨b,0,none⟩),i] w (zF7 zm 1 148 zBk w T F id b u p (stepM u m i)):=by
 have es:stepM u m i=(m,Evt.zero,zCF m i):=by unfold stepM;rw[if_neg hr]
 rw[es];obtain⟨b4,w4,e3,e4,R4,K4,_⟩:=newRow w [(0:Int),(0:Int),(0:Int),(0:Int),(0:Int)] 67;have HFR:=yA (h.zP.sep.free (g:=b4) (by omega));have HR:Ret w4 63 #[.pointer (some ⟨b,0,none⟩),.int .i64 i] (.int .i64 (zCF m i)):=λW hq=>zFm (vB zU zAG h (K4.zC hq)) hm i
 have HM:=yA h;have hb:(zCF m i != 0)=true:=uN.2 hr;generalize zCF m i=r at HR hb ⊢;have HB4:Hid (w.heap.size<=b4/\Keeps zA w w4/\b4<w4.heap.size):=⟨by exact J224 _,K4,R4.lt (by simp)⟩;have HR4:=yA R4;have k4:=zF w4;clear h hr es K4 R4;go_enter Tryz.func27,Tryz.ntmps27
 go_upto_region 1 with fail
 try rw[e3]
 try rw[e4]
 clear e3 e4;go_upto_region 3 with(go_at_call 63;refine HR.call k4 ?_;intro w5 _ k5;have K45:=yA k5)
 have y4:=HR4.out.five
 have fr:∀j,j<5->∀W,Keeps zA w4 W->W.frozen? ⟨b4,j,none⟩=false:=λj hj=>zK (HR4.out.free (k:=j) (by simpa using hj)) (by
  obtain⟨c0,c1,c2,c3,c4⟩:=HR4.out.five w4 (zF w4);rcases (show j=0\/j=1\/j=2\/j=3\/j=4 by omega) with rfl|rfl|rfl|rfl|rfl
  ·exact⟨_,c0⟩
  ·exact⟨_,c1⟩
  ·exact⟨_,c2⟩
  ·exact⟨_,c3⟩
  ·exact⟨_,c4⟩)
 have f0:=fr 0 (by decide);have f1:=fr 1 (by decide);have f2:=fr 2 (by decide);have f3:=fr 3 (by decide);have f4:=fr 4 (by decide);clear fr;go_wp2_with fail
 have R5:=zC3 (HR4.out.keeps K45.out (λh=>h)) Evt.zero;have hw:=zAy.own zU zAG (g:=b4) (zAy.start (vB zU zAG HM.out (HB4.out.2.1.zC K45.out))) (HB4.out.2.1.zC K45.out) HB4.out.1 (yH HB4.out.2.2 K45.out.size) HFR.out.1 HFR.out.2 Evt.zero;have e5:zB2 w5 b4 Evt.zero=((((w5.setCell ⟨b4,0,none⟩ (.int .i64 0)).setCell ⟨b4,1,none⟩ (.int .i64 0)).setCell ⟨b4,2,none⟩ (.int .i64 0)).setCell ⟨b4,3,none⟩ (.int .i64 0)).setCell ⟨b4,4,none⟩ (.int .i64 0):=rfl;rw[<-e5];generalize zB2 w5 b4 Evt.zero=wz at R5 hw ⊢;refine xK (v:=.tuple #[evV Evt.zero,r]) (J211 _) rfl ⟨rfl,hw⟩
theorem zRq{b:Bd}{t:WTh}(h:zD5 u b.regs t.fs):zD5 u b.regs t.on.fs:=by
 unfold WTh.on;cases e:t.fs.getLast? with
 | none=>exact h
 | some f =>
   obtain⟨l1,l2,l3,l4⟩:=zFE h.low e
   refine⟨λg hg=>?_,zBw (zFH h.low) l2 (by
    show Ac.hL f.rest.tail+_<=_
    cases hr:f.rest with
    | nil=>simp only[List.tail_nil,Ac.hL];omega
    | cons a tl=>rw[hr] at l3;simp only[Ac.hL] at l3;simp only[List.tail_cons];omega) l4⟩
   have hs:=zAg e;have hfl:f.ok u b.regs:=h.each f (by rw[hs];simp);rcases yj.1 hg with hg|hg
   ·exact h.each g (List.dropLast_subset _ hg)
   ·exact J73 _
theorem zAN{g:Nat}{a b c d e:Value}(r:zB w g [a,b,c,d,e]):∀j,j<5->∀W,Keeps zA w W->W.frozen? ⟨g,j,none⟩=false:=λj hj=>zK (r.free (k:=j) (by simpa using hj)) (by
 obtain⟨c0,c1,c2,c3,c4⟩:=r.five w (zF w);rcases (show j=0\/j=1\/j=2\/j=3\/j=4 by omega) with rfl|rfl|rfl|rfl|rfl
 ·exact⟨_,c0⟩
 ·exact⟨_,c1⟩
 ·exact⟨_,c2⟩
 ·exact⟨_,c3⟩
 ·exact⟨_,c4⟩)
theorem zPY(h:MaP zm 1 148 zBk w T F id b u p m H)(hu:zX u=true)(hm:m.ok u)(i:Nat)(hr:zCF m i=0):
 Calls Tryz.prog 27 #[.pointer (some ⟨b,0,none⟩),i] w (zF7 zm 1 148 zBk w T F id b u p (stepM u m i)):=by
 obtain⟨_,hi,h2⟩:=hm.run hr;rw[Int.toNat_natCast] at hi h2;have es:stepM u m i=((zAJ u m i).1,(zAJ u m i).2,0):=by unfold stepM;rw[if_pos hr,Int.toNat_natCast]
 obtain⟨b4,w4,e3,e4,R4,K4,_⟩:=newRow w [(0:Int),(0:Int),(0:Int),(0:Int),(0:Int)] 67;have HFR:=yA (h.zP.sep.free (g:=b4) (by omega))
 have HR:Ret w4 63 #[.pointer (some ⟨b,0,none⟩),.int .i64 i] (.int .i64 0):=λW hq=>by
  have:=zFm (vB zU zAG h (K4.zC hq)) hm i
  rwa [hr] at this
 have M4:=vB zU zAG h K4;have HB4:Hid (w.heap.size<=b4/\Keeps zA w w4/\b4<w4.heap.size):=⟨by exact J224 _,K4,R4.lt (by simp)⟩;have HR4:=yA R4;have k4:=zF w4;have i0:(0:Int)<=i:=by omega
 have i1:(i:Int)<(m.zP.length:Int):=by omega
 have HAA:Hid (∀W,Keeps zA w4 W->MaP zm 1 148 zBk W T F id b u p m H):=λW hq=>vB zU zAG M4 hq
 have HH:Hid (zX u=true/\m.ok u/\i<m.zP.length/\(m.get i).st=2/\stepM u m i=((zAJ u m i).1,(zAJ u m i).2,0)):=⟨hu,hm,hi,h2,es⟩;have y5:=M4.zCL;have ts:=M4.st hi;have tf:=zK (zD0 M4.zP.row (i:=i) (by rw[M4.zP.len];exact hi) 0 (by decide)) ⟨_,M4.st hi w4 (zF w4)⟩;have tf:∀W,Keeps zA w4 W->W.frozen? ⟨p.gt,i*3,none⟩=false:=tf
 rw[h2] at ts;have HACT:Ret w4 64 #[.pointer (some ⟨b,0,none⟩),.int .i64 i] (.agg #[.int .i64 (zAc m i).1,.int .i64 (zAc m i).2]):=λW hq=>zEZ (vB zU zAG M4 hq) hm hi
 generalize hK:(zAc m i).1=K at HACT;generalize hO:(zAc m i).2=O at HACT;have HKO:Hid ((zAc m i).1=K/\(zAc m i).2=O):=⟨hK,hO⟩;generalize m.zP.length=nm at y5 i1;clear h hu hm hr hi h2 es K4 R4 M4 hK hO;go_enter Tryz.func27,Tryz.ntmps27
 go_upto_region 1 with fail
 try rw[e3]
 try rw[e4]
 clear e3 e4;go_upto_region 4 with(go_at_call 63;refine HR.call k4 ?_;intro w5 _ k5)
 refine zBG 10 (by kernel_rfl) [some (.pointer (some ⟨b,0,none⟩)),some (.pointer (some ⟨b,0,none⟩)),some (.pointer (some ⟨b,5,none⟩)),some (.slice (some ⟨p.gt,0,none⟩) nm p.ct),some (.int .i64 (i:Int)),some (.pointer (some ⟨p.gt,i*3,none⟩)),some (.pointer (some ⟨b,0,none⟩)),some (.int .i64 (i:Int)),some (.agg #[K,O]),none] rfl (λ_ v W=>∃b8,v=.pointer (some ⟨b8,0,none⟩)/\zB W b8 [(0:Int),(0:Int)]/\w5.heap.size<=b8) (λ_ _ _ _ h hk=>by obtain⟨b8,e,h1,h2⟩:=h;exact⟨b8,e,h1.keeps hk (λh=>h),h2⟩) ?_ ?_
 ·refine⟨?_,?_,?_,?_,?_,?_,?_,?_,?_,?_,trivial⟩ <;> (intro vs gs W Q' hR hd hK;have HRW:Keeps zA w5 W:=((zF w5).drew).zC hR;have kW:Keeps zA w4 W:=k5.zC HRW;simp only[zBK,zAt,zBo,zJ,tz,Option.bind,Act.put] at hd hK ⊢;try simp only[hd] at hK ⊢)
  all_goals try(try clear hd;go_wp2_with (go_at_call 64;refine HACT.call kW ?_;intro w6 _ g6);first|exact hK _ _ (yB _ _) rfl|exact hK _ _ (by assumption) rfl)
  ·go_wp2_with fail
   exact hK _ _ ((yB _ _).alloc _) ⟨_,rfl,yK (yG W _),HRW.size⟩
 ·intro vs W hR hFF
  have HRW:Keeps zA w5 W:=((zF w5).drew).zC hR;have kW:Keeps zA w4 W:=k5.zC HRW;have e5:vs 5=_:=hFF 5 (by decide);have e8:vs 8=_:=hFF 8 (by decide);obtain⟨b8,e9,R8,l8⟩:=(hFF 9 (by decide):∃b8,vs 9=.pointer (some ⟨b8,0,none⟩)/\zB W b8 [(0:Int),(0:Int)]/\w5.heap.size<=b8);simp only[zJ,tz,Option.bind,Act.put];rw[e5,e8,e9];have c8:=R8.all2;have f80:=zK (R8.free (k:=0) (by simp)) ⟨_,R8.cell (k:=0) rfl⟩;have f81:=zK (R8.free (k:=1) (by simp)) ⟨_,R8.cell (k:=1) rfl⟩;have kWW:=zF W;clear hFF e5 e8 e9 hR;go_upto_region 5 with fail
  have R8':=(R8.set 0 (by simp) (.int .i64 K)).set 1 (by simp) (.int .i64 O);have K8:Keeps zA w4 ((W.setCell ⟨b8,0,none⟩ (.int .i64 K)).setCell ⟨b8,1,none⟩ (.int .i64 O)):=(kW.setCell (p:=⟨b8,0,none⟩) (λh=>absurd h (by have:=k5.size;show¬b8<_;omega)) _).setCell (p:=⟨b8,1,none⟩) (λh=>absurd h (by have:=k5.size;show¬b8<_;omega)) _;have R8:zB ((W.setCell ⟨b8,0,none⟩ (.int .i64 K)).setCell ⟨b8,1,none⟩ (.int .i64 O)) b8 [.int .i64 K,.int .i64 O]:=R8';generalize (W.setCell ⟨b8,0,none⟩ (.int .i64 K)).setCell ⟨b8,1,none⟩ (.int .i64 O)=w6 at R8 K8 ⊢;clear R8' c8 f80 f81 kWW kW HRW k5 l8 k4;have c8:=R8.all2;have k6:=zF w6;go_upto_region 6 with fail
  obtain⟨be,w7,e3,e4,RE,K67,_⟩:=newRow w6 [i,K,O,(0:Int),(0:Int)] 67;rw[e3,e4];have K7:=K8.zC K67
  have HFE:Hid (T be=none/\¬F be/\w4.heap.size<=be/\be<w7.heap.size):=by
   have h1:=(HAA.out w6 K8).zP.sep.free (g:=be) (by omega);exact⟨h1.1,h1.2,by rw[<-e3];exact K8.size,RE.lt (by simp)⟩
  replace c8:=λW (q:Keeps zA w7 W)=>c8 W (K67.zC q)
  have HRE:=yA RE;have k7:=zF w7;have ye:=RE.five;have HK7:=yA K7;have HR7:=yA (HR4.out.keeps K7 (λh=>h));replace y5:=λW (q:Keeps zA w7 W)=>y5 W (K7.zC q)
  replace ts:=λW (q:Keeps zA w7 W)=>ts W (K7.zC q)
  replace tf:=λW (q:Keeps zA w7 W)=>tf W (K7.zC q)
  have HM7:=yA (HAA.out w7 K7);clear e3 e4 K67 K7 K8 RE k6 R8 HR HACT HAA;obtain⟨bd,hbd,hok,_⟩:=HH.out.2.1.th HH.out.2.2.1;rcases zDH (hok.2.2 HH.out.2.2.2.1) (hok.2.1 (by rw[HH.out.2.2.2.1];decide)).2 with⟨h3,h4⟩|⟨a,f,r,h3,h4,h5,h6,h7⟩
  ·have ea:zAc m i=(9,(i:Int)):=by unfold zAc;rw[HH.out.2.2.2.1,h3];rfl
   have hKO:=HKO.out;rw[ea] at hKO;obtain⟨rfl,rfl⟩:=hKO
   have HD:Hid (zAJ u m i=(m.zA0 i { m.get i with st:=3 },⟨i,9,i,0,0⟩)):=by
    show zAJ u m i=_
    unfold zAJ;simp only[h3,ea]
   obtain⟨rv,fv,hH,hrw,hfs⟩:=HM7.out.zP.get (uD HH.out.2.2.1);have HW:=yA ((HM7.out.went zAG (zNE zU (t:=m.get i) HM7.out.zP hH hrw hfs 3)).before HK7.out)
   have HE:Hid (∀w8,w8=w7.setCell ⟨p.gt,i*3,none⟩ (.int .i64 3)->zB w8 be [i,(9:Int),i,(0:Int),(0:Int)]):=by
    rintro w8 rfl
    refine xX (S:=λq=>q=p.gt) HRE.out ((yB (λq=>q=p.gt) w7).setCell (p:=⟨p.gt,i*3,none⟩) (λ_=>rfl) _) (λe=>?_)
    have:=HM7.out.zP.tag
    rw[<-e,HFE.out.1] at this;cases this
   clear hbd hok h3 h4 ea hH hrw hfs HM7;go_upto_region 8 with fail
   have ye8:=HE.out _ rfl;generalize w7.setCell ⟨p.gt,i*3,none⟩ (.int .i64 3)=w8 at HW ye8 ⊢;clear ye HE;have ye:=ye8.five;clear ye8 c8 y5 ts tf k7
   have R4:zB w8 b4 [(0:Int),(0:Int),(0:Int),(0:Int),(0:Int)]:=by
    exact J62 _
   have HR4':=yA R4;have f0:=zAN R4 0 (by decide);have f1:=zAN R4 1 (by decide);have f2:=zAN R4 2 (by decide);have f3:=zAN R4 3 (by decide);have f4:=zAN R4 4 (by decide);have y4:=R4.five;have kn:=zF w8;clear R4;go_wp2_with fail
   have R5:=zC3 HR4'.out ⟨i,9,i,0,0⟩;have hw:=zAy.own zU zAG (g:=b4) HW.out HB4.out.2.1 HB4.out.1 HB4.out.2.2 HFR.out.1 HFR.out.2 ⟨i,9,i,0,0⟩;have e5:zB2 w8 b4 ⟨i,9,i,0,0⟩=((((w8.setCell ⟨b4,0,none⟩ (.int .i64 (⟨i,9,i,0,0⟩:Evt).thread)).setCell ⟨b4,1,none⟩ (.int .i64 (⟨i,9,i,0,0⟩:Evt).kind)).setCell ⟨b4,2,none⟩ (.int .i64 (⟨i,9,i,0,0⟩:Evt).obj)).setCell ⟨b4,3,none⟩ (.int .i64 (⟨i,9,i,0,0⟩:Evt).value)).setCell ⟨b4,4,none⟩ (.int .i64 (⟨i,9,i,0,0⟩:Evt).bad):=rfl;dsimp only at e5
   rw[<-e5];clear e5;generalize zB2 w8 b4 ⟨i,9,i,0,0⟩=wz at R5 hw ⊢;dsimp only at R5
   refine xK (v:=.tuple #[evV ⟨i,9,i,0,0⟩,(0:Int)]) (J211 _) rfl ?_
   rw[HH.out.2.2.2.2,HD.out];exact⟨rfl,hw⟩
  ·have ea:zAc m i=(a.kind-1,a.obj):=by unfold zAc;rw[HH.out.2.2.2.1,h3];rfl
   have hKO:=HKO.out;rw[ea] at hKO;obtain⟨rfl,rfl⟩:=hKO;have n9:(a.kind-1==9)=false:=xN (by omega);have hsp:=zAg h4;have hfo:=(hok.2.1 (by rw[HH.out.2.2.2.1];decide)).2;rw[hsp] at hfo;obtain⟨rv,gp,cap,css,pv,hL⟩:=HM7.out.zP.last (uD HH.out.2.2.1) hsp;have HT:=zJn hL hfo.split.2;have hpl:=hL.pl;rcases hdm:doM u m i a with⟨m1,v,bad⟩;have HDM:=yA hdm
   have HDO:Hid (m1.ok u/\m1.zP.length=m.zP.length/\(m1.get i).st=2/\(m1.get i).fs=(m.get i).fs):=by
    have q1:=zIQ HH.out.1 HH.out.2.1 HH.out.2.2.1 a;have q2:=zEt (u:=u) HH.out.2.2.1 HH.out.2.2.2.1 a;rw[hdm] at q1 q2;exact⟨q1.1,q1.2,q2.1,q2.2⟩
   have HST:Hid ((m.get i).next=some a/\zAc m i=(a.kind-1,a.obj)/\(m.get i).fs=(m.get i).fs.dropLast++[f]/\(m.get i).fs.dropLast.length<1000000/\f.rest=a :: r):=⟨h3,ea,hsp,hfo.split.2,h5⟩;have HBD:Hid (Ac.may u bd.regs a=true/\(m.get i).regs.length=bd.regs.toNat/\2<=a.kind/\a.kind<=9/\u.threads[i]?=some bd):=⟨h6,(hok.2.1 (by rw[HH.out.2.2.2.1];decide)).1,h7.1,h7.2,hbd⟩;unfold zBc at hpl;rw[h5] at hpl;clear hbd hok h3 h4 ea hsp hfo hL hdm h6 h7;rcases hpl with hp|hp
   all_goals (first|(obtain⟨h0,vv,rfl,hv⟩:=hp;clear h0)|(obtain⟨vv,v2,rfl,hv,hv2⟩:=hp;obtain⟨sg,sh,rfl⟩:=hv2.slice;clear hv2))
   all_goals (
    obtain⟨ga,oa,sc,xa,xc,tv,ev,rfl,hga,hxs,htv,hev,q⟩:=hv.head;obtain⟨ta,tc,rfl⟩:=htv.slice;obtain⟨ea,ec,rfl⟩:=hev.slice
    have HDS:Hid (∀W,Keeps zA w7 W->Calls Tryz.prog 65 #[.pointer (some ⟨b,0,none⟩),.pointer (some ⟨be,0,none⟩),.agg #[a.kind,a.reg,a.obj,a.ex.kind,a.ex.num,a.ex.nm,.slice xa a.ex.args.length xc,a.count,.slice ta a.thn.length tc,.slice ea a.els.length ec]] W λe w'=>e=.returned (.tuple #[])/\Do1 W T F id b u p be i (a.kind-1) a.obj m1 v bad w'):=λW hq=>by
     have:=zOA (w:=W) (T:=T) (F:=F) (id:=id) (b:=b) (be:=be) (i:=i) (u:=u) (p:=p) (m:=m) (H:=H) (a:=a) (n:=bd.regs) (xa:=xa) (ta:=ta) (ea:=ea) (xc:=xc) (tc:=tc) (ec:=ec) ⟨vB zU zAG HM7.out hq,HH.out.2.1,HH.out.1,HH.out.2.2.1,HRE.out.keeps hq (λh=>h),HFE.out.1,HFE.out.2.1,HBD.out.1,HBD.out.2.1,vS hxs hq (λ_ _ h=>h)⟩ ⟨HBD.out.2.2.1,HBD.out.2.2.2.1⟩
     rw[HDM.out] at this;exact this
    have d:∀W,Keeps zA w7 W->W.cell? ⟨ga,oa,none⟩=some (.int .i64 a.kind)/\W.cell? ⟨ga,oa+1,none⟩=some (.int .i64 a.reg)/\W.cell? ⟨ga,oa+2,none⟩=some (.int .i64 a.obj)/\W.cell? ⟨ga,oa+3,none⟩=some (.int .i64 a.ex.kind)/\W.cell? ⟨ga,oa+4,none⟩=some (.int .i64 a.ex.num) ∧
     W.cell? ⟨ga,oa+5,none⟩=some (.string a.ex.nm)/\W.cell? ⟨ga,oa+6,none⟩=some (.slice xa a.ex.args.length xc)/\W.cell? ⟨ga,oa+7,none⟩=some (.int .i64 a.count)/\W.cell? ⟨ga,oa+8,none⟩=some (.slice ta a.thn.length tc)/\W.cell? ⟨ga,oa+9,none⟩=some (.slice ea a.els.length ec):=
     λW hk=>⟨hk.cell (λh=>h) q.1,hk.cell (λh=>h) q.2.1,hk.cell (λh=>h) q.2.2.1,hk.cell (λh=>h) q.2.2.2.1,hk.cell (λh=>h) q.2.2.2.2.1,hk.cell (λh=>h) q.2.2.2.2.2.1,hk.cell (λh=>h) q.2.2.2.2.2.2.1,hk.cell (λh=>h) q.2.2.2.2.2.2.2.1,hk.cell (λh=>h) q.2.2.2.2.2.2.2.2.1,hk.cell (λh=>h) q.2.2.2.2.2.2.2.2.2⟩
    clear hv q hxs htv hev hga h5;have j1:¬((r.length+1:Nat):Int)=0:=by omega
    have j2:(((r.length+1:Nat):Int)==0)=false:=xN j1;go_upto_region 10 with(first|(go_at_call 66;refine HT.call k7 ?_;intro w8 _ k8)|(go_at_call 366;refine(zCm _ _ ⟨_,_,_,rfl⟩).mono ?_;rintro e w9 ⟨rfl,g9⟩;have k9:=k8.zC g9;clear g9)|(go_at_call 367;refine(zDz _ _ _ _ ⟨_,_,_,rfl⟩ ⟨_,_,_,rfl⟩).mono ?_;rintro e w9 ⟨rfl,g9⟩;have k9:=k8.zC g9;clear g9)|(go_at_call 65;refine(HDS.out _ k9).mono ?_;rintro e w10 ⟨rfl,g10⟩;have D10:=yA g10;clear g10))
    obtain⟨T10,H10,M10,x10,q10,E10,t10,s10⟩:=D10.out;have HX10:Hid (zAT T T10 id w4/\Keeps (zAk T id) w4 w10):=⟨⟨x10.1,λk y e=>(x10.2 k y e).imp (λh=>h) (λh=>⟨yX (HK7.out.zC k9).size h.1,h.2⟩)⟩,((HK7.out.zC k9).mono (λ_ _ h=>h.elim)).trans q10 (λk hlt e=>e.elim (λh=>h) (λh=>absurd HFE.out.2.2.1 (by rw[<-h];omega)))⟩;have HM10:=yA M10;have HE10:=yA E10;have HT10:=yA t10;have hi1:i<m1.zP.length:=by rw[HDO.out.2.1];exact HH.out.2.2.1
    have HI1:=yA hi1;have ye':=E10.five;have ts':=M10.st hi1;have tf':∀W,Keeps zA w10 W->W.frozen? ⟨p.gt,i*3,none⟩=false:=zK (zD0 M10.zP.row (i:=i) (by rw[M10.zP.len];exact hi1) 0 (by decide)) ⟨_,M10.st hi1 w10 (zF w10)⟩
    have k10:=zF w10;clear M10 x10 q10 E10 t10 s10 hi1 k8 k9 k7 d ye ts tf c8 y5 D10 j1 j2 n9;by_cases hb:bad=0
    ·have hbb:(bad != 0)=false:=by rw[hb];rfl
     have HB0:=yA hb;clear hb;have hfs1:=HDO.out.2.2.2.trans HST.out.2.2.1;obtain⟨rv1,gp1,cap1,css1,pv1,hL1⟩:=HM10.out.zP.last (uD HI1.out) hfs1;have HP:=yA (zER hL1 HST.out.2.2.2.2 HST.out.2.2.2.1);clear hL1 hfs1 ts' tf';go_upto_region 14 with(go_at_call 67;refine HP.out.mono ?_;rintro e w11 ⟨rfl,g11⟩;have HW11:=yA (HM10.out.went zAG g11);clear g11)
     obtain⟨T11,H11,M11,x11,q11⟩:=HW11.out;have HX11:Hid (zAT T10 T11 id w10/\Keeps (zAk T10 id) w10 w11):=⟨x11,q11⟩;have HM11:=yA M11
     have hon:({ m1.get i with fs:=(m.get i).fs.dropLast++[⟨r,f.all,f.left⟩] }:WTh)=(m1.get i).on:=by
      unfold WTh.on;rw[HDO.out.2.2.2];have e:(m.get i).fs.getLast?=some f:=by rw[HST.out.2.2.1];simp
      rw[e];simp only[HST.out.2.2.2.2,List.tail_cons]
     have hok1:=HDO.out.1.each i _ bd (uD HI1.out) HBD.out.2.2.2.2;have hfo1:=hok1.2.1 (by rw[HDO.out.2.2.1];decide)
     have HL:=yA (zHX (n:=bd.regs) (u:=u) (t:=(m1.get i).on) (i:=i) M11.zP (by rw[hon];exact xV HI1.out) (zRq hfo1.2) (by
      have:(m1.get i).on.regs=(m1.get i).regs:=by unfold WTh.on;split <;> rfl
      rw[this];exact hfo1.1))
     have HON:=yA hon;clear M11 x11 q11 hon hok1 hfo1 ye';have k11:=zF w11;go_upto_region 15 with(go_at_call 68;refine HL.out.mono ?_;rintro e w12 ⟨rfl,g12⟩;have HW12:=yA (HM11.out.went zAG g12);clear g12)
     have HW:Hid (zAy zm 1 148 zBk w4 T F id b u p (m1.zA0 i (m1.get i).on.local) w12):=by
      have h:=zAy.trans HX10.out.1 HX10.out.2 (zAy.trans HX11.out.1 HX11.out.2 HW12.out);have e:(m1.zA0 i { m1.get i with fs:=(m.get i).fs.dropLast++[⟨r,f.all,f.left⟩] }).zA0 i (m1.get i).on.local=m1.zA0 i (m1.get i).on.local:=by unfold zy.zA0;rw[List.set_set]
      rw[e] at h;exact h
     have ye:=(xX (S:=zAk T10 id) HE10.out (show Keeps (zAk T10 id) w10 w12 by
      obtain⟨_,_,_,_,kk⟩:=HW12.out;exact HX11.out.2.trans kk (λk hlt e=>HX11.out.1.own e hlt)) (λ⟨t,e⟩=>by rw[HT10.out] at e;cases e)).five
     have HD:Hid (zAJ u m i=(m1.zA0 i (m1.get i).on.local,⟨i,a.kind-1,a.obj,v,bad⟩)):=by
      show zAJ u m i=_
      unfold zAJ;simp only[HST.out.1,HST.out.2.1,HDM.out];rw[if_neg (λh=>h HB0.out),HB0.out]
     clear k10 k11
     have R4:zB w12 b4 [(0:Int),(0:Int),(0:Int),(0:Int),(0:Int)]:=by
      exact J62 _
     have HR4':=yA R4;have f0:=zAN R4 0 (by decide);have f1:=zAN R4 1 (by decide);have f2:=zAN R4 2 (by decide);have f3:=zAN R4 3 (by decide);have f4:=zAN R4 4 (by decide);have y4:=R4.five;have kn:=zF w12;clear R4;go_wp2_with fail
     have R5:=zC3 HR4'.out ⟨i,a.kind-1,a.obj,v,bad⟩;have hw:=zAy.own zU zAG (g:=b4) HW.out HB4.out.2.1 HB4.out.1 HB4.out.2.2 HFR.out.1 HFR.out.2 ⟨i,a.kind-1,a.obj,v,bad⟩;have e5:zB2 w12 b4 ⟨i,a.kind-1,a.obj,v,bad⟩=((((w12.setCell ⟨b4,0,none⟩ (.int .i64 (⟨i,a.kind-1,a.obj,v,bad⟩:Evt).thread)).setCell ⟨b4,1,none⟩ (.int .i64 (⟨i,a.kind-1,a.obj,v,bad⟩:Evt).kind)).setCell ⟨b4,2,none⟩ (.int .i64 (⟨i,a.kind-1,a.obj,v,bad⟩:Evt).obj)).setCell ⟨b4,3,none⟩ (.int .i64 (⟨i,a.kind-1,a.obj,v,bad⟩:Evt).value)).setCell ⟨b4,4,none⟩ (.int .i64 (⟨i,a.kind-1,a.obj,v,bad⟩:Evt).bad):=rfl;dsimp only at e5
     rw[<-e5];clear e5;generalize zB2 w12 b4 ⟨i,a.kind-1,a.obj,v,bad⟩=wz at R5 hw ⊢;exact J52 _
    ·have hbb:(bad != 0)=true:=uN.2 hb
     have HB0:=yA hb;clear hb;obtain⟨rv1,fv1,hH1,hrw1,hfs1⟩:=HM10.out.zP.get (uD HI1.out);have hw11:=HM10.out.went zAG (zNE zU (t:=m1.get i) HM10.out.zP hH1 hrw1 hfs1 4);have HW:=yA (zAy.trans HX10.out.1 HX10.out.2 hw11)
     have HE:Hid (∀w8,w8=w10.setCell ⟨p.gt,i*3,none⟩ (.int .i64 4)->zB w8 be [i,.int .i64 (a.kind-1),a.obj,v,bad]):=by
      rintro w8 rfl
      refine xX (S:=λq=>q=p.gt) HE10.out ((yB (λq=>q=p.gt) w10).setCell (p:=⟨p.gt,i*3,none⟩) (λ_=>rfl) _) (λe=>?_)
      have:=HM10.out.zP.tag
      rw[<-e,HT10.out] at this;cases this
     have HD:Hid (zAJ u m i=(m1.zA0 i { m1.get i with st:=4 },⟨i,a.kind-1,a.obj,v,bad⟩)):=by
      show zAJ u m i=_
      unfold zAJ;simp only[HST.out.1,HST.out.2.1,HDM.out];rw[if_pos HB0.out]
     clear hH1 hrw1 hfs1 hw11;go_upto_region 12 with fail
     have ye8:=HE.out _ rfl;generalize w10.setCell ⟨p.gt,i*3,none⟩ (.int .i64 4)=w11 at HW ye8 ⊢;have ye:=ye8.five;clear ye8 ye' ts' tf' k10 HE
     have R4:zB w11 b4 [(0:Int),(0:Int),(0:Int),(0:Int),(0:Int)]:=by
      exact J62 _
     have HR4':=yA R4;have f0:=zAN R4 0 (by decide);have f1:=zAN R4 1 (by decide);have f2:=zAN R4 2 (by decide);have f3:=zAN R4 3 (by decide);have f4:=zAN R4 4 (by decide);have y4:=R4.five;have kn:=zF w11;clear R4;go_wp2_with fail
     have R5:=zC3 HR4'.out ⟨i,a.kind-1,a.obj,v,bad⟩;have hw:=zAy.own zU zAG (g:=b4) HW.out HB4.out.2.1 HB4.out.1 HB4.out.2.2 HFR.out.1 HFR.out.2 ⟨i,a.kind-1,a.obj,v,bad⟩;have e5:zB2 w11 b4 ⟨i,a.kind-1,a.obj,v,bad⟩=((((w11.setCell ⟨b4,0,none⟩ (.int .i64 (⟨i,a.kind-1,a.obj,v,bad⟩:Evt).thread)).setCell ⟨b4,1,none⟩ (.int .i64 (⟨i,a.kind-1,a.obj,v,bad⟩:Evt).kind)).setCell ⟨b4,2,none⟩ (.int .i64 (⟨i,a.kind-1,a.obj,v,bad⟩:Evt).obj)).setCell ⟨b4,3,none⟩ (.int .i64 (⟨i,a.kind-1,a.obj,v,bad⟩:Evt).value)).setCell ⟨b4,4,none⟩ (.int .i64 (⟨i,a.kind-1,a.obj,v,bad⟩:Evt).bad):=rfl;dsimp only at e5
     rw[<-e5];clear e5;generalize zB2 w11 b4 ⟨i,a.kind-1,a.obj,v,bad⟩=wz at R5 hw ⊢;exact J52 _
    )
theorem zMk(h:MaP zm 1 148 zBk w T F id b u p m H)(hu:zX u=true)(hm:m.ok u)(i:Int):
 Calls Tryz.prog 27 #[.pointer (some ⟨b,0,none⟩),i] w (zF7 zm 1 148 zBk w T F id b u p (stepM u m i)):=by
 by_cases h0:zCF m i=0
 ·obtain⟨h1,h2,_⟩:=hm.run h0
  obtain⟨k,rfl⟩:∃k:Nat,i=k:=⟨i.toNat,by omega⟩
  exact zPY h hu hm k h0
 ·exact zPQ h hm i h0
end
