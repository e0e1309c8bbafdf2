/- Layer D: texts joined. -/
import Derived.Test.YtoapgjjepiopbaaGreatDoorD44
set_option linter.all false
set_option maxHeartbeats 4000000
set_option maxRecDepth 8000
namespace Go.Proofs.YtoapgjjepiopbaaGreatDoor
open Go.RowKit
theorem J213(P:Prop)(h:P:=by obtain⟨z,e,hz,h0⟩:=h;exact⟨z,e,hz,h0.keeps hk (λh=>h)⟩):P:=h
theorem J225(P:Prop)(h:P:=by have e':q=bz:=e;have:=HB1.out;omega):P:=h
theorem J247(P:Prop)(h:P:=by simp[results,Tryz.results178,go_sem,rq.cell (k:=0) rfl,rq.cell (k:=1) rfl]):P:=h
theorem zPJ{cs:List Int}{mu:Int}{bs:List Bd}{w:World}{F:Nat->Prop}{uca uta:Option Addr}(ucc utc:Nat)(h:zC8 w F cs bs uca uta)(hr:newR ⟨cs,mu,bs⟩=0):Calls Tryz.prog 12 #[.agg #[.slice uca cs.length ucc,mu,.slice uta bs.length utc]] w λe w'=>∃bx gs nc nb ca ta tc,e=.returned (.tuple #[(.pointer (some ⟨bx,0,none⟩)),(0:Int)])/\zB w' bx [.slice ca nc nc,mu,.slice ta nb tc,(.pointer (some ⟨gs,0,none⟩)),.slice none 0 0,.func (.func 34) #[(.pointer (some ⟨bx,0,none⟩))] #[],(1:Int),(0:Int),(0:Int),(0:Int),(0:Int),(0:Int),.slice none 0 0,.slice none 0 0]/\zQ w' gs (.slice none 0 0) []/\(w.heap.size<=gs/\gs<bx)/\Keeps zA w w'/\(bs=[⟨0,[]⟩]->cs=[]->nb=1/\nc=0/\∃gt ot gI,ta=some ⟨gt,ot,none⟩/\gt<gs/\gI<gs/\zDb w' gt ot gI):=by
 obtain⟨rv,hrv⟩:=eX (newR ⟨cs,mu,bs⟩);have hri:=zEf hr;obtain⟨nc,hnc⟩:=eX cs.length;obtain⟨nb,hnb⟩:=eX bs.length
 have HWI:Hid (∀W,Keeps zA w W->Calls Tryz.prog 6 #[.agg #[.slice uca nc ucc,mu,.slice uta nb utc]] W λe w'=>e=.returned rv/\Keeps zA W w'):=λW hk=>by
  rw[hnc,hnb,hrv];exact(h.zG hk).within
 have HLO:Hid (∀W,Keeps zA w W->Calls Tryz.prog 32 #[.agg #[.slice uca nc ucc,mu,.slice uta nb utc]] W λe w'=>∃ca ta tc,e=.returned (.tuple #[.agg #[.slice ca nc nc,mu,.slice ta nb tc],(0:Int)])/\Keeps zA W w'/\(∀rg,bs=[⟨rg,[]⟩]->∃gI,zl w' (.slice ta 1 tc) 1 [.int .i64 rg,.slice (some ⟨gI,0,none⟩) 1 1]/\zl w' (.slice (some ⟨gI,0,none⟩) 1 1) 1 [.int .i64 29,.int .i64 0,.int .i64 0,.int .i64 0])):=λW hk=>by
  rw[hnc,hnb];exact zNt ucc utc (h.zG hk) hri
 rw[<-hrv] at hr;subst hr;have HNB:Hid (nb=bs.length):=hnb;have HNC:Hid (nc=cs.length):=hnc;rw[<-hnc,<-hnb];clear h hri hrv hnc hnb;have hmf:∀(fn:Fn)(first cap:Array Value)(w:World),(Instr.makeFunc fn first cap).run Tryz.prog w=.ok (.func fn first cap) w:=λ_ _ _ _=>rfl
 go_enter Tryz.func12,Tryz.ntmps12
 go_upto_region 1 with fail
 obtain⟨b1,w1,e1,e2,R1,K1,_⟩:=newRow w [.slice uca nc ucc,mu,.slice uta nb utc] 25;rw[e1,e2];have y:=R1.zA7;have HK1:Hid (Keeps zA w w1):=K1;have HR1:=yA R1;have k1:=zF w1;clear e1 e2 R1 K1;go_upto_region 2 with(go_at_call 6;refine(HWI.out _ HK1.out).mono ?_;rintro e w2 ⟨rfl,g2⟩;have HK2:=yA (HK1.out.zC g2);have HR2:=yA (HR1.out.keeps g2 (λh=>h));clear g2 y k1)
 have y:=HR2.out.zA7;have k2:=zF w2;clear HR1 HK1;go_upto_region 5 with(go_at_call 32;refine(HLO.out _ HK2.out).mono ?_;rintro e w3 ⟨ca,ta,tc,rfl,g3,g4⟩;have HK3:=yA (HK2.out.zC g3);have HI3:=yA g4;clear g3 g4 y k2)
 obtain⟨bi,w6,e1,e2,R6,K6,_⟩:=newRow w3 [.slice ca nc nc,mu,.slice ta nb tc] 78;rw[e1,e2];have y:=R6.zA7;have HK6:Hid (Keeps zA w w6):=HK3.out.zC K6
 have HI6:Hid (∀rg,bs=[⟨rg,[]⟩]->∃gI,zl w6 (.slice ta 1 tc) 1 [.int .i64 rg,.slice (some ⟨gI,0,none⟩) 1 1]/\zl w6 (.slice (some ⟨gI,0,none⟩) 1 1) 1 [.int .i64 29,.int .i64 0,.int .i64 0,.int .i64 0]):=λrg e=>by
  obtain⟨gI,h1,h2⟩:=HI3.out rg e;exact⟨gI,h1.zG K6,h2.zG K6⟩
 have k6:=zF w6;clear e1 e2 R6 K6 HK3 HI3 HK2 HR2;go_upto_region 7 with fail
 refine zBG 2 (by kernel_rfl) [some (.agg #[.slice ca nc nc,mu,.slice ta nb tc]),none] rfl (λj v W=>∃gs,v=.pointer (some ⟨gs,0,none⟩)/\zQ W gs (.slice none 0 0) []/\w6.heap.size<=gs) (λj v W W' h hk=>by obtain⟨gs,e,h1,h2⟩:=h;exact⟨gs,e,h1.keeps hk (λ_ _ h=>h),h2⟩) ?_ ?_
 ·refine⟨?_,?_,trivial⟩ <;> (intro vs gs W Q' hR hd hK;have HRW:Keeps zA w6 W:=((zF w6).drew).zC hR;simp only[zBK,zAt,zBo,zJ,tz,Option.bind,Act.put] at hd hK ⊢;try simp only[hd] at hK ⊢)
  all_goals try(try clear hd;go_wp2_with (fail);first|exact hK _ _ (yB _ _) rfl)
  ·clear hd
   go_wp2_with (go_at_call 33;refine(zKG W).mono ?_;rintro e W1 ⟨rfl,rfl⟩)
   exact hK _ _ ((yB zA W).alloc _) ⟨_,rfl,zQ.fresh W,HRW.size⟩
 ·intro vs W hR hFF
  have HRW:Keeps zA w6 W:=((zF w6).drew).zC hR;obtain⟨gs,e8,S8,l8⟩:=(hFF 1 (by decide):∃gs,vs 1=.pointer (some ⟨gs,0,none⟩)/\zQ W gs (.slice none 0 0) []/\w6.heap.size<=gs);have e0:vs 0=_:=hFF 0 (by decide);simp only[zJ,tz,Option.bind,Act.put];rw[e0,e8];have HSW:=yA S8;have HL8:Hid (w.heap.size<=gs/\gs<W.heap.size/\w6.heap.size<=gs):=⟨yX HK6.out.size l8,yR W _ S8.cell0,l8⟩;have HKW:Hid (Keeps zA w6 W):=HRW;clear hFF e0 e8 S8 l8 hR HRW y k6;go_upto_region 8 with fail
  obtain⟨bx,w7,e1,e2,R7,K7,_⟩:=newRow W [.slice ca nc nc,mu,.slice ta nb tc,(.pointer (some ⟨gs,0,none⟩)),.slice none 0 0,.nilFunc,(1:Int),(0:Int),(0:Int),(0:Int),(0:Int),(0:Int),.slice none 0 0,.slice none 0 0] 87;rw[e1,e2];have HX:Hid (bx=W.heap.size):=e1.symm;have y5:=R7.cell (k:=5) rfl;have f5:=R7.free (k:=5) (by simp);have HR7:=yA R7;have HK7:=yA K7;clear e1 e2 R7 K7;go_upto_region 9 with fail
  have hrow:=HR7.out.set 5 (by simp) (.func (.func 34) #[(.pointer (some ⟨bx,0,none⟩))] #[]);have kS:Keeps (λq=>q=bx) w7 (w7.setCell ⟨bx,5,none⟩ (.func (.func 34) #[(.pointer (some ⟨bx,0,none⟩))] #[])):=(yB (λq=>q=bx) w7).setCell (p:=⟨bx,5,none⟩) (λ_=>rfl) _;generalize w7.setCell ⟨bx,5,none⟩ (.func (.func 34) #[(.pointer (some ⟨bx,0,none⟩))] #[])=w8 at hrow kS ⊢;have HR8:=yA hrow;have HK8:Hid (Keeps zA W w8):=HK7.out.trans kS (λq hq e=>by have e':q=bx:=e;have:=HX.out;omega);clear hrow kS y5 f5;go_wp2_with fail
  go_ret2
  refine⟨bx,gs,nc,nb,ca,ta,tc,rfl,HR8.out,HSW.out.keeps HK8.out (λ_ _ h=>h),⟨HL8.out.1,by have:=HX.out;have:=HL8.out;omega⟩,(HK6.out.zC HKW.out).zC HK8.out,λe ec=>⟨by have h0:=HNB.out;rw[e] at h0;exact h0,by have h0:=HNC.out;rw[ec] at h0;exact h0,?_⟩⟩
  obtain⟨gI,h1,h2⟩:=HI6.out 0 e;have hk:=HKW.out.zC HK8.out;obtain⟨ad,cap,e3,hs⟩:=h1;cases e3;obtain⟨gt,ot,rfl,hc⟩:=hs (by decide);obtain⟨ad,cap,e3,hs2⟩:=h2;cases e3;obtain⟨gJ,oJ,e4,hd⟩:=hs2 (by decide);cases e4;have c0:=hc 0 _ rfl;have d0:=hd 0 _ rfl;have l0:=yR w6 _ c0;have l1:=yR w6 _ d0;have l2:=HL8.out.2.2;exact⟨gt,ot,gI,rfl,yH l0 l2,yH l1 l2,zDb.zG ⟨c0,hc 1 _ rfl,d0,hd 1 _ rfl,hd 2 _ rfl,hd 3 _ rfl⟩ hk⟩
structure VmC(w:World)(b:Nat)(st:Int)(ca oa ra:Option Addr)(cc oc rc gc gi gf kc ki kf:Nat):Prop where
 row:zB w b [.slice ca 0 cc,.slice oa 0 oc,.slice (some ⟨gc,0,none⟩) 1 kc,.slice (some ⟨gf,0,none⟩) 1 kf]
 code:zB w gc [.slice (some ⟨gi,0,none⟩) 1 ki]
 ins:zB w gi [(29:Int),(0:Int),(0:Int),(0:Int)]
 fr:zB w gf [st,.slice ra 0 rc,(0:Int)]
 nb:gf≠b
 nc:gf≠gc
 ni:gf≠gi
theorem VmC.keeps{S:Nat->Prop}{w':World}{w:World}{b gc gi gf:Nat}{ca oa ra:Option Addr}{cc oc rc kc ki kf:Nat}{st:Int}(h:VmC w b st ca oa ra cc oc rc gc gi gf kc ki kf)(hk:Keeps S w w')(h1:¬S b)(h2:¬S gc)(h3:¬S gi)(h4:¬S gf):VmC w' b st ca oa ra cc oc rc gc gi gf kc ki kf:=
 ⟨h.row.keeps hk h1,h.code.keeps hk h2,h.ins.keeps hk h3,h.fr.keeps hk h4,h.nb,h.nc,h.ni⟩
theorem VmC.zG{w':World}{w:World}{b gc gi gf:Nat}{ca oa ra:Option Addr}{cc oc rc kc ki kf:Nat}{st:Int}(h:VmC w b st ca oa ra cc oc rc gc gi gf kc ki kf)(hk:Keeps zA w w'):VmC w' b st ca oa ra cc oc rc gc gi gf kc ki kf:=h.keeps hk (λh=>h) (λh=>h) (λh=>h) (λh=>h)
theorem VmC.all{w:World}{b gc gi gf:Nat}{ca oa ra:Option Addr}{cc oc rc kc ki kf:Nat}{st:Int}(h:VmC w b st ca oa ra cc oc rc gc gi gf kc ki kf):∀W,Keeps zA w W->W.cell? ⟨b,0,none⟩=some (.slice ca 0 cc)/\W.cell? ⟨b,1,none⟩=some (.slice oa 0 oc)/\W.cell? ⟨b,2,none⟩=some (.slice (some ⟨gc,0,none⟩) 1 kc)/\W.cell? ⟨b,3,none⟩=some (.slice (some ⟨gf,0,none⟩) 1 kf)/\W.cell? ⟨gc,0,none⟩=some (.slice (some ⟨gi,0,none⟩) 1 ki)/\W.cell? ⟨gi,0,none⟩=some (.int .i64 29)/\W.cell? ⟨gi,1,none⟩=some (.int .i64 0)/\W.cell? ⟨gi,2,none⟩=some (.int .i64 0)/\W.cell? ⟨gi,3,none⟩=some (.int .i64 0)/\W.cell? ⟨gf,0,none⟩=some (.int .i64 st)/\W.cell? ⟨gf,1,none⟩=some (.slice ra 0 rc)/\W.cell? ⟨gf,2,none⟩=some (.int .i64 0):=λW q=>by
 have h:=h.zG q;exact⟨h.row.cell (k:=0) rfl,h.row.cell (k:=1) rfl,h.row.cell (k:=2) rfl,h.row.cell (k:=3) rfl,h.code.cell (k:=0) rfl,h.ins.cell (k:=0) rfl,h.ins.cell (k:=1) rfl,h.ins.cell (k:=2) rfl,h.ins.cell (k:=3) rfl,h.fr.cell (k:=0) rfl,h.fr.cell (k:=1) rfl,h.fr.cell (k:=2) rfl⟩
theorem VmC.set{w:World}{b gc gi gf:Nat}{ca oa ra:Option Addr}{cc oc rc kc ki kf:Nat}{st:Int}(h:VmC w b st ca oa ra cc oc rc gc gi gf kc ki kf)(v:Int):VmC (w.setCell ⟨gf,0,none⟩ (.int .i64 v)) b v ca oa ra cc oc rc gc gi gf kc ki kf/\Keeps (λq=>q=gf) w (w.setCell ⟨gf,0,none⟩ (.int .i64 v)):=by
 have hk:Keeps (λq=>q=gf) w (w.setCell ⟨gf,0,none⟩ (.int .i64 v)):=(yB (λq=>q=gf) w).setCell (p:=⟨gf,0,none⟩) (λ_=>rfl) _;exact⟨⟨h.row.keeps hk (λe=>h.nb e.symm),h.code.keeps hk (λe=>h.nc e.symm),h.ins.keeps hk (λe=>h.ni e.symm),h.fr.set 0 (by simp) _,h.nb,h.nc,h.ni⟩,hk⟩
theorem zOs(w:World):Calls Tryz.prog 210 #[(29:Int)] w λe w'=>e=.returned true/\w=w':=by
 go_enter Tryz.func210,Tryz.ntmps210
 exact J145 _
theorem zIY{w:World}{b gc gi gf:Nat}{ca oa ra:Option Addr}{cc oc rc kc ki kf:Nat}{st:Int}(h:VmC w b st ca oa ra cc oc rc gc gi gf kc ki kf)(hst:st=2\/st=3):Calls Tryz.prog 178 #[(.pointer (some ⟨b,0,none⟩)),(0:Int)] w λe w'=>e=.returned (.agg #[.int .i64 (if st=2 then 9 else 0),(0:Int)])/\Keeps zA w w':=by
 have H:=yA h;clear h;go_enter Tryz.func178,Tryz.ntmps178
 go_upto_region 1 with fail
 obtain⟨bz,w1,e1,e2,R1,K1,_⟩:=newRow w [(0:Int),(0:Int)] 138;rw[e1,e2];have HB1:Hid (bz=w.heap.size):=e1.symm;have HR1:=yA R1;have HK1:=yA K1;have y:=(H.out.zG K1).all;have k1:=zF w1;clear e1 e2 R1 K1;go_upto_region 2 with fail
 obtain⟨by_,w2,e1,e2,R2,K2,_⟩:=newRow w1 [st,.slice ra 0 rc,(0:Int)] 276;rw[e1,e2];have HK2:Hid (Keeps zA w w2):=HK1.out.zC K2;have HRz:=yA (HR1.out.keeps K2 (λh=>h));have HRy:=yA R2;clear e1 e2 R2 K2 y k1;have y:=(H.out.zG HK2.out).all;have u:=HRy.out.zA7;have k2:=zF w2;rcases hst with rfl|rfl
 ·go_upto_region 4 with fail
  refine zBG 12 (by kernel_rfl) [some ((.pointer (some ⟨b,0,none⟩))),some ((.pointer (some ⟨b,0,none⟩))),some ((.pointer (some ⟨b,2,none⟩))),some (.slice (some ⟨gc,0,none⟩) 1 kc),some (.int .i64 0),some ((.pointer (some ⟨gc,0,none⟩))),some (.slice (some ⟨gi,0,none⟩) 1 ki),some ((.pointer (some ⟨by_,2,none⟩))),some (.int .i64 0),some ((.pointer (some ⟨gi,0,none⟩))),some (.agg #[(29:Int),(0:Int),(0:Int),(0:Int)]),none] rfl (λj v W=>∃z,v=.pointer (some ⟨z,0,none⟩)/\w2.heap.size<=z/\zB W z [(0:Int),(0:Int),(0:Int),(0:Int)]) (λj v W W' h hk=>by exact J213 _) ?_ ?_
  ·refine⟨?_,?_,?_,?_,?_,?_,?_,?_,?_,?_,?_,?_,trivial⟩ <;> (intro vs gs W Q' hR hd hK;have HRW:Keeps zA w2 W:=((zF w2).drew).zC hR;simp only[zBK,zAt,zBo,zJ,tz,Option.bind,Act.put] at hd hK ⊢;try simp only[hd] at hK ⊢)
   all_goals try(try clear hd;go_wp2_with (fail);first|exact hK _ _ (yB _ _) rfl)
   ·exact J34 _
  ·intro vs W hR hFF
   have HRW:Keeps zA w2 W:=((zF w2).drew).zC hR;obtain⟨z,e11,hz,rz⟩:=(hFF 11 (by decide):∃z,vs 11=.pointer (some ⟨z,0,none⟩)/\w2.heap.size<=z/\zB W z [(0:Int),(0:Int),(0:Int),(0:Int)]);have e10:vs 10=_:=hFF 10 (by decide);simp only[zJ,tz,Option.bind,Act.put];rw[e10,e11];have c0:=rz.cell (k:=0) rfl;have c1:=rz.cell (k:=1) rfl;have c2:=rz.cell (k:=2) rfl;have c3:=rz.cell (k:=3) rfl;have f0:=rz.free (k:=0) (by simp);have f1:=rz.free (k:=1) (by simp);have f2:=rz.free (k:=2) (by simp);have f3:=rz.free (k:=3) (by simp);have HsR:=yA rz;have HZ:Hid (w2.heap.size<=z/\bz<w2.heap.size):=⟨hz,HRz.out.lt (by simp)⟩;have HKW:=yA HRW;clear hFF e10 e11 hR HRW y u k2 rz hz;go_upto_region 5 with fail
   have rs:zB ((((W.setCell ⟨z,0,none⟩ (.int .i64 29)).setCell ⟨z,1,none⟩ (.int .i64 0)).setCell ⟨z,2,none⟩ (.int .i64 0)).setCell ⟨z,3,none⟩ (.int .i64 0)) z [.int .i64 29,.int .i64 0,.int .i64 0,.int .i64 0]:=((((HsR.out.set 0 (by simp) (.int .i64 29)).set 1 (by simp) (.int .i64 0)).set 2 (by simp) (.int .i64 0)).set 3 (by simp) (.int .i64 0));have ks:Keeps (λq=>q=z) W ((((W.setCell ⟨z,0,none⟩ (.int .i64 29)).setCell ⟨z,1,none⟩ (.int .i64 0)).setCell ⟨z,2,none⟩ (.int .i64 0)).setCell ⟨z,3,none⟩ (.int .i64 0)):=(((((yB (λq=>q=z) W).setCell (p:=⟨z,0,none⟩) (λ_=>rfl) (.int .i64 29)).setCell (p:=⟨z,1,none⟩) (λ_=>rfl) (.int .i64 0)).setCell (p:=⟨z,2,none⟩) (λ_=>rfl) (.int .i64 0)).setCell (p:=⟨z,3,none⟩) (λ_=>rfl) (.int .i64 0));generalize ((((W.setCell ⟨z,0,none⟩ (.int .i64 29)).setCell ⟨z,1,none⟩ (.int .i64 0)).setCell ⟨z,2,none⟩ (.int .i64 0)).setCell ⟨z,3,none⟩ (.int .i64 0))=w4 at rs ks ⊢;have HRA:=yA rs;have HK4:Hid (Keeps zA w w4):=(HK2.out.zC HKW.out).trans ks (λq hq e=>by have e':q=z:=e;have:=HK2.out.size;have:=HZ.out.1;omega);have rq:=(HRz.out.keeps HKW.out (λh=>h)).keeps ks (λe=>by have e':bz=z:=e;have:=HZ.out;omega);have z0:=rq.cell (k:=0) rfl;have z1:=rq.cell (k:=1) rfl;have g0:=rq.free (k:=0) (by simp);have g1:=rq.free (k:=1) (by simp);have HqR:=yA rq;have y:=HRA.out.zBF;have k4:=zF w4;clear rs ks c0 c1 c2 c3 f0 f1 f2 f3 rq;go_wp2_with fail
   have rq:zB ((w4.setCell ⟨bz,0,none⟩ (.int .i64 9)).setCell ⟨bz,1,none⟩ (.int .i64 0)) bz [.int .i64 9,.int .i64 0]:=((HqR.out.set 0 (by simp) (.int .i64 9)).set 1 (by simp) (.int .i64 0));have kq:Keeps (λq=>q=bz) w4 ((w4.setCell ⟨bz,0,none⟩ (.int .i64 9)).setCell ⟨bz,1,none⟩ (.int .i64 0)):=(((yB (λq=>q=bz) w4).setCell (p:=⟨bz,0,none⟩) (λ_=>rfl) (.int .i64 9)).setCell (p:=⟨bz,1,none⟩) (λ_=>rfl) (.int .i64 0));generalize ((w4.setCell ⟨bz,0,none⟩ (.int .i64 9)).setCell ⟨bz,1,none⟩ (.int .i64 0))=w5 at rq kq ⊢;refine xK (v:=.agg #[(9:Int),(0:Int)]) (J247 _) rfl ?_
   exact⟨rfl,HK4.out.trans kq (λq hq e=>by exact J225 _)⟩
 ·have z0:=HRz.out.cell (k:=0) rfl
  have z1:=HRz.out.cell (k:=1) rfl;have g0:=HRz.out.free (k:=0) (by simp);have g1:=HRz.out.free (k:=1) (by simp);have HqR:=HRz;go_wp2_with fail
  have rq:zB ((w2.setCell ⟨bz,0,none⟩ (.int .i64 0)).setCell ⟨bz,1,none⟩ (.int .i64 0)) bz [.int .i64 0,.int .i64 0]:=((HqR.out.set 0 (by simp) (.int .i64 0)).set 1 (by simp) (.int .i64 0));have kq:Keeps (λq=>q=bz) w2 ((w2.setCell ⟨bz,0,none⟩ (.int .i64 0)).setCell ⟨bz,1,none⟩ (.int .i64 0)):=(((yB (λq=>q=bz) w2).setCell (p:=⟨bz,0,none⟩) (λ_=>rfl) (.int .i64 0)).setCell (p:=⟨bz,1,none⟩) (λ_=>rfl) (.int .i64 0));generalize ((w2.setCell ⟨bz,0,none⟩ (.int .i64 0)).setCell ⟨bz,1,none⟩ (.int .i64 0))=w5 at rq kq ⊢;refine xK (v:=.agg #[(0:Int),(0:Int)]) (J247 _) rfl ?_
  exact⟨rfl,HK2.out.trans kq (λq hq e=>by exact J225 _)⟩
theorem zGP{w:World}{b gc gi gf:Nat}{ca oa ra:Option Addr}{cc oc rc kc ki kf:Nat}{st:Int}(h:VmC w b st ca oa ra cc oc rc gc gi gf kc ki kf)(hst:st=2\/st=3):Calls Tryz.prog 177 #[(.pointer (some ⟨b,0,none⟩)),(0:Int)] w λe w'=>e=.returned (.int .i64 (if st=2 then 0 else 81))/\Keeps zA w w':=by
 have HA:Hid (∀W,Keeps zA w W->Calls Tryz.prog 178 #[(.pointer (some ⟨b,0,none⟩)),(0:Int)] W λe w'=>e=.returned (.agg #[.int .i64 (if st=2 then 9 else 0),(0:Int)])/\Keeps zA W w'):=λW hk=>zIY (h.zG hk) hst
 have y:=h.all;have k0:=zF w;clear h;rcases hst with rfl|rfl
 ·go_enter Tryz.func177,Tryz.ntmps177
  go_upto_region 11 with(go_at_call 178;refine(HA.out _ (yB _ _)).mono ?_;rintro e w1 ⟨rfl,h1⟩;have H1:=yA h1;clear h1 y k0)
  obtain⟨b5,w2,e1,e2,R2,K2,_⟩:=newRow w1 [(9:Int),(0:Int)] 138;try simp only[if_pos rfl]
  rw[e1,e2];have y:=R2.all2;have k2:=zF w2;have HK2:Hid (Keeps zA w w2):=H1.out.zC K2;clear e1 e2 R2 K2;go_quiet (fail)
  go_wp2_with fail
  go_quiet (fail)
  go_wp2_with fail
  go_ret
  refine⟨rfl,?_⟩
  repeat (first|exact HK2.out|apply Keeps.drew|apply Keeps.drewN)
 ·go_enter Tryz.func177,Tryz.ntmps177
  exact J31 _
theorem zB.zOa{w:World}{g:Nat}{a b c d e:Value}(r:zB w g [a,b,c,d,e]):∀W,Keeps zA w W->W.cell? ⟨g,0,none⟩=some a/\W.cell? ⟨g,1,none⟩=some b/\W.cell? ⟨g,2,none⟩=some c/\W.cell? ⟨g,3,none⟩=some d/\W.cell? ⟨g,4,none⟩=some e:=λW q=>by
 have r:=r.keeps q (λh=>h);exact⟨r.cell (k:=0) rfl,r.cell (k:=1) rfl,r.cell (k:=2) rfl,r.cell (k:=3) rfl,r.cell (k:=4) rfl⟩
theorem zQk{w:World}{b gc gi gf:Nat}{ca oa ra:Option Addr}{cc oc rc kc ki kf:Nat}(h:VmC w b 2 ca oa ra cc oc rc gc gi gf kc ki kf):Calls Tryz.prog 180 #[(.pointer (some ⟨b,0,none⟩)),(0:Int)] w λe w'=>e=.returned (.tuple #[])/\Keeps zA w w':=by
 have y:=h.all;have k0:=zF w;clear h;go_enter Tryz.func180,Tryz.ntmps180
 go_wp2_with fail
 refine yY 1 ?_
 rw[yQ];go_upto_region 3 with fail
 refine zBG 14 (by kernel_rfl) [some ((.pointer (some ⟨b,0,none⟩))),some ((.pointer (some ⟨b,0,none⟩))),some ((.pointer (some ⟨b,2,none⟩))),some (.slice (some ⟨gc,0,none⟩) 1 kc),some (.int .i64 0),some ((.pointer (some ⟨gc,0,none⟩))),some (.slice (some ⟨gi,0,none⟩) 1 ki),some ((.pointer (some ⟨gf,0,none⟩))),some ((.pointer (some ⟨gf,0,none⟩))),some ((.pointer (some ⟨gf,2,none⟩))),some (.int .i64 0),some ((.pointer (some ⟨gi,0,none⟩))),some (.agg #[(29:Int),(0:Int),(0:Int),(0:Int)]),none] rfl (λj v W=>∃z,v=.pointer (some ⟨z,0,none⟩)/\w.heap.size<=z/\zB W z [(0:Int),(0:Int),(0:Int),(0:Int)]) (λj v W W' h hk=>by exact J213 _) ?_ ?_
 ·refine⟨?_,?_,?_,?_,?_,?_,?_,?_,?_,?_,?_,?_,?_,?_,trivial⟩ <;> (intro vs gs W Q' hR hd hK;have HRW:Keeps zA w W:=((zF w).drew).zC hR;simp only[zBK,zAt,zBo,zJ,tz,Option.bind,Act.put] at hd hK ⊢;try simp only[hd] at hK ⊢)
  all_goals try(try clear hd;go_wp2_with (fail);first|exact hK _ _ (yB _ _) rfl)
  ·exact J34 _
 ·intro vs W hR hFF
  have HRW:Keeps zA w W:=((zF w).drew).zC hR;obtain⟨z,e11,hz,rz⟩:=(hFF 13 (by decide):∃z,vs 13=.pointer (some ⟨z,0,none⟩)/\w.heap.size<=z/\zB W z [(0:Int),(0:Int),(0:Int),(0:Int)]);have e10:vs 12=_:=hFF 12 (by decide);simp only[zJ,tz,Option.bind,Act.put];rw[e10,e11];have c0:=rz.cell (k:=0) rfl;have c1:=rz.cell (k:=1) rfl;have c2:=rz.cell (k:=2) rfl;have c3:=rz.cell (k:=3) rfl;have f0:=rz.free (k:=0) (by simp);have f1:=rz.free (k:=1) (by simp);have f2:=rz.free (k:=2) (by simp);have f3:=rz.free (k:=3) (by simp);have HsR:=yA rz;have HZ:Hid (w.heap.size<=z):=hz;have HKW:=yA HRW;clear hFF e10 e11 hR HRW y k0 rz hz;go_upto_region 4 with fail
  have rs:zB ((((W.setCell ⟨z,0,none⟩ (.int .i64 29)).setCell ⟨z,1,none⟩ (.int .i64 0)).setCell ⟨z,2,none⟩ (.int .i64 0)).setCell ⟨z,3,none⟩ (.int .i64 0)) z [.int .i64 29,.int .i64 0,.int .i64 0,.int .i64 0]:=((((HsR.out.set 0 (by simp) (.int .i64 29)).set 1 (by simp) (.int .i64 0)).set 2 (by simp) (.int .i64 0)).set 3 (by simp) (.int .i64 0));have ks:Keeps (λq=>q=z) W ((((W.setCell ⟨z,0,none⟩ (.int .i64 29)).setCell ⟨z,1,none⟩ (.int .i64 0)).setCell ⟨z,2,none⟩ (.int .i64 0)).setCell ⟨z,3,none⟩ (.int .i64 0)):=(((((yB (λq=>q=z) W).setCell (p:=⟨z,0,none⟩) (λ_=>rfl) (.int .i64 29)).setCell (p:=⟨z,1,none⟩) (λ_=>rfl) (.int .i64 0)).setCell (p:=⟨z,2,none⟩) (λ_=>rfl) (.int .i64 0)).setCell (p:=⟨z,3,none⟩) (λ_=>rfl) (.int .i64 0));generalize ((((W.setCell ⟨z,0,none⟩ (.int .i64 29)).setCell ⟨z,1,none⟩ (.int .i64 0)).setCell ⟨z,2,none⟩ (.int .i64 0)).setCell ⟨z,3,none⟩ (.int .i64 0))=w4 at rs ks ⊢;have HK4:Hid (Keeps zA w w4):=HKW.out.trans ks (λq hq e=>by have e':q=z:=e;have:=HZ.out;omega);have y:=rs.zBF;have k4:=zF w4;clear rs ks c0 c1 c2 c3 f0 f1 f2 f3;go_wp2_with (go_at_call 210;refine(zOs _).mono ?_;rintro e w' ⟨rfl,rfl⟩)
  go_returns
  exact⟨rfl,HK4.out⟩
theorem zQq{w:World}{b gc gi gf:Nat}{ca oa ra:Option Addr}{cc oc rc kc ki kf:Nat}(h:VmC w b 1 ca oa ra cc oc rc gc gi gf kc ki kf):Calls Tryz.prog 176 #[(.pointer (some ⟨b,0,none⟩)),(0:Int)] w λe w'=>e=.returned (.tuple #[])/\VmC w' b 2 ca oa ra cc oc rc gc gi gf kc ki kf/\Keeps (λq=>q=gf) w w':=by
 have H:=yA h;have y:=h.all;have k0:=zF w;have c0:=h.fr.cell (k:=0) rfl;have f0:=h.fr.free (k:=0) (by simp);clear h;go_enter Tryz.func176,Tryz.ntmps176
 go_upto_region 1 with fail
 obtain⟨h1,hk⟩:=H.out.set 2;generalize w.setCell ⟨gf,0,none⟩ (.int .i64 2)=w1 at h1 hk ⊢;have H1:=yA h1;have HK:=yA hk;clear h1 hk y k0 c0 f0;go_wp2_with (go_at_call 180;refine(zQk H1.out).mono ?_;rintro e w2 ⟨rfl,g2⟩;have G2:=yA g2;clear g2)
 go_returns
 exact⟨rfl,H1.out.zG G2.out,HK.out.trans G2.out (λ_ _ h=>h.elim)⟩
theorem zNg{w:World}{b gc gi gf:Nat}{ca oa ra:Option Addr}{cc oc rc kc ki kf:Nat}(h:VmC w b 3 ca oa ra cc oc rc gc gi gf kc ki kf):Calls Tryz.prog 120 #[(.pointer (some ⟨b,0,none⟩))] w λe w'=>e=.returned (.slice none 0 0)/\Keeps zA w w':=by
 have HR:Hid (∀W,Keeps zA w W->Calls Tryz.prog 177 #[(.pointer (some ⟨b,0,none⟩)),(0:Int)] W λe w'=>e=.returned (.int .i64 81)/\Keeps zA W w'):=λW hk=>zGP (h.zG hk) (.inr rfl)
 have y:=h.all;have k0:=zF w;clear h;go_enter Tryz.func120,Tryz.ntmps120
 go_wp2_with fail
 refine yY 2 ?_
 rw[yQ];go_wp2_with (go_at_call 177;refine(HR.out _ (yB _ _)).mono ?_;rintro e w1 ⟨rfl,g1⟩;have G1:=yA g1;clear g1 y k0)
 rw[yQ];go_wp2_with fail
 go_ret
 exact⟨rfl,G1.out⟩
theorem zNS{w:World}{b gc gi gf:Nat}{ca oa ra:Option Addr}{cc oc rc kc ki kf:Nat}(h:VmC w b 2 ca oa ra cc oc rc gc gi gf kc ki kf):Calls Tryz.prog 120 #[(.pointer (some ⟨b,0,none⟩))] w λe w'=>∃a c,e=.returned (.slice a 1 c)/\zl w' (.slice a 1 c) 1 [.int .i64 0]/\Keeps zA w w':=by
 have HR:Hid (∀W,Keeps zA w W->Calls Tryz.prog 177 #[(.pointer (some ⟨b,0,none⟩)),(0:Int)] W λe w'=>e=.returned (.int .i64 0)/\Keeps zA W w'):=λW hk=>zGP (h.zG hk) (.inl rfl)
 have y:=h.all;have k0:=zF w;obtain⟨i0,hi0,hz0,hz1,hz2⟩:=info_parts zBI;clear h;go_enter Tryz.func120,Tryz.ntmps120
 go_wp2_with fail
 refine yY 2 ?_
 rw[yQ];go_upto_region 6 with(go_at_call 177;refine(HR.out _ (yB _ _)).mono ?_;rintro e w1 ⟨rfl,g1⟩;have G1:=yA g1;clear g1 y k0)
 go_upto_region 7 with(at_builtin;obtain⟨g,w2,e1,e2,R2,K2,_⟩:=newRow w1 [(0:Int)] 3;rw[e1,e2];have HR2:=yA R2;have HK2:Hid (Keeps zA w w2):=G1.out.zC K2;clear e1 e2 R2 K2;refine zI _ (by rfl) _ _ 22 (by rfl) 0 3 i0 _ 1 8 Tryz.underlying22 hi0 hz0 hz1 hz2 rfl (by decide) (.slice none 0 0) 0 [] (by rfl) (World.ownsRow_nil _ _ _ _) (.slice (some ⟨g,0,none⟩) 1 1) 1 [.int .i64 0] (by rfl) (xE HR2.out) rfl (by simp[Value.oneCell']) (by unfold maxLen;omega) (by omega) (yF _) ?_;intro ad cap w3 hout;have HO:=yA hout;clear hout)
 go_wp2_with fail
 rw[yQ];go_wp2_with fail
 go_ret
 have ho:=HO.out.1;rw[xA,uG] at ho;exact⟨ad,cap,by simp,(zAV.of (B:=0) ho (λ_ _=>yF _)).src,(xD HO.out HK2.out (λq e _=>by exact J170 _))⟩
theorem step0{w:World}{b gc gi gf:Nat}{ca oa ra:Option Addr}{cc oc rc kc ki kf:Nat}(h:VmC w b 2 ca oa ra cc oc rc gc gi gf kc ki kf):Calls Tryz.prog 118 #[(.pointer (some ⟨b,0,none⟩)),(0:Int)] w λe w'=>e=.returned (.tuple #[.agg #[(0:Int),(9:Int),(0:Int),(0:Int),(0:Int)],(0:Int)])/\VmC w' b 3 ca oa ra cc oc rc gc gi gf kc ki kf/\Keeps (λq=>q=gf) w w':=by
 have H:=yA h;clear h;go_enter Tryz.func118,Tryz.ntmps118
 go_upto_region 1 with fail
 obtain⟨bz,w1,e1,e2,R1,K1,_⟩:=newRow w [(0:Int),(0:Int),(0:Int),(0:Int),(0:Int)] 67;rw[e1,e2];have HB1:Hid (bz=w.heap.size/\gf<w.heap.size):=⟨e1.symm,H.out.fr.lt (by simp)⟩;have HR1:=yA R1;have HK1:=yA K1;clear e1 e2 R1 K1;go_upto_region 4 with(go_at_call 177;refine(zGP (H.out.zG HK1.out) (.inl rfl)).mono ?_;rintro e w2 ⟨rfl,g2⟩;have G2:=yA g2;clear g2)
 have HK2:Hid (Keeps zA w w2):=HK1.out.zC G2.out;have HRz:=yA (HR1.out.keeps G2.out (λh=>h));have H2:=yA (H.out.zG HK2.out);have HA:Hid (∀W,Keeps zA w2 W->Calls Tryz.prog 178 #[(.pointer (some ⟨b,0,none⟩)),(0:Int)] W λe w'=>e=.returned (.agg #[(9:Int),(0:Int)])/\Keeps zA W w'):=λW hk=>zIY (H2.out.zG hk) (.inl rfl)
 have y:=H2.out.all;have k2:=zF w2;refine zBG 10 (by kernel_rfl) [some ((.pointer (some ⟨b,0,none⟩))),some ((.pointer (some ⟨b,0,none⟩))),some ((.pointer (some ⟨b,3,none⟩))),some (.slice (some ⟨gf,0,none⟩) 1 kf),some (.int .i64 0),some ((.pointer (some ⟨gf,0,none⟩))),some ((.pointer (some ⟨b,0,none⟩))),some (.int .i64 0),some (.agg #[(9:Int),(0:Int)]),none] rfl (λj v W=>∃z,v=.pointer (some ⟨z,0,none⟩)/\w2.heap.size<=z/\zB W z [(0:Int),(0:Int)]) (λj v W W' h hk=>by exact J213 _) ?_ ?_
 ·refine⟨?_,?_,?_,?_,?_,?_,?_,?_,?_,?_,trivial⟩ <;> (intro vs gs W Q' hR hd hK;have HRW:Keeps zA w2 W:=((zF w2).drew).zC hR;simp only[zBK,zAt,zBo,zJ,tz,Option.bind,Act.put] at hd hK ⊢;try simp only[hd] at hK ⊢)
  all_goals try(try clear hd;go_wp2_with (go_at_call 178;refine(HA.out _ HRW).mono ?_;rintro e W1 ⟨rfl,g1⟩);first|exact hK _ _ (yB _ _) rfl|exact hK _ _ g1 rfl)
  ·exact J34 _
 ·intro vs W hR hFF
  have HRW:Keeps zA w2 W:=((zF w2).drew).zC hR;obtain⟨z,e9,hz,rz⟩:=(hFF 9 (by decide):∃z,vs 9=.pointer (some ⟨z,0,none⟩)/\w2.heap.size<=z/\zB W z [(0:Int),(0:Int)]);have e5:vs 5=_:=hFF 5 (by decide);have e8:vs 8=_:=hFF 8 (by decide);simp only[zJ,tz,Option.bind,Act.put];rw[e5,e8,e9];have c0:=rz.cell (k:=0) rfl;have c1:=rz.cell (k:=1) rfl;have f0:=rz.free (k:=0) (by simp);have f1:=rz.free (k:=1) (by simp);have HsR:=yA rz;have HZ:Hid (w2.heap.size<=z/\bz<w2.heap.size):=⟨hz,HRz.out.lt (by simp)⟩;have HKW:=yA HRW;clear hFF e5 e8 e9 hR HRW y k2 rz hz;go_upto_region 5 with fail
  have rs:zB ((W.setCell ⟨z,0,none⟩ (.int .i64 9)).setCell ⟨z,1,none⟩ (.int .i64 0)) z [.int .i64 9,.int .i64 0]:=((HsR.out.set 0 (by simp) (.int .i64 9)).set 1 (by simp) (.int .i64 0));have ks:Keeps (λq=>q=z) W ((W.setCell ⟨z,0,none⟩ (.int .i64 9)).setCell ⟨z,1,none⟩ (.int .i64 0)):=(((yB (λq=>q=z) W).setCell (p:=⟨z,0,none⟩) (λ_=>rfl) (.int .i64 9)).setCell (p:=⟨z,1,none⟩) (λ_=>rfl) (.int .i64 0));generalize ((W.setCell ⟨z,0,none⟩ (.int .i64 9)).setCell ⟨z,1,none⟩ (.int .i64 0))=w4 at rs ks ⊢;have HK4:Hid (Keeps zA w w4):=(HK2.out.zC HKW.out).trans ks (λq hq e=>by have e':q=z:=e;have:=HK2.out.size;have:=HZ.out.1;omega);have HRz4:=yA ((HRz.out.keeps HKW.out (λh=>h)).keeps ks (λe=>by have e':bz=z:=e;have:=HZ.out;omega));have y:=rs.all2;have k4:=zF w4;clear rs ks c0 c1 f0 f1;go_upto_region 6 with fail
  obtain⟨be,w5,e1,e2,R5,K5,_⟩:=newRow w4 [(0:Int),(9:Int),(0:Int),(0:Int),(0:Int)] 67;rw[e1,e2];have HRe:=yA R5;have HBe:Hid (w4.heap.size=be):=e1;have H5:=yA (H.out.zG (HK4.out.zC K5));have HRz5:=yA (HRz4.out.keeps K5 (λh=>h));have HK5:Hid (Keeps zA w w5):=HK4.out.zC K5;have y5:=y w5 K5;clear e1 e2 R5 K5 y k4;have ya:=HRe.out.zOa;have yb:=H5.out.all;have ysx:=zL y5.1;have ysy:=zL y5.2;have k5:=zF w5;have c0:=H5.out.fr.cell (k:=0) rfl;have f0:=H5.out.fr.free (k:=0) (by simp);clear y5;go_upto_region 8 with fail
  obtain⟨h6,hk6⟩:=H5.out.set 3;generalize w5.setCell ⟨gf,0,none⟩ (.int .i64 3)=w6 at h6 hk6 ⊢;have H6:=yA h6;have HK6:=yA hk6;have HNE:Hid (gf≠be/\gf≠bz):=⟨by have h1:=HB1.out;have h2:=HBe.out;have h3:=HK4.out.size;omega,by have:=HB1.out;omega⟩;have re:=HRe.out.keeps hk6 (λe=>HNE.out.1 (Eq.symm e));have rq:=HRz5.out.keeps hk6 (λe=>HNE.out.2 (Eq.symm e));have y:=re.zOa;have k6:=zF w6;have p0:=rq.cell (k:=0) rfl;have p1:=rq.cell (k:=1) rfl;have p2:=rq.cell (k:=2) rfl;have p3:=rq.cell (k:=3) rfl;have p4:=rq.cell (k:=4) rfl;have q0:=rq.free (k:=0) (by simp);have q1:=rq.free (k:=1) (by simp);have q2:=rq.free (k:=2) (by simp);have q3:=rq.free (k:=3) (by simp);have q4:=rq.free (k:=4) (by simp);have HqR:=yA rq;clear h6 hk6 re ya yb ysx ysy k5 c0 f0 rq;go_wp2_with fail
  have rq:zB (((((w6.setCell ⟨bz,0,none⟩ (.int .i64 0)).setCell ⟨bz,1,none⟩ (.int .i64 9)).setCell ⟨bz,2,none⟩ (.int .i64 0)).setCell ⟨bz,3,none⟩ (.int .i64 0)).setCell ⟨bz,4,none⟩ (.int .i64 0)) bz [.int .i64 0,.int .i64 9,.int .i64 0,.int .i64 0,.int .i64 0]:=(((((HqR.out.set 0 (by simp) (.int .i64 0)).set 1 (by simp) (.int .i64 9)).set 2 (by simp) (.int .i64 0)).set 3 (by simp) (.int .i64 0)).set 4 (by simp) (.int .i64 0));have kq:Keeps (λq=>q=bz) w6 (((((w6.setCell ⟨bz,0,none⟩ (.int .i64 0)).setCell ⟨bz,1,none⟩ (.int .i64 9)).setCell ⟨bz,2,none⟩ (.int .i64 0)).setCell ⟨bz,3,none⟩ (.int .i64 0)).setCell ⟨bz,4,none⟩ (.int .i64 0)):=((((((yB (λq=>q=bz) w6).setCell (p:=⟨bz,0,none⟩) (λ_=>rfl) (.int .i64 0)).setCell (p:=⟨bz,1,none⟩) (λ_=>rfl) (.int .i64 9)).setCell (p:=⟨bz,2,none⟩) (λ_=>rfl) (.int .i64 0)).setCell (p:=⟨bz,3,none⟩) (λ_=>rfl) (.int .i64 0)).setCell (p:=⟨bz,4,none⟩) (λ_=>rfl) (.int .i64 0));generalize (((((w6.setCell ⟨bz,0,none⟩ (.int .i64 0)).setCell ⟨bz,1,none⟩ (.int .i64 9)).setCell ⟨bz,2,none⟩ (.int .i64 0)).setCell ⟨bz,3,none⟩ (.int .i64 0)).setCell ⟨bz,4,none⟩ (.int .i64 0))=w7 at rq kq ⊢;refine xK (v:=.tuple #[.agg #[(0:Int),(9:Int),(0:Int),(0:Int),(0:Int)],(0:Int)]) (by simp[results,Tryz.results118,go_sem,rq.cell (k:=0) rfl,rq.cell (k:=1) rfl,rq.cell (k:=2) rfl,rq.cell (k:=3) rfl,rq.cell (k:=4) rfl]) rfl ?_
  have hb1:=HB1.out;have hz1:∀q,q<w.heap.size->¬q=bz:=λq hq e=>by omega
  exact⟨rfl,H6.out.keeps kq (hz1 b (H.out.row.lt (by simp))) (hz1 gc (H.out.code.lt (by simp))) (hz1 gi (H.out.ins.lt (by simp))) (hz1 gf hb1.2),((HK5.out.mono (λ_ _ h=>h.elim)).trans HK6.out (λ_ _ h=>h)).trans kq (λq hq e=>by have e':q=bz:=e;exact absurd e' (hz1 q hq))⟩
