/- Layer D: texts joined. -/
import Derived.Test.YtoapgjjepiopbaaGreatDoorD32
set_option linter.all false
set_option maxHeartbeats 8000000
set_option maxRecDepth 8000
namespace Go.Proofs.YtoapgjjepiopbaaGreatDoor
open Go.RowKit
abbrev yg:=@Go.Proofs.Tryz.ntmps65
abbrev xX:=@zB.keeps
theorem J15(P:Prop) (h:P:=by
 rw[HK1.out] at e;exact⟨e.cell (k:=0) rfl,e.cell (k:=3) rfl,e.cell (k:=4) rfl,e.cell (k:=1) rfl⟩):P:=h
theorem J20(P:Prop) (h:P:=by
 have h1:=h.ev.lt (by simp);have h2:=(h.M.zP.sep.free (g:=ba) (by omega)).1;rintro(⟨t,e⟩|e)
 ·rw[h2] at e;cases e
 ·omega):P:=h
theorem J39(P:Prop) (h:P:=by
 refine⟨?_,?_,?_,?_,?_,?_,?_,?_,trivial⟩ <;> (intro vs gs W Q' hR hd hK;have HRW:Keeps zA w1 W:=((zF w1).drew).zC hR;have kW:Keeps zA w0 W:=k1.zC HRW;simp only[zBK,zAt,zBo,zJ,tz,Option.bind,Act.put] at hd hK ⊢;try simp only[hd] at hK ⊢)
 all_goals try(try clear hd;go_wp2_with (go_at_call 107;refine HV.call kW ?_;intro w6 _ g6);first|exact hK _ _ (yB _ _) rfl|exact hK _ _ (by assumption) rfl)):P:=h
theorem J42(P:Prop)(h:P:=by exact⟨e.cell (k:=0) rfl,e.cell (k:=3) rfl,e.cell (k:=4) rfl⟩):P:=h
theorem J116(P:Prop)(h:P:=by exact(HSC.out.quiet ((zF _).drew)).before HKA.out):P:=h
theorem J144(P:Prop) (h:P:=by
 have e:=E0.keeps q (λh=>h);exact J15 _):P:=h
theorem J161(P:Prop) (h:P:=by
 have e:=E5.keeps q (λh=>h);exact J42 _):P:=h
theorem J162(P:Prop) (h:P:=by
 have e:=E1.keeps q (λh=>h);exact J15 _):P:=h
theorem J171(P:Prop)(h:P:=by simp only[zJ,tz,Option.bind,Act.put];exact .inl ⟨rfl,λ_=>rfl⟩):P:=h
def Do1(w:World)(T:zZ)(F:Nat->Prop)(id b:Nat)(u:Un)(p:zB8)(be i:Nat)(k o:Int)(m:zy)(v bad:Int)(w':World):Prop:=
 ∃T' H',MaP zm 1 148 zBk w' T' F id b u p m H'/\zAT T T' id w/\Keeps (λq=>zAk T id q\/q=be) w w'/\zB w' be [i,k,o,v,bad]/\T' be=none/\¬F be
section
variable {w w' w2:World} {T:zZ} {F:Nat->Prop} {id b be i:Nat} {u:Un} {p:zB8} {k o v bad:Int} {m m2:zy} {H:List HTh}
theorem Do1.quiet(h:Do1 w T F id b u p be i k o m v bad w')(hk:Keeps zA w' w2):Do1 w T F id b u p be i k o m v bad w2:=by
 obtain⟨T',H',M,x,q,E,f1,f2⟩:=h;exact⟨T',H',vB zU zAG M hk,x,q.trans hk (λ_ _ h=>h.elim),E.keeps hk (λh=>h),f1,f2⟩
theorem Do1.ev3(h:Do1 w T F id b u p be i k o m v bad w')(v':Int):Do1 w T F id b u p be i k o m v' bad (w'.setCell ⟨be,3,none⟩ (.int .i64 v')):=by
 obtain⟨T',H',M,x,q,E,f1,f2⟩:=h;have hk:Keeps (λq=>q=be) w' (w'.setCell ⟨be,3,none⟩ (.int .i64 v')):=(yB (λq=>q=be) w').setCell (p:=⟨be,3,none⟩) (λ_=>rfl) _
 exact⟨T',H',MaP.keeps zU zAG M hk (λq e1 e2=>by
  rw[e2] at e1;rcases e1 with⟨t,e1⟩|e1
  ·rw[f1] at e1;cases e1
  ·exact f2 e1),x,q.trans hk (λ_ _ h=>.inr h),E.set 3 (by simp) _,f1,f2⟩
theorem Do1.ev4(h:Do1 w T F id b u p be i k o m v bad w')(v':Int):Do1 w T F id b u p be i k o m v v' (w'.setCell ⟨be,4,none⟩ (.int .i64 v')):=by
 obtain⟨T',H',M,x,q,E,f1,f2⟩:=h;have hk:Keeps (λq=>q=be) w' (w'.setCell ⟨be,4,none⟩ (.int .i64 v')):=(yB (λq=>q=be) w').setCell (p:=⟨be,4,none⟩) (λ_=>rfl) _
 exact⟨T',H',MaP.keeps zU zAG M hk (λq e1 e2=>by
  rw[e2] at e1;rcases e1 with⟨t,e1⟩|e1
  ·rw[f1] at e1;cases e1
  ·exact f2 e1),x,q.trans hk (λ_ _ h=>.inr h),E.set 4 (by simp) _,f1,f2⟩
theorem Do1.step{T':zZ}{H':List HTh}(M:MaP zm 1 148 zBk w' T' F id b u p m H')(x:zAT T T' id w)(q:Keeps (λq=>zAk T id q\/q=be) w w')(E:zB w' be [i,k,o,v,bad])(f1:T' be=none)(f2:¬F be)
 (h:zAy zm 1 148 zBk w' T' F id b u p m2 w2):Do1 w T F id b u p be i k o m2 v bad w2:=by
 obtain⟨T2,H2,M2,x2,k2⟩:=h;exact⟨T2,H2,M2,x.trans x2 q.size,q.trans k2 (λq hq e=>.inl (x.own e hq)),E.keeps k2 (λ⟨t,e⟩=>by rw[f1] at e;cases e),x2.none f1 (E.lt (by simp)),f2⟩
structure zEz(w:World)(T:zZ)(F:Nat->Prop)(id b:Nat)(u:Un)(p:zB8)(be i:Nat)(m:zy)(H:List HTh)(a:Ac)(n:Int)(xa:Option Addr):Prop where
 M:MaP zm 1 148 zBk w T F id b u p m H
 ok:m.ok u
 right:zX u=true
 hi:i<m.zP.length
 ev:zB w be [i,.int .i64 (a.kind-1),a.obj,(0:Int),(0:Int)]
 f1:T be=none
 f2:¬F be
 may:Ac.may u n a=true
 reg:(m.get i).regs.length=n.toNat
 xs:zR w F a.ex.args xa
theorem zEz.start{a:Ac}{n:Int}{xa:Option Addr}(h:zEz w T F id b u p be i m H a n xa):Do1 w T F id b u p be i (a.kind-1) a.obj m 0 0 w:=
 ⟨T,H,h.M,vL T id w,yB _ _,h.ev,h.f1,h.f2⟩
theorem zEz.zG{a:Ac}{n:Int}{xa:Option Addr}(h:zEz w T F id b u p be i m H a n xa)(hk:Keeps zA w w'):zEz w' T F id b u p be i m H a n xa:=
 ⟨vB zU zAG h.M hk,h.ok,h.right,h.hi,h.ev.keeps hk (λh=>h),h.f1,h.f2,h.may,h.reg,vS h.xs hk (λ_ _ h=>h)⟩
theorem Do1.before(h:Do1 w' T F id b u p be i k o m v bad w2)(hk:Keeps zA w w'):Do1 w T F id b u p be i k o m v bad w2:=by
 obtain⟨T',H',M,x,q,E,f1,f2⟩:=h;exact⟨T',H',M,⟨x.1,λk y e=>(x.2 k y e).imp (λh=>h) (λh=>⟨yX hk.size h.1,h.2⟩)⟩,(hk.mono (λ_ _ h=>h.elim)).trans q (λ_ _ h=>h),E,f1,f2⟩
theorem MaP.reg(h:MaP zm 1 148 zBk w T F id b u p m H)(hi:i<m.zP.length){k:Nat}(hk:k<(m.get i).regs.length):∃gr rc,(∀W,Keeps zA w W->W.cell? ⟨p.gt,i*3+1,none⟩=some (.slice (some ⟨gr,0,none⟩) (m.get i).regs.length rc))/\zB w gr (ints (m.get i).regs) ∧
 ∀v,zAy zm 1 148 zBk w T F id b u p (m.zA0 i { m.get i with regs:=(m.get i).regs.set k v }) (w.setCell ⟨gr,k,none⟩ (.int .i64 v)):=by
 obtain⟨rv,fv,hH,hr,hf⟩:=h.zP.get (uD hi);obtain⟨gr,rc,e,hT,hrow⟩:=hr.at hk;subst e;exact⟨gr,rc,zL (zAP h.zP.row hH).2.1,hrow,λv=>h.went zAG (zLK zU h.zP hH hT hrow hf hk v)⟩
end
theorem zPz{w:World}{T:zZ}{F:Nat->Prop}{id b be i:Nat}{u:Un}{p:zB8}{m:zy}{H:List HTh}{a:Ac}{n:Int}{xa ta ea:Option Addr}{xc tc ec:Nat}(h:zEz w T F id b u p be i m H a n xa)(hk:a.kind=2):
 Calls Tryz.prog 65 #[.pointer (some ⟨b,0,none⟩),.pointer (some ⟨be,0,none⟩),.agg #[a.kind,a.reg,a.obj,a.ex.kind,a.ex.num,a.ex.nm,.slice xa a.ex.args.length xc,a.count,.slice ta a.thn.length tc,.slice ea a.els.length ec]] w λe w'=>e=.returned (.tuple #[])/\Do1 w T F id b u p be i (a.kind-1) a.obj (doM u m i a).1 (doM u m i a).2.1 (doM u m i a).2.2 w':=by
 have HK:=yA hk;have i0:(0:Int)<=i:=by omega
 obtain⟨ba,w0,e3,e4,RA,KA,_⟩:=newRow w [a.kind,a.reg,a.obj,a.ex.kind,a.ex.num,a.ex.nm,.slice xa a.ex.args.length xc,a.count,.slice ta a.thn.length tc,.slice ea a.els.length ec] 146;have HI:=yA (h.zG KA);have HKA:=yA KA
 have HNB:Hid (¬(zAk T id ba\/ba=be)):=by
  exact J20 _
 have HRA:=yA RA;clear RA KA h;have D0:=yA HI.out.start;have hk1:a.kind-1=1:=by omega
 have HK1:=yA hk1;obtain⟨T0,H0,M0,x0,q0,E0,t0,s0⟩:=D0.out;have y5:=M0.zCL;have y:=(xX (S:=λq=>zAk T id q\/q=be) HRA.out q0 HNB.out).zq
 have ye:∀W,Keeps zA w0 W->W.cell? ⟨be,0,none⟩=some (.int .i64 i)/\W.cell? ⟨be,3,none⟩=some (.int .i64 0)/\W.cell? ⟨be,4,none⟩=some (.int .i64 0)/\W.cell? ⟨be,1,none⟩=some (.int .i64 1):=λW q=>by
  exact J144 _
 have f3:=zK (E0.free (k:=3) (by simp)) ⟨_,E0.cell (k:=3) rfl⟩;have f4:=zK (E0.free (k:=4) (by simp)) ⟨_,E0.cell (k:=4) rfl⟩;have k0:=zF w0;have HM0:=yA (And.intro M0 (And.intro x0 (And.intro q0 (And.intro E0 (And.intro t0 s0)))));have i1:(i:Int)<(m.zP.length:Int):=by have:=HI.out.hi;omega
 generalize hnm:m.zP.length=nm0 at y5 i1;have HNM0:=yA hnm;clear hnm;clear M0 x0 q0 E0 t0 s0;clear hk hk1;go_enter Tryz.func65,yg
 go_upto_region 1 with fail
 try rw[e3]
 try rw[e4]
 clear e3 e4;go_quiet (fail)
 rename_i nq
 obtain⟨w1,hz⟩:=eX (w0.drewN nq);rw[<-hz];have k1:Keeps zA w0 w1:=by rw[hz];exact k0.drewN _
 clear hz;obtain⟨o1,o2⟩:=zDo HI.out.may (by have:=HK.out;omega);have hlc:a.obj.toNat<m.cells.length:=by rw[HI.out.ok.cells];omega
 obtain⟨gc,hgc,hrc,hsc⟩:=HM0.out.1.cell zU zAG hlc;have y3:=HM0.out.1.zMd;rw[hgc] at y3;have cc:=zL (hrc.cell (zAB m.cells _ hlc));have cf:=zK (hrc.free (k:=a.obj.toNat) (by rw[zAf];exact hlc)) ⟨_,hrc.cell (zAB m.cells _ hlc)⟩;have j1:a.obj<(m.cells.length:Int):=by omega
 have eo:((a.obj.toNat:Nat):Int)=a.obj:=by omega
 generalize m.cells.length=zc at y3 j1;clear hgc hrc hlc o2 hsc;generalize hcv:m.cells.getD a.obj.toNat 0=cv at cc;have HCV:=yA hcv;clear hcv;go_upto_region 4 with fail
 go_region
 all_goals (try go_upto_region 5 with fail)
 have D5:=yA (((D0.out.quiet k1).ev3 cv).quiet ((zF _).drew));generalize (w1.setCell ⟨be,3,none⟩ (.int .i64 cv)).drew=w5 at D5 ⊢;clear y y5 ye f3 f4;clear y3 cc cf k1;obtain⟨T5,H5,M5,x5,q5,E5,t5,s5⟩:=D5.out;have y5:=M5.zCL;have y:=(xX (S:=λq=>zAk T id q\/q=be) HRA.out q5 HNB.out).zq
 have ye:∀W,Keeps zA w5 W->W.cell? ⟨be,0,none⟩=some (.int .i64 i)/\W.cell? ⟨be,3,none⟩=some (.int .i64 cv)/\W.cell? ⟨be,4,none⟩=some (.int .i64 0):=λW q=>by
  exact J161 _
 have f3:=zK (E5.free (k:=3) (by simp)) ⟨_,E5.cell (k:=3) rfl⟩;have f4:=zK (E5.free (k:=4) (by simp)) ⟨_,E5.cell (k:=4) rfl⟩;have k5:=zF w5;have HM5:=yA (And.intro M5 (And.intro x5 (And.intro q5 (And.intro E5 (And.intro t5 s5)))));have i1:(i:Int)<(m.zP.length:Int):=by have:=HI.out.hi;omega
 generalize hnm:m.zP.length=nm5 at y5 i1;have HNM5:=yA hnm;clear hnm;clear M5 x5 q5 E5 t5 s5;obtain⟨r0,r1⟩:=Ac.zHt HI.out.may (by have:=HK.out;omega);have hlr:a.reg.toNat<(m.get i).regs.length:=by rw[HI.out.reg];omega
 obtain⟨gr,rc,yr,rr,hset⟩:=HM5.out.1.reg HI.out.hi hlr;have rcell:=zL (rr.cell (zAB (m.get i).regs _ hlr));have rfree:=zK (rr.free (k:=a.reg.toNat) (by rw[zAf];exact hlr)) ⟨_,rr.cell (zAB (m.get i).regs _ hlr)⟩;have j2:a.reg<((m.get i).regs.length:Int):=by omega
 have er:((a.reg.toNat:Nat):Int)=a.reg:=by omega
 have HSR:=yA (Do1.step HM5.out.1 HM5.out.2.1 HM5.out.2.2.1 HM5.out.2.2.2.1 HM5.out.2.2.2.2.1 HM5.out.2.2.2.2.2 (hset cv));generalize (m.get i).regs.length=zr at yr j2;clear rr hset hlr r1;go_region
 all_goals (try go_wp2_with fail)
 go_returns
 refine⟨rfl,?_⟩
 have e:doM u m i a=(m.zA0 i { m.get i with regs:=(m.get i).regs.set a.reg.toNat (m.cells.getD a.obj.toNat 0) },m.cells.getD a.obj.toNat 0,0):=by
  unfold doM;simp only[if_pos HK.out]
 rw[e,HCV.out];exact(HSR.out.quiet ((zF _).drew)).before HKA.out
theorem zPy{w:World}{T:zZ}{F:Nat->Prop}{id b be i:Nat}{u:Un}{p:zB8}{m:zy}{H:List HTh}{a:Ac}{n:Int}{xa ta ea:Option Addr}{xc tc ec:Nat}(h:zEz w T F id b u p be i m H a n xa)(hk:a.kind=3):
 Calls Tryz.prog 65 #[.pointer (some ⟨b,0,none⟩),.pointer (some ⟨be,0,none⟩),.agg #[a.kind,a.reg,a.obj,a.ex.kind,a.ex.num,a.ex.nm,.slice xa a.ex.args.length xc,a.count,.slice ta a.thn.length tc,.slice ea a.els.length ec]] w λe w'=>e=.returned (.tuple #[])/\Do1 w T F id b u p be i (a.kind-1) a.obj (doM u m i a).1 (doM u m i a).2.1 (doM u m i a).2.2 w':=by
 have HK:=yA hk;have i0:(0:Int)<=i:=by omega
 obtain⟨ba,w0,e3,e4,RA,KA,_⟩:=newRow w [a.kind,a.reg,a.obj,a.ex.kind,a.ex.num,a.ex.nm,.slice xa a.ex.args.length xc,a.count,.slice ta a.thn.length tc,.slice ea a.els.length ec] 146;have HI:=yA (h.zG KA);have HKA:=yA KA
 have HNB:Hid (¬(zAk T id ba\/ba=be)):=by
  exact J20 _
 have HRA:=yA RA;clear RA KA h;have D0:=yA HI.out.start;have hk1:a.kind-1=2:=by omega
 have HK1:=yA hk1;obtain⟨T0,H0,M0,x0,q0,E0,t0,s0⟩:=D0.out;have y5:=M0.zCL;have y:=(xX (S:=λq=>zAk T id q\/q=be) HRA.out q0 HNB.out).zq
 have ye:∀W,Keeps zA w0 W->W.cell? ⟨be,0,none⟩=some (.int .i64 i)/\W.cell? ⟨be,3,none⟩=some (.int .i64 0)/\W.cell? ⟨be,4,none⟩=some (.int .i64 0)/\W.cell? ⟨be,1,none⟩=some (.int .i64 2):=λW q=>by
  exact J144 _
 have f3:=zK (E0.free (k:=3) (by simp)) ⟨_,E0.cell (k:=3) rfl⟩;have f4:=zK (E0.free (k:=4) (by simp)) ⟨_,E0.cell (k:=4) rfl⟩;have k0:=zF w0;have HM0:=yA (And.intro M0 (And.intro x0 (And.intro q0 (And.intro E0 (And.intro t0 s0)))));have i1:(i:Int)<(m.zP.length:Int):=by have:=HI.out.hi;omega
 generalize hnm:m.zP.length=nm0 at y5 i1;have HNM0:=yA hnm;clear hnm;clear M0 x0 q0 E0 t0 s0;clear hk hk1;go_enter Tryz.func65,yg
 go_upto_region 1 with fail
 try rw[e3]
 try rw[e4]
 clear e3 e4;go_quiet (fail)
 rename_i nq
 obtain⟨w1,hz⟩:=eX (w0.drewN nq);rw[<-hz];have k1:Keeps zA w0 w1:=by rw[hz];exact k0.drewN _
 clear hz;obtain⟨rv,fv,hH,hrw,_⟩:=HM0.out.1.zP.get (uD HI.out.hi);obtain⟨ra,rc,hrv,_⟩:=hrw;have yr:=zL (zAP HM0.out.1.zP.row hH).2.1
 have HV:Ret w0 107 #[.agg #[a.ex.kind,a.ex.num,a.ex.nm,.slice xa a.ex.args.length xc],rv] (.int .i64 (a.ex.val (m.get i).regs)):=λW hq =>
  zE1 (m.get i).regs n _ HI.out.reg a.ex W F xa xc (vS HI.out.xs hq (λ_ _ h=>h)) (((HM0.out.1.zP.each i _ _ hH (uD HI.out.hi)).2.1.keeps hq (λ_ _ h=>h)).src) (Ac.zGa HI.out.may (by have:=HK.out;omega))
 rw[hrv] at HV yr;generalize hval:a.ex.val (m.get i).regs=val at HV;have HVAL:=yA hval;generalize (m.get i).regs.length=zv at HV yr;clear hrv hval hH;go_upto_region 7 with fail
 refine zB5 8 0 (by kernel_rfl) [some (.pointer (some ⟨be,0,none⟩)),some (.pointer (some ⟨ba,3,none⟩)),some (.agg #[a.ex.kind,a.ex.num,a.ex.nm,.slice xa a.ex.args.length xc]),some (.pointer (some ⟨p.gt,i*3,none⟩)),some (.pointer (some ⟨p.gt,i*3,none⟩)),some (.pointer (some ⟨p.gt,i*3+1,none⟩)),some (.slice ra zv rc),some (.int .i64 val)] rfl (λ_ _ _=>False) (λ_ _ _ _ h _=>h) _ rfl (λ_ _ _ _ h=>h) _ rfl (λ_ _ _=>by exact J171 _) ?_ ?_
 ·exact J39 _
 ·intro vs W hR hFF
  have HRW:Keeps zA w1 W:=((zF w1).drew).zC hR;have kW:Keeps zA w0 W:=k1.zC HRW;have e0:vs 0=_:=hFF 0 (by decide);have e7:vs 7=_:=hFF 7 (by decide);simp only[zJ,tz,Option.bind,Act.put];rw[e0,e7];clear hFF e0 e7;go_upto_region 8 with fail
  have D5:=yA ((D0.out.quiet kW).ev3 val);generalize W.setCell ⟨be,3,none⟩ (.int .i64 val)=w5 at D5 ⊢;clear y y5 ye f3 f4;clear yr HRW hR;obtain⟨T5,H5,M5,x5,q5,E5,t5,s5⟩:=D5.out;have y5:=M5.zCL;have y:=(xX (S:=λq=>zAk T id q\/q=be) HRA.out q5 HNB.out).zq
  have ye:∀W,Keeps zA w5 W->W.cell? ⟨be,0,none⟩=some (.int .i64 i)/\W.cell? ⟨be,3,none⟩=some (.int .i64 val)/\W.cell? ⟨be,4,none⟩=some (.int .i64 0):=λW q=>by
   exact J161 _
  have f3:=zK (E5.free (k:=3) (by simp)) ⟨_,E5.cell (k:=3) rfl⟩;have f4:=zK (E5.free (k:=4) (by simp)) ⟨_,E5.cell (k:=4) rfl⟩;have k5:=zF w5;have HM5:=yA (And.intro M5 (And.intro x5 (And.intro q5 (And.intro E5 (And.intro t5 s5)))));have i1:(i:Int)<(m.zP.length:Int):=by have:=HI.out.hi;omega
  generalize hnm:m.zP.length=nm5 at y5 i1;have HNM5:=yA hnm;clear hnm;clear M5 x5 q5 E5 t5 s5;obtain⟨o1,o2⟩:=zDo HI.out.may (by have:=HK.out;omega);have hlc:a.obj.toNat<m.cells.length:=by rw[HI.out.ok.cells];omega
  obtain⟨gc,hgc,hrc,hsc⟩:=HM5.out.1.cell zU zAG hlc;have y3:=HM5.out.1.zMd;rw[hgc] at y3;have cc:=zL (hrc.cell (zAB m.cells _ hlc));have cf:=zK (hrc.free (k:=a.obj.toNat) (by rw[zAf];exact hlc)) ⟨_,hrc.cell (zAB m.cells _ hlc)⟩;have j1:a.obj<(m.cells.length:Int):=by omega
  have eo:((a.obj.toNat:Nat):Int)=a.obj:=by omega
  have HSC:=yA (Do1.step HM5.out.1 HM5.out.2.1 HM5.out.2.2.1 HM5.out.2.2.2.1 HM5.out.2.2.2.2.1 HM5.out.2.2.2.2.2 (hsc val));generalize m.cells.length=zc at y3 j1;clear hgc hrc hlc o2 hsc;go_region
  all_goals (try go_wp2_with fail)
  go_returns
  refine⟨rfl,?_⟩
  have e:doM u m i a=({ m with cells:=m.cells.set a.obj.toNat (a.ex.val (m.get i).regs) },a.ex.val (m.get i).regs,0):=by
   unfold doM;simp only[if_neg (show¬a.kind=2 by have:=HK.out;omega),if_pos HK.out]
  rw[e,HVAL.out];exact J116 _
theorem zQA{w:World}{T:zZ}{F:Nat->Prop}{id b be i:Nat}{u:Un}{p:zB8}{m:zy}{H:List HTh}{a:Ac}{n:Int}{xa ta ea:Option Addr}{xc tc ec:Nat}(h:zEz w T F id b u p be i m H a n xa)(hk:a.kind=4):
 Calls Tryz.prog 65 #[.pointer (some ⟨b,0,none⟩),.pointer (some ⟨be,0,none⟩),.agg #[a.kind,a.reg,a.obj,a.ex.kind,a.ex.num,a.ex.nm,.slice xa a.ex.args.length xc,a.count,.slice ta a.thn.length tc,.slice ea a.els.length ec]] w λe w'=>e=.returned (.tuple #[])/\Do1 w T F id b u p be i (a.kind-1) a.obj (doM u m i a).1 (doM u m i a).2.1 (doM u m i a).2.2 w':=by
 have HK:=yA hk;have i0:(0:Int)<=i:=by omega
 obtain⟨ba,w0,e3,e4,RA,KA,_⟩:=newRow w [a.kind,a.reg,a.obj,a.ex.kind,a.ex.num,a.ex.nm,.slice xa a.ex.args.length xc,a.count,.slice ta a.thn.length tc,.slice ea a.els.length ec] 146;have HI:=yA (h.zG KA);have HKA:=yA KA
 have HNB:Hid (¬(zAk T id ba\/ba=be)):=by
  exact J20 _
 have HRA:=yA RA;clear RA KA h;have D0:=yA HI.out.start;have hk1:a.kind-1=3:=by omega
 have HK1:=yA hk1;obtain⟨T0,H0,M0,x0,q0,E0,t0,s0⟩:=D0.out;have y5:=M0.zCL;have y:=(xX (S:=λq=>zAk T id q\/q=be) HRA.out q0 HNB.out).zq
 have ye:∀W,Keeps zA w0 W->W.cell? ⟨be,0,none⟩=some (.int .i64 i)/\W.cell? ⟨be,3,none⟩=some (.int .i64 0)/\W.cell? ⟨be,4,none⟩=some (.int .i64 0)/\W.cell? ⟨be,1,none⟩=some (.int .i64 3):=λW q=>by
  exact J144 _
 have f3:=zK (E0.free (k:=3) (by simp)) ⟨_,E0.cell (k:=3) rfl⟩;have f4:=zK (E0.free (k:=4) (by simp)) ⟨_,E0.cell (k:=4) rfl⟩;have k0:=zF w0;have HM0:=yA (And.intro M0 (And.intro x0 (And.intro q0 (And.intro E0 (And.intro t0 s0)))));have i1:(i:Int)<(m.zP.length:Int):=by have:=HI.out.hi;omega
 generalize hnm:m.zP.length=nm0 at y5 i1;have HNM0:=yA hnm;clear hnm;clear M0 x0 q0 E0 t0 s0;clear hk hk1;go_enter Tryz.func65,yg
 go_upto_region 1 with fail
 try rw[e3]
 try rw[e4]
 clear e3 e4;go_quiet (fail)
 rename_i nq
 obtain⟨w1,hz⟩:=eX (w0.drewN nq);rw[<-hz];have k1:Keeps zA w0 w1:=by rw[hz];exact k0.drewN _
 clear hz;obtain⟨rv,fv,hH,hrw,_⟩:=HM0.out.1.zP.get (uD HI.out.hi);obtain⟨ra,rc,hrv,_⟩:=hrw;have yr:=zL (zAP HM0.out.1.zP.row hH).2.1
 have HV:Ret w0 107 #[.agg #[a.ex.kind,a.ex.num,a.ex.nm,.slice xa a.ex.args.length xc],rv] (.int .i64 (a.ex.val (m.get i).regs)):=λW hq =>
  zE1 (m.get i).regs n _ HI.out.reg a.ex W F xa xc (vS HI.out.xs hq (λ_ _ h=>h)) (((HM0.out.1.zP.each i _ _ hH (uD HI.out.hi)).2.1.keeps hq (λ_ _ h=>h)).src) (Ac.zGa HI.out.may (by have:=HK.out;omega))
 rw[hrv] at HV yr;generalize hval:a.ex.val (m.get i).regs=val at HV;have HVAL:=yA hval;generalize (m.get i).regs.length=zv at HV yr;clear hrv hval hH;obtain⟨o1,o2⟩:=zDo HI.out.may (by have:=HK.out;omega);have hlc:a.obj.toNat<m.cells.length:=by rw[HI.out.ok.cells];omega
 obtain⟨gc,hgc,hrc,hsc⟩:=HM0.out.1.cell zU zAG hlc;have y3:=HM0.out.1.zMd;rw[hgc] at y3;have cc:=zL (hrc.cell (zAB m.cells _ hlc));have cf:=zK (hrc.free (k:=a.obj.toNat) (by rw[zAf];exact hlc)) ⟨_,hrc.cell (zAB m.cells _ hlc)⟩;have j1:a.obj<(m.cells.length:Int):=by omega
 have eo:((a.obj.toNat:Nat):Int)=a.obj:=by omega
 generalize m.cells.length=zc at y3 j1;clear hgc hrc hlc o2 hsc;generalize hcv:m.cells.getD a.obj.toNat 0=cv at cc;have HCV:=yA hcv;clear hcv;go_upto_region 10 with fail
 refine zBG 7 (by kernel_rfl) [some (.pointer (some ⟨ba,3,none⟩)),some (.agg #[a.ex.kind,a.ex.num,a.ex.nm,.slice xa a.ex.args.length xc]),some (.pointer (some ⟨p.gt,i*3,none⟩)),some (.pointer (some ⟨p.gt,i*3,none⟩)),some (.pointer (some ⟨p.gt,i*3+1,none⟩)),some (.slice ra zv rc),some (.int .i64 val)] rfl (λ_ _ _=>False) (λ_ _ _ _ h _=>h) ?_ ?_
 ·refine⟨?_,?_,?_,?_,?_,?_,?_,trivial⟩ <;> (intro vs gs W Q' hR hd hK;have HRW:Keeps zA w1 W:=((zF w1).drew).zC hR;have kW:Keeps zA w0 W:=k1.zC HRW;simp only[zBK,zAt,zBo,zJ,tz,Option.bind,Act.put] at hd hK ⊢;try simp only[hd] at hK ⊢)
  all_goals try(try clear hd;go_wp2_with (go_at_call 107;refine HV.call kW ?_;intro w6 _ g6);first|exact hK _ _ (yB _ _) rfl|exact hK _ _ (by assumption) rfl)
 ·intro vs W hR hFF
  have HRW:Keeps zA w1 W:=((zF w1).drew).zC hR;have kW:Keeps zA w0 W:=k1.zC HRW;have e6:vs 6=_:=hFF 6 (by decide);simp only[zJ,tz,Option.bind,Act.put];rw[e6];clear hFF e6;clear yr;go_upto_region 11 with fail
  go_region
  all_goals (try go_upto_region 12 with fail)
  have D5:=yA (((D0.out.quiet kW).ev3 cv).quiet ((zF _).drew));generalize (W.setCell ⟨be,3,none⟩ (.int .i64 cv)).drew=w5 at D5 ⊢;clear y y5 ye f3 f4;clear y3 cc cf HRW hR;obtain⟨T5,H5,M5,x5,q5,E5,t5,s5⟩:=D5.out;have y5:=M5.zCL;have y:=(xX (S:=λq=>zAk T id q\/q=be) HRA.out q5 HNB.out).zq
  have ye:∀W,Keeps zA w5 W->W.cell? ⟨be,0,none⟩=some (.int .i64 i)/\W.cell? ⟨be,3,none⟩=some (.int .i64 cv)/\W.cell? ⟨be,4,none⟩=some (.int .i64 0):=λW q=>by
   exact J161 _
  have f3:=zK (E5.free (k:=3) (by simp)) ⟨_,E5.cell (k:=3) rfl⟩;have f4:=zK (E5.free (k:=4) (by simp)) ⟨_,E5.cell (k:=4) rfl⟩;have k5:=zF w5;have HM5:=yA (And.intro M5 (And.intro x5 (And.intro q5 (And.intro E5 (And.intro t5 s5)))));have i1:(i:Int)<(m.zP.length:Int):=by have:=HI.out.hi;omega
  generalize hnm:m.zP.length=nm5 at y5 i1;have HNM5:=yA hnm;clear hnm;clear M5 x5 q5 E5 t5 s5;obtain⟨r0,r1⟩:=Ac.zHt HI.out.may (by have:=HK.out;omega);have hlr:a.reg.toNat<(m.get i).regs.length:=by rw[HI.out.reg];omega
  obtain⟨gr,rc,yr,rr,hset⟩:=HM5.out.1.reg HI.out.hi hlr;have rcell:=zL (rr.cell (zAB (m.get i).regs _ hlr));have rfree:=zK (rr.free (k:=a.reg.toNat) (by rw[zAf];exact hlr)) ⟨_,rr.cell (zAB (m.get i).regs _ hlr)⟩;have j2:a.reg<((m.get i).regs.length:Int):=by omega
  have er:((a.reg.toNat:Nat):Int)=a.reg:=by omega
  have HSR:=yA (Do1.step HM5.out.1 HM5.out.2.1 HM5.out.2.2.1 HM5.out.2.2.2.1 HM5.out.2.2.2.2.1 HM5.out.2.2.2.2.2 (hset cv));generalize (m.get i).regs.length=zr at yr j2;clear rr hset hlr r1;go_region
  all_goals (try go_upto_region 13 with fail)
  have D6:=yA (HSR.out.quiet ((zF _).drew));generalize (w5.setCell ⟨gr,a.reg.toNat,none⟩ (.int .i64 cv)).drew=w6 at D6 ⊢;clear y y5 ye f3 f4;clear yr rcell rfree k5;obtain⟨T6,H6,M6,x6,q6,E6,t6,s6⟩:=D6.out;have y5:=M6.zCL;have y:=(xX (S:=λq=>zAk T id q\/q=be) HRA.out q6 HNB.out).zq
  have ye:∀W,Keeps zA w6 W->W.cell? ⟨be,0,none⟩=some (.int .i64 i)/\W.cell? ⟨be,3,none⟩=some (.int .i64 cv)/\W.cell? ⟨be,4,none⟩=some (.int .i64 0):=λW q=>by
   have e:=E6.keeps q (λh=>h);exact J42 _
  have f3:=zK (E6.free (k:=3) (by simp)) ⟨_,E6.cell (k:=3) rfl⟩;have f4:=zK (E6.free (k:=4) (by simp)) ⟨_,E6.cell (k:=4) rfl⟩;have k6:=zF w6;have HM6:=yA (And.intro M6 (And.intro x6 (And.intro q6 (And.intro E6 (And.intro t6 s6)))));rw[zy.zB4] at y5;have i1:(i:Int)<(m.zP.length:Int):=by have:=HI.out.hi;omega
  generalize hnm:m.zP.length=nm6 at y5 i1;have HNM6:=yA hnm;clear hnm;clear M6 x6 q6 E6 t6 s6;obtain⟨gc6,hgc6,hrc6,hsc6⟩:=HM6.out.1.cell zU zAG (k:=a.obj.toNat) (show a.obj.toNat<m.cells.length by have:=(zDo HI.out.may (by have:=HK.out;omega)).2;rw[HI.out.ok.cells];omega);have y3:=HM6.out.1.zMd;rw[hgc6] at y3;have hlc6:a.obj.toNat<m.cells.length:=by rw[HI.out.ok.cells];have:=(zDo HI.out.may (by have:=HK.out;omega)).2;omega
  have cc:=zL (hrc6.cell (zAB m.cells _ hlc6));have cf:=zK (hrc6.free (k:=a.obj.toNat) (by rw[zAf];exact hlc6)) ⟨_,hrc6.cell (zAB m.cells _ hlc6)⟩;have j3:a.obj<(m.cells.length:Int):=by omega
  replace y3:∀W,Keeps zA w6 W->W.cell? ⟨b,3,none⟩=some (.slice (some ⟨gc6,0,none⟩) m.cells.length p.ccap):=y3
  replace cc:∀W,Keeps zA w6 W->W.cell? ⟨gc6,a.obj.toNat,none⟩=some (.int .i64 (m.cells.getD a.obj.toNat 0)):=cc
  rw[HCV.out] at cc;have HSC:=yA (Do1.step HM6.out.1 HM6.out.2.1 HM6.out.2.2.1 HM6.out.2.2.2.1 HM6.out.2.2.2.2.1 HM6.out.2.2.2.2.2 (hsc6 (w64 (cv+val))));have HSC:Hid (Do1 w0 T F id b u p be i (a.kind-1) a.obj ⟨m.cells.set a.obj.toNat (w64 (cv+val)),m.owners,m.zP.set i { m.get i with regs:=(m.get i).regs.set a.reg.toNat cv }⟩ cv 0 (w6.setCell ⟨gc6,a.obj.toNat,none⟩ (.int .i64 (w64 (cv+val))))):=HSC.out;generalize m.cells.length=zc6 at y3 j3;clear hgc6 hrc6 hsc6 hlc6;go_region
  all_goals (try go_wp2_with fail)
  go_returns
  refine⟨rfl,?_⟩
  have e:doM u m i a=(⟨m.cells.set a.obj.toNat (w64 (m.cells.getD a.obj.toNat 0+a.ex.val (m.get i).regs)),m.owners,m.zP.set i { m.get i with regs:=(m.get i).regs.set a.reg.toNat (m.cells.getD a.obj.toNat 0) }⟩,m.cells.getD a.obj.toNat 0,0):=by
   unfold doM;simp only[if_neg (show¬a.kind=2 by have:=HK.out;omega),if_neg (show¬a.kind=3 by have:=HK.out;omega),if_pos HK.out];rfl
  rw[e,HCV.out,HVAL.out];exact J116 _
theorem zPx{w:World}{T:zZ}{F:Nat->Prop}{id b be i:Nat}{u:Un}{p:zB8}{m:zy}{H:List HTh}{a:Ac}{n:Int}{xa ta ea:Option Addr}{xc tc ec:Nat}(h:zEz w T F id b u p be i m H a n xa)(hk:a.kind=5):
 Calls Tryz.prog 65 #[.pointer (some ⟨b,0,none⟩),.pointer (some ⟨be,0,none⟩),.agg #[a.kind,a.reg,a.obj,a.ex.kind,a.ex.num,a.ex.nm,.slice xa a.ex.args.length xc,a.count,.slice ta a.thn.length tc,.slice ea a.els.length ec]] w λe w'=>e=.returned (.tuple #[])/\Do1 w T F id b u p be i (a.kind-1) a.obj (doM u m i a).1 (doM u m i a).2.1 (doM u m i a).2.2 w':=by
 have HK:=yA hk;have i0:(0:Int)<=i:=by omega
 obtain⟨ba,w0,e3,e4,RA,KA,_⟩:=newRow w [a.kind,a.reg,a.obj,a.ex.kind,a.ex.num,a.ex.nm,.slice xa a.ex.args.length xc,a.count,.slice ta a.thn.length tc,.slice ea a.els.length ec] 146;have HI:=yA (h.zG KA);have HKA:=yA KA
 have HNB:Hid (¬(zAk T id ba\/ba=be)):=by
  exact J20 _
 have HRA:=yA RA;clear RA KA h;have D0:=yA HI.out.start;have hk1:a.kind-1=4:=by omega
 have HK1:=yA hk1;obtain⟨T0,H0,M0,x0,q0,E0,t0,s0⟩:=D0.out;have y5:=M0.zCL;have y:=(xX (S:=λq=>zAk T id q\/q=be) HRA.out q0 HNB.out).zq
 have ye:∀W,Keeps zA w0 W->W.cell? ⟨be,0,none⟩=some (.int .i64 i)/\W.cell? ⟨be,3,none⟩=some (.int .i64 0)/\W.cell? ⟨be,4,none⟩=some (.int .i64 0)/\W.cell? ⟨be,1,none⟩=some (.int .i64 4):=λW q=>by
  exact J144 _
 have f3:=zK (E0.free (k:=3) (by simp)) ⟨_,E0.cell (k:=3) rfl⟩;have f4:=zK (E0.free (k:=4) (by simp)) ⟨_,E0.cell (k:=4) rfl⟩;have k0:=zF w0;have HM0:=yA (And.intro M0 (And.intro x0 (And.intro q0 (And.intro E0 (And.intro t0 s0)))));have i1:(i:Int)<(m.zP.length:Int):=by have:=HI.out.hi;omega
 generalize hnm:m.zP.length=nm0 at y5 i1;have HNM0:=yA hnm;clear hnm;clear M0 x0 q0 E0 t0 s0;clear hk hk1;go_enter Tryz.func65,yg
 go_upto_region 1 with fail
 try rw[e3]
 try rw[e4]
 clear e3 e4;go_quiet (fail)
 rename_i nq
 obtain⟨w1,hz⟩:=eX (w0.drewN nq);rw[<-hz];have k1:Keeps zA w0 w1:=by rw[hz];exact k0.drewN _
 clear hz;have D1:=yA (D0.out.quiet k1);clear y y5 ye f3 f4 k1 k0;obtain⟨T1,H1,M1,x1,q1,E1,t1,s1⟩:=D1.out;have y5:=M1.zCL;have y:=(xX (S:=λq=>zAk T id q\/q=be) HRA.out q1 HNB.out).zq
 have ye:∀W,Keeps zA w1 W->W.cell? ⟨be,0,none⟩=some (.int .i64 i)/\W.cell? ⟨be,3,none⟩=some (.int .i64 0)/\W.cell? ⟨be,4,none⟩=some (.int .i64 0)/\W.cell? ⟨be,1,none⟩=some (.int .i64 4):=λW q=>by
  exact J162 _
 have f3:=zK (E1.free (k:=3) (by simp)) ⟨_,E1.cell (k:=3) rfl⟩;have f4:=zK (E1.free (k:=4) (by simp)) ⟨_,E1.cell (k:=4) rfl⟩;have k1:=zF w1;have HM1:=yA (And.intro M1 (And.intro x1 (And.intro q1 (And.intro E1 (And.intro t1 s1)))));have i1:(i:Int)<(m.zP.length:Int):=by have:=HI.out.hi;omega
 generalize hnm:m.zP.length=nm1 at y5 i1;have HNM1:=yA hnm;clear hnm;clear M1 x1 q1 E1 t1 s1;obtain⟨o1,o2⟩:=zGn HI.out.may (by have:=HK.out;omega);have hlc:a.obj.toNat<m.owners.length:=by rw[HI.out.ok.owners];omega
 have HLC:=yA hlc;obtain⟨gc,hgc,hrc,_⟩:=HM1.out.1.owner zU zAG hlc;have y4:=HM1.out.1.zO4;rw[hgc] at y4;have HGC:=yA hgc;have cc:=zL (hrc.cell (zAB m.owners _ hlc));have cf:=zK (hrc.free (k:=a.obj.toNat) (by rw[zAf];exact hlc)) ⟨_,hrc.cell (zAB m.owners _ hlc)⟩;have j1:a.obj<(m.owners.length:Int):=by omega
 have eo:((a.obj.toNat:Nat):Int)=a.obj:=by omega
 generalize m.owners.length=zc at y4 j1;generalize hov:m.owners.getD a.obj.toNat 0=ov at cc;have HOV:=yA hov;clear hgc hrc hlc o2 hov
 have HSC:Hid (Do1 w0 T F id b u p be i (a.kind-1) a.obj { m with owners:=m.owners.set a.obj.toNat i } 0 0 (w1.setCell ⟨gc,a.obj.toNat,none⟩ (.int .i64 i))):=by
  obtain⟨g2,hg2,_,hs2⟩:=HM1.out.1.owner zU zAG HLC.out
  have e2:g2=gc:=by
   have:=hg2.symm.trans HGC.out
   simpa using this
  subst e2;exact Do1.step HM1.out.1 HM1.out.2.1 HM1.out.2.2.1 HM1.out.2.2.2.1 HM1.out.2.2.2.2.1 HM1.out.2.2.2.2.2 (hs2 i)
 go_upto_region 15 with fail
 go_region
 all_goals (try go_wp2_with fail)
 go_returns
 refine⟨rfl,?_⟩
 have e:doM u m i a=({ m with owners:=m.owners.set a.obj.toNat i },0,0):=by
  unfold doM;simp only[if_neg (show¬a.kind=2 by have:=HK.out;omega),if_neg (show¬a.kind=3 by have:=HK.out;omega),if_neg (show¬a.kind=4 by have:=HK.out;omega),if_pos HK.out]
 rw[e];exact(HSC.out.quiet ((zF _).drew)).before HKA.out
theorem zP7{w:World}{T:zZ}{F:Nat->Prop}{id b be i:Nat}{u:Un}{p:zB8}{m:zy}{H:List HTh}{a:Ac}{n:Int}{xa ta ea:Option Addr}{xc tc ec:Nat}(h:zEz w T F id b u p be i m H a n xa)(hk:a.kind=6):
 Calls Tryz.prog 65 #[.pointer (some ⟨b,0,none⟩),.pointer (some ⟨be,0,none⟩),.agg #[a.kind,a.reg,a.obj,a.ex.kind,a.ex.num,a.ex.nm,.slice xa a.ex.args.length xc,a.count,.slice ta a.thn.length tc,.slice ea a.els.length ec]] w λe w'=>e=.returned (.tuple #[])/\Do1 w T F id b u p be i (a.kind-1) a.obj (doM u m i a).1 (doM u m i a).2.1 (doM u m i a).2.2 w':=by
 have HK:=yA hk;have i0:(0:Int)<=i:=by omega
 obtain⟨ba,w0,e3,e4,RA,KA,_⟩:=newRow w [a.kind,a.reg,a.obj,a.ex.kind,a.ex.num,a.ex.nm,.slice xa a.ex.args.length xc,a.count,.slice ta a.thn.length tc,.slice ea a.els.length ec] 146;have HI:=yA (h.zG KA);have HKA:=yA KA
 have HNB:Hid (¬(zAk T id ba\/ba=be)):=by
  exact J20 _
 have HRA:=yA RA;clear RA KA h;have D0:=yA HI.out.start;have hk1:a.kind-1=5:=by omega
 have HK1:=yA hk1;obtain⟨T0,H0,M0,x0,q0,E0,t0,s0⟩:=D0.out;have y5:=M0.zCL;have y:=(xX (S:=λq=>zAk T id q\/q=be) HRA.out q0 HNB.out).zq
 have ye:∀W,Keeps zA w0 W->W.cell? ⟨be,0,none⟩=some (.int .i64 i)/\W.cell? ⟨be,3,none⟩=some (.int .i64 0)/\W.cell? ⟨be,4,none⟩=some (.int .i64 0)/\W.cell? ⟨be,1,none⟩=some (.int .i64 5):=λW q=>by
  exact J144 _
 have f3:=zK (E0.free (k:=3) (by simp)) ⟨_,E0.cell (k:=3) rfl⟩;have f4:=zK (E0.free (k:=4) (by simp)) ⟨_,E0.cell (k:=4) rfl⟩;have k0:=zF w0;have HM0:=yA (And.intro M0 (And.intro x0 (And.intro q0 (And.intro E0 (And.intro t0 s0)))));have i1:(i:Int)<(m.zP.length:Int):=by have:=HI.out.hi;omega
 generalize hnm:m.zP.length=nm0 at y5 i1;have HNM0:=yA hnm;clear hnm;clear M0 x0 q0 E0 t0 s0;clear hk hk1;go_enter Tryz.func65,yg
 go_upto_region 1 with fail
 try rw[e3]
 try rw[e4]
 clear e3 e4;go_quiet (fail)
 rename_i nq
 obtain⟨w1,hz⟩:=eX (w0.drewN nq);rw[<-hz];have k1:Keeps zA w0 w1:=by rw[hz];exact k0.drewN _
 clear hz;have D1:=yA (D0.out.quiet k1);clear y y5 ye f3 f4 k1 k0;obtain⟨T1,H1,M1,x1,q1,E1,t1,s1⟩:=D1.out;have y5:=M1.zCL;have y:=(xX (S:=λq=>zAk T id q\/q=be) HRA.out q1 HNB.out).zq
 have ye:∀W,Keeps zA w1 W->W.cell? ⟨be,0,none⟩=some (.int .i64 i)/\W.cell? ⟨be,3,none⟩=some (.int .i64 0)/\W.cell? ⟨be,4,none⟩=some (.int .i64 0)/\W.cell? ⟨be,1,none⟩=some (.int .i64 5):=λW q=>by
  exact J162 _
 have f3:=zK (E1.free (k:=3) (by simp)) ⟨_,E1.cell (k:=3) rfl⟩;have f4:=zK (E1.free (k:=4) (by simp)) ⟨_,E1.cell (k:=4) rfl⟩;have k1:=zF w1;have HM1:=yA (And.intro M1 (And.intro x1 (And.intro q1 (And.intro E1 (And.intro t1 s1)))));have i1:(i:Int)<(m.zP.length:Int):=by have:=HI.out.hi;omega
 generalize hnm:m.zP.length=nm1 at y5 i1;have HNM1:=yA hnm;clear hnm;clear M1 x1 q1 E1 t1 s1;obtain⟨o1,o2⟩:=zGn HI.out.may (by have:=HK.out;omega);have hlc:a.obj.toNat<m.owners.length:=by rw[HI.out.ok.owners];omega
 have HLC:=yA hlc;obtain⟨gc,hgc,hrc,_⟩:=HM1.out.1.owner zU zAG hlc;have y4:=HM1.out.1.zO4;rw[hgc] at y4;have HGC:=yA hgc;have cc:=zL (hrc.cell (zAB m.owners _ hlc));have cf:=zK (hrc.free (k:=a.obj.toNat) (by rw[zAf];exact hlc)) ⟨_,hrc.cell (zAB m.owners _ hlc)⟩;have j1:a.obj<(m.owners.length:Int):=by omega
 have eo:((a.obj.toNat:Nat):Int)=a.obj:=by omega
 generalize m.owners.length=zc at y4 j1;generalize hov:m.owners.getD a.obj.toNat 0=ov at cc;have HOV:=yA hov;clear hgc hrc hlc o2 hov;go_upto_region 17 with fail
 go_quiet (fail)
 rename_i nq
 obtain⟨w2,hz⟩:=eX (w1.drewN nq);rw[<-hz];have kq:Keeps zA w1 w2:=by rw[hz];exact k1.drewN _
 clear hz;by_cases how:ov=i
 ·have hb:(ov != (i:Int))=false:=by rw[how];simp
  have D2:=yA (D1.out.quiet kq);clear y ye f3 f4 y5 k1;obtain⟨T2,H2,M2,x2,q2,E2,t2,s2⟩:=D2.out;have y5:=M2.zCL;have y:=(xX (S:=λq=>zAk T id q\/q=be) HRA.out q2 HNB.out).zq
  have ye:∀W,Keeps zA w2 W->W.cell? ⟨be,0,none⟩=some (.int .i64 i)/\W.cell? ⟨be,3,none⟩=some (.int .i64 0)/\W.cell? ⟨be,4,none⟩=some (.int .i64 0):=λW q=>by
   have e:=E2.keeps q (λh=>h);exact J42 _
  have f3:=zK (E2.free (k:=3) (by simp)) ⟨_,E2.cell (k:=3) rfl⟩;have f4:=zK (E2.free (k:=4) (by simp)) ⟨_,E2.cell (k:=4) rfl⟩;have k2:=zF w2;have HM2:=yA (And.intro M2 (And.intro x2 (And.intro q2 (And.intro E2 (And.intro t2 s2)))));have i1:(i:Int)<(m.zP.length:Int):=by have:=HI.out.hi;omega
  generalize hnm:m.zP.length=nm2 at y5 i1;have HNM2:=yA hnm;clear hnm;clear M2 x2 q2 E2 t2 s2
  have HSC:Hid (Do1 w0 T F id b u p be i (a.kind-1) a.obj { m with owners:=m.owners.set a.obj.toNat (-1) } 0 0 (w2.setCell ⟨gc,a.obj.toNat,none⟩ (.int .i64 (-1)))):=by
   obtain⟨g2,hg2,_,hs2⟩:=HM2.out.1.owner zU zAG HLC.out
   have e2:g2=gc:=by
    have:=hg2.symm.trans HGC.out
    simpa using this
   subst e2;exact Do1.step HM2.out.1 HM2.out.2.1 HM2.out.2.2.1 HM2.out.2.2.2.1 HM2.out.2.2.2.2.1 HM2.out.2.2.2.2.2 (hs2 (-1))
  replace y4:=λW (q:Keeps zA w2 W)=>y4 W (kq.zC q)
  replace cc:=λW (q:Keeps zA w2 W)=>cc W (kq.zC q)
  replace cf:=λW (q:Keeps zA w2 W)=>cf W (kq.zC q)
  clear kq;go_upto_region 19 with fail
  go_region
  all_goals (try go_wp2_with fail)
  go_returns
  refine⟨rfl,?_⟩
  have e:doM u m i a=({ m with owners:=m.owners.set a.obj.toNat (-1) },0,0):=by
   unfold doM;simp only[if_neg (show¬a.kind=2 by have:=HK.out;omega),if_neg (show¬a.kind=3 by have:=HK.out;omega),if_neg (show¬a.kind=4 by have:=HK.out;omega),if_neg (show¬a.kind=5 by have:=HK.out;omega),if_pos HK.out,if_pos (HOV.out.trans how)]
  rw[e];exact J116 _
 ·have hb:(ov != (i:Int))=true:=uN.2 how
  go_wp2_with fail
  go_returns
  refine⟨rfl,?_⟩
  have e:doM u m i a=(m,0,2):=by
   unfold doM;simp only[if_neg (show¬a.kind=2 by have:=HK.out;omega),if_neg (show¬a.kind=3 by have:=HK.out;omega),if_neg (show¬a.kind=4 by have:=HK.out;omega),if_neg (show¬a.kind=5 by have:=HK.out;omega),if_pos HK.out,if_neg (show¬m.owners.getD a.obj.toNat 0=(i:Int) by rw[HOV.out];exact how)]
  rw[e];exact((D1.out.quiet kq).ev4 2).before HKA.out
theorem zQT{w:World}{T:zZ}{F:Nat->Prop}{id b be i:Nat}{u:Un}{p:zB8}{m:zy}{H:List HTh}{a:Ac}{n:Int}{xa ta ea:Option Addr}{xc tc ec:Nat}(h:zEz w T F id b u p be i m H a n xa)(hk:a.kind=7):
 Calls Tryz.prog 65 #[.pointer (some ⟨b,0,none⟩),.pointer (some ⟨be,0,none⟩),.agg #[a.kind,a.reg,a.obj,a.ex.kind,a.ex.num,a.ex.nm,.slice xa a.ex.args.length xc,a.count,.slice ta a.thn.length tc,.slice ea a.els.length ec]] w λe w'=>e=.returned (.tuple #[])/\Do1 w T F id b u p be i (a.kind-1) a.obj (doM u m i a).1 (doM u m i a).2.1 (doM u m i a).2.2 w':=by
 have HK:=yA hk;have i0:(0:Int)<=i:=by omega
 obtain⟨ba,w0,e3,e4,RA,KA,_⟩:=newRow w [a.kind,a.reg,a.obj,a.ex.kind,a.ex.num,a.ex.nm,.slice xa a.ex.args.length xc,a.count,.slice ta a.thn.length tc,.slice ea a.els.length ec] 146;have HI:=yA (h.zG KA);have HKA:=yA KA
 have HNB:Hid (¬(zAk T id ba\/ba=be)):=by
  exact J20 _
 have HRA:=yA RA;clear RA KA h;have D0:=yA HI.out.start;have hk1:a.kind-1=6:=by omega
 have HK1:=yA hk1;obtain⟨T0,H0,M0,x0,q0,E0,t0,s0⟩:=D0.out;have y5:=M0.zCL;have y:=(xX (S:=λq=>zAk T id q\/q=be) HRA.out q0 HNB.out).zq
 have ye:∀W,Keeps zA w0 W->W.cell? ⟨be,0,none⟩=some (.int .i64 i)/\W.cell? ⟨be,3,none⟩=some (.int .i64 0)/\W.cell? ⟨be,4,none⟩=some (.int .i64 0)/\W.cell? ⟨be,1,none⟩=some (.int .i64 6):=λW q=>by
  exact J144 _
 have f3:=zK (E0.free (k:=3) (by simp)) ⟨_,E0.cell (k:=3) rfl⟩;have f4:=zK (E0.free (k:=4) (by simp)) ⟨_,E0.cell (k:=4) rfl⟩;have k0:=zF w0;have HM0:=yA (And.intro M0 (And.intro x0 (And.intro q0 (And.intro E0 (And.intro t0 s0)))));have i1:(i:Int)<(m.zP.length:Int):=by have:=HI.out.hi;omega
 generalize hnm:m.zP.length=nm0 at y5 i1;have HNM0:=yA hnm;clear hnm;clear M0 x0 q0 E0 t0 s0;clear hk hk1;go_enter Tryz.func65,yg
 go_upto_region 1 with fail
 try rw[e3]
 try rw[e4]
 clear e3 e4;go_quiet (fail)
 rename_i nq
 obtain⟨w1,hz⟩:=eX (w0.drewN nq);rw[<-hz];have k1:Keeps zA w0 w1:=by rw[hz];exact k0.drewN _
 clear hz;have D1:=yA (D0.out.quiet k1);clear y y5 ye f3 f4 k1 k0;obtain⟨T1,H1,M1,x1,q1,E1,t1,s1⟩:=D1.out;have y5:=M1.zCL;have y:=(xX (S:=λq=>zAk T id q\/q=be) HRA.out q1 HNB.out).zq
 have ye:∀W,Keeps zA w1 W->W.cell? ⟨be,0,none⟩=some (.int .i64 i)/\W.cell? ⟨be,3,none⟩=some (.int .i64 0)/\W.cell? ⟨be,4,none⟩=some (.int .i64 0)/\W.cell? ⟨be,1,none⟩=some (.int .i64 6):=λW q=>by
  exact J162 _
 have f3:=zK (E1.free (k:=3) (by simp)) ⟨_,E1.cell (k:=3) rfl⟩;have f4:=zK (E1.free (k:=4) (by simp)) ⟨_,E1.cell (k:=4) rfl⟩;have k1:=zF w1;have HM1:=yA (And.intro M1 (And.intro x1 (And.intro q1 (And.intro E1 (And.intro t1 s1)))));have i1:(i:Int)<(m.zP.length:Int):=by have:=HI.out.hi;omega
 generalize hnm:m.zP.length=nm1 at y5 i1;have HNM1:=yA hnm;clear hnm;clear M1 x1 q1 E1 t1 s1;obtain⟨o1,o2⟩:=zGT HI.out.may (by have:=HK.out;omega);have hlt:a.obj.toNat<m.zP.length:=by rw[HI.out.ok.zP];omega
 have HLT:=yA hlt;have ts:=HM1.out.1.st hlt;have j1:a.obj<(m.zP.length:Int):=by omega
 have eo:((a.obj.toNat:Nat):Int)=a.obj:=by omega
 rw[HNM1.out] at j1;generalize hst:(m.get a.obj.toNat).st=s at ts;have HST:=yA hst;clear hst hlt o2;go_upto_region 21 with fail
 go_quiet (fail)
 rename_i nq
 obtain⟨w2,hz⟩:=eX (w1.drewN nq);rw[<-hz];have kq:Keeps zA w1 w2:=by rw[hz];exact k1.drewN _
 clear hz;by_cases how:s=1
 ·have hb:(s != 1)=false:=by rw[how];rfl
  have D2:=yA (D1.out.quiet kq);clear y ye f3 f4 y5 k1;obtain⟨T2,H2,M2,x2,q2,E2,t2,s2⟩:=D2.out;have y5:=M2.zCL;have y:=(xX (S:=λq=>zAk T id q\/q=be) HRA.out q2 HNB.out).zq
  have ye:∀W,Keeps zA w2 W->W.cell? ⟨be,0,none⟩=some (.int .i64 i)/\W.cell? ⟨be,3,none⟩=some (.int .i64 0)/\W.cell? ⟨be,4,none⟩=some (.int .i64 0):=λW q=>by
   have e:=E2.keeps q (λh=>h);exact J42 _
  have f3:=zK (E2.free (k:=3) (by simp)) ⟨_,E2.cell (k:=3) rfl⟩;have f4:=zK (E2.free (k:=4) (by simp)) ⟨_,E2.cell (k:=4) rfl⟩;have k2:=zF w2;have HM2:=yA (And.intro M2 (And.intro x2 (And.intro q2 (And.intro E2 (And.intro t2 s2)))));have i1:(i:Int)<(m.zP.length:Int):=by have:=HI.out.hi;omega
  generalize hnm:m.zP.length=nm2 at y5 i1;have HNM2:=yA hnm;clear hnm;clear M2 x2 q2 E2 t2 s2;have HBG:=zHd HM2.out.1 HI.out.right HI.out.ok HLT.out;rw[eo] at HBG;have HBH:=yA HBG;clear kq HBG;go_wp2_with (go_at_call 61;refine HBH.out.mono ?_;rintro e w3 ⟨rfl,g3⟩;have HW3:=yA g3;clear g3)
  go_returns
  refine⟨rfl,?_⟩
  have e:doM u m i a=(zGb u m a.obj.toNat,0,0):=by
   unfold doM;simp only[if_neg (show¬a.kind=2 by have:=HK.out;omega),if_neg (show¬a.kind=3 by have:=HK.out;omega),if_neg (show¬a.kind=4 by have:=HK.out;omega),if_neg (show¬a.kind=5 by have:=HK.out;omega),if_neg (show¬a.kind=6 by have:=HK.out;omega),if_pos HK.out,if_pos (HST.out.trans how)]
  rw[e];exact(Do1.step HM2.out.1 HM2.out.2.1 HM2.out.2.2.1 HM2.out.2.2.2.1 HM2.out.2.2.2.2.1 HM2.out.2.2.2.2.2 HW3.out).before HKA.out
 ·have hb:(s != 1)=true:=uN.2 how
  go_wp2_with fail
  go_returns
  refine⟨rfl,?_⟩
  have e:doM u m i a=(m,0,4):=by
   unfold doM;simp only[if_neg (show¬a.kind=2 by have:=HK.out;omega),if_neg (show¬a.kind=3 by have:=HK.out;omega),if_neg (show¬a.kind=4 by have:=HK.out;omega),if_neg (show¬a.kind=5 by have:=HK.out;omega),if_neg (show¬a.kind=6 by have:=HK.out;omega),if_pos HK.out,if_neg (show¬(m.get a.obj.toNat).st=1 by rw[HST.out];exact how)]
  rw[e];exact((D1.out.quiet kq).ev4 4).before HKA.out
theorem zQU{w:World}{T:zZ}{F:Nat->Prop}{id b be i:Nat}{u:Un}{p:zB8}{m:zy}{H:List HTh}{a:Ac}{n:Int}{xa ta ea:Option Addr}{xc tc ec:Nat}(h:zEz w T F id b u p be i m H a n xa)(hk:a.kind=8):
 Calls Tryz.prog 65 #[.pointer (some ⟨b,0,none⟩),.pointer (some ⟨be,0,none⟩),.agg #[a.kind,a.reg,a.obj,a.ex.kind,a.ex.num,a.ex.nm,.slice xa a.ex.args.length xc,a.count,.slice ta a.thn.length tc,.slice ea a.els.length ec]] w λe w'=>e=.returned (.tuple #[])/\Do1 w T F id b u p be i (a.kind-1) a.obj (doM u m i a).1 (doM u m i a).2.1 (doM u m i a).2.2 w':=by
 have HK:=yA hk;have i0:(0:Int)<=i:=by omega
 obtain⟨ba,w0,e3,e4,RA,KA,_⟩:=newRow w [a.kind,a.reg,a.obj,a.ex.kind,a.ex.num,a.ex.nm,.slice xa a.ex.args.length xc,a.count,.slice ta a.thn.length tc,.slice ea a.els.length ec] 146;have HI:=yA (h.zG KA);have HKA:=yA KA
 have HNB:Hid (¬(zAk T id ba\/ba=be)):=by
  exact J20 _
 have HRA:=yA RA;clear RA KA h;have D0:=yA HI.out.start;have hk1:a.kind-1=7:=by omega
 have HK1:=yA hk1;obtain⟨T0,H0,M0,x0,q0,E0,t0,s0⟩:=D0.out;have y5:=M0.zCL;have y:=(xX (S:=λq=>zAk T id q\/q=be) HRA.out q0 HNB.out).zq
 have ye:∀W,Keeps zA w0 W->W.cell? ⟨be,0,none⟩=some (.int .i64 i)/\W.cell? ⟨be,3,none⟩=some (.int .i64 0)/\W.cell? ⟨be,4,none⟩=some (.int .i64 0)/\W.cell? ⟨be,1,none⟩=some (.int .i64 7):=λW q=>by
  exact J144 _
 have f3:=zK (E0.free (k:=3) (by simp)) ⟨_,E0.cell (k:=3) rfl⟩;have f4:=zK (E0.free (k:=4) (by simp)) ⟨_,E0.cell (k:=4) rfl⟩;have k0:=zF w0;have HM0:=yA (And.intro M0 (And.intro x0 (And.intro q0 (And.intro E0 (And.intro t0 s0)))));have i1:(i:Int)<(m.zP.length:Int):=by have:=HI.out.hi;omega
 generalize hnm:m.zP.length=nm0 at y5 i1;have HNM0:=yA hnm;clear hnm;clear M0 x0 q0 E0 t0 s0;clear hk hk1;go_enter Tryz.func65,yg
 go_upto_region 1 with fail
 try rw[e3]
 try rw[e4]
 clear e3 e4;go_quiet (fail)
 rename_i nq
 obtain⟨w1,hz⟩:=eX (w0.drewN nq);rw[<-hz];have k1:Keeps zA w0 w1:=by rw[hz];exact k0.drewN _
 clear hz;have D1:=yA (D0.out.quiet k1);clear y y5 ye f3 f4 k1 k0;obtain⟨T1,H1,M1,x1,q1,E1,t1,s1⟩:=D1.out;have y5:=M1.zCL;have y:=(xX (S:=λq=>zAk T id q\/q=be) HRA.out q1 HNB.out).zq
 have ye:∀W,Keeps zA w1 W->W.cell? ⟨be,0,none⟩=some (.int .i64 i)/\W.cell? ⟨be,3,none⟩=some (.int .i64 0)/\W.cell? ⟨be,4,none⟩=some (.int .i64 0)/\W.cell? ⟨be,1,none⟩=some (.int .i64 7):=λW q=>by
  exact J162 _
 have f3:=zK (E1.free (k:=3) (by simp)) ⟨_,E1.cell (k:=3) rfl⟩;have f4:=zK (E1.free (k:=4) (by simp)) ⟨_,E1.cell (k:=4) rfl⟩;have k1:=zF w1;have HM1:=yA (And.intro M1 (And.intro x1 (And.intro q1 (And.intro E1 (And.intro t1 s1)))));have i1:(i:Int)<(m.zP.length:Int):=by have:=HI.out.hi;omega
 generalize hnm:m.zP.length=nm1 at y5 i1;have HNM1:=yA hnm;clear hnm;clear M1 x1 q1 E1 t1 s1;obtain⟨o1,o2⟩:=zGT HI.out.may (by have:=HK.out;omega);have hlt:a.obj.toNat<m.zP.length:=by rw[HI.out.ok.zP];omega
 have HLT:=yA hlt;have ts:=HM1.out.1.st hlt;have j1:a.obj<(m.zP.length:Int):=by omega
 have eo:((a.obj.toNat:Nat):Int)=a.obj:=by omega
 rw[HNM1.out] at j1;generalize hst:(m.get a.obj.toNat).st=s at ts;have HST:=yA hst;clear hst hlt o2;go_upto_region 25 with fail
 go_quiet (fail)
 rename_i nq
 obtain⟨w2,hz⟩:=eX (w1.drewN nq);rw[<-hz];have kq:Keeps zA w1 w2:=by rw[hz];exact k1.drewN _
 clear hz;by_cases how:s=1
 ·have hb:(s==1)=true:=by rw[how];rfl
  go_wp2_with fail
  go_returns
  refine⟨rfl,?_⟩
  have e:doM u m i a=(m,0,3):=by
   unfold doM;simp only[if_neg (show¬a.kind=2 by have:=HK.out;omega),if_neg (show¬a.kind=3 by have:=HK.out;omega),if_neg (show¬a.kind=4 by have:=HK.out;omega),if_neg (show¬a.kind=5 by have:=HK.out;omega),if_neg (show¬a.kind=6 by have:=HK.out;omega),if_neg (show¬a.kind=7 by have:=HK.out;omega),if_pos HK.out,if_pos (HST.out.trans how)]
  rw[e];exact((D1.out.quiet kq).ev4 3).before HKA.out
 ·have hb:(s==1)=false:=xN how
  go_wp2_with fail
  go_returns
  refine⟨rfl,?_⟩
  have e:doM u m i a=(m,0,0):=by
   unfold doM;simp only[if_neg (show¬a.kind=2 by have:=HK.out;omega),if_neg (show¬a.kind=3 by have:=HK.out;omega),if_neg (show¬a.kind=4 by have:=HK.out;omega),if_neg (show¬a.kind=5 by have:=HK.out;omega),if_neg (show¬a.kind=6 by have:=HK.out;omega),if_neg (show¬a.kind=7 by have:=HK.out;omega),if_pos HK.out,if_neg (show¬(m.get a.obj.toNat).st=1 by rw[HST.out];exact how)]
  rw[e];exact(D1.out.quiet kq).before HKA.out
theorem zQY{w:World}{T:zZ}{F:Nat->Prop}{id b be i:Nat}{u:Un}{p:zB8}{m:zy}{H:List HTh}{a:Ac}{n:Int}{xa ta ea:Option Addr}{xc tc ec:Nat}(h:zEz w T F id b u p be i m H a n xa)(hk:a.kind=9):
 Calls Tryz.prog 65 #[.pointer (some ⟨b,0,none⟩),.pointer (some ⟨be,0,none⟩),.agg #[a.kind,a.reg,a.obj,a.ex.kind,a.ex.num,a.ex.nm,.slice xa a.ex.args.length xc,a.count,.slice ta a.thn.length tc,.slice ea a.els.length ec]] w λe w'=>e=.returned (.tuple #[])/\Do1 w T F id b u p be i (a.kind-1) a.obj (doM u m i a).1 (doM u m i a).2.1 (doM u m i a).2.2 w':=by
 have HK:=yA hk;have i0:(0:Int)<=i:=by omega
 obtain⟨ba,w0,e3,e4,RA,KA,_⟩:=newRow w [a.kind,a.reg,a.obj,a.ex.kind,a.ex.num,a.ex.nm,.slice xa a.ex.args.length xc,a.count,.slice ta a.thn.length tc,.slice ea a.els.length ec] 146;have HI:=yA (h.zG KA);have HKA:=yA KA
 have HNB:Hid (¬(zAk T id ba\/ba=be)):=by
  exact J20 _
 have HRA:=yA RA;clear RA KA h;have D0:=yA HI.out.start;have hk1:a.kind-1=8:=by omega
 have HK1:=yA hk1;obtain⟨T0,H0,M0,x0,q0,E0,t0,s0⟩:=D0.out;have y5:=M0.zCL;have y:=(xX (S:=λq=>zAk T id q\/q=be) HRA.out q0 HNB.out).zq
 have ye:∀W,Keeps zA w0 W->W.cell? ⟨be,0,none⟩=some (.int .i64 i)/\W.cell? ⟨be,3,none⟩=some (.int .i64 0)/\W.cell? ⟨be,4,none⟩=some (.int .i64 0)/\W.cell? ⟨be,1,none⟩=some (.int .i64 8):=λW q=>by
  exact J144 _
 have f3:=zK (E0.free (k:=3) (by simp)) ⟨_,E0.cell (k:=3) rfl⟩;have f4:=zK (E0.free (k:=4) (by simp)) ⟨_,E0.cell (k:=4) rfl⟩;have k0:=zF w0;have HM0:=yA (And.intro M0 (And.intro x0 (And.intro q0 (And.intro E0 (And.intro t0 s0)))));have i1:(i:Int)<(m.zP.length:Int):=by have:=HI.out.hi;omega
 generalize hnm:m.zP.length=nm0 at y5 i1;have HNM0:=yA hnm;clear hnm;clear M0 x0 q0 E0 t0 s0;clear hk hk1;go_enter Tryz.func65,yg
 go_upto_region 1 with fail
 try rw[e3]
 try rw[e4]
 clear e3 e4;go_quiet (fail)
 rename_i nq
 obtain⟨w1,hz⟩:=eX (w0.drewN nq);rw[<-hz];have k1:Keeps zA w0 w1:=by rw[hz];exact k0.drewN _
 clear hz;obtain⟨rv,fv,hH,hrw,_⟩:=HM0.out.1.zP.get (uD HI.out.hi);obtain⟨ra,rc,hrv,_⟩:=hrw;have yr:=zL (zAP HM0.out.1.zP.row hH).2.1
 have HV:Ret w0 107 #[.agg #[a.ex.kind,a.ex.num,a.ex.nm,.slice xa a.ex.args.length xc],rv] (.int .i64 (a.ex.val (m.get i).regs)):=λW hq =>
  zE1 (m.get i).regs n _ HI.out.reg a.ex W F xa xc (vS HI.out.xs hq (λ_ _ h=>h)) (((HM0.out.1.zP.each i _ _ hH (uD HI.out.hi)).2.1.keeps hq (λ_ _ h=>h)).src) (Ac.zGa HI.out.may (by have:=HK.out;omega))
 rw[hrv] at HV yr;generalize hval:a.ex.val (m.get i).regs=val at HV;have HVAL:=yA hval;generalize (m.get i).regs.length=zv at HV yr;clear hrv hval hH;go_upto_region 28 with fail
 refine zB5 8 0 (by kernel_rfl) [some (.pointer (some ⟨be,0,none⟩)),some (.pointer (some ⟨ba,3,none⟩)),some (.agg #[a.ex.kind,a.ex.num,a.ex.nm,.slice xa a.ex.args.length xc]),some (.pointer (some ⟨p.gt,i*3,none⟩)),some (.pointer (some ⟨p.gt,i*3,none⟩)),some (.pointer (some ⟨p.gt,i*3+1,none⟩)),some (.slice ra zv rc),some (.int .i64 val)] rfl (λ_ _ _=>False) (λ_ _ _ _ h _=>h) _ rfl (λ_ _ _ _ h=>h) _ rfl (λ_ _ _=>by exact J171 _) ?_ ?_
 ·exact J39 _
 ·intro vs W hR hFF
  have HRW:Keeps zA w1 W:=((zF w1).drew).zC hR;have kW:Keeps zA w0 W:=k1.zC HRW;have e0:vs 0=_:=hFF 0 (by decide);have e7:vs 7=_:=hFF 7 (by decide);simp only[zJ,tz,Option.bind,Act.put];rw[e0,e7];clear hFF e0 e7;go_upto_region 29 with fail
  have D5:=yA ((D0.out.quiet kW).ev3 val);generalize W.setCell ⟨be,3,none⟩ (.int .i64 val)=w5 at D5 ⊢;clear y y5 ye f3 f4;clear yr HRW hR;obtain⟨T5,H5,M5,x5,q5,E5,t5,s5⟩:=D5.out;have y5:=M5.zCL;have y:=(xX (S:=λq=>zAk T id q\/q=be) HRA.out q5 HNB.out).zq
  have ye:∀W,Keeps zA w5 W->W.cell? ⟨be,0,none⟩=some (.int .i64 i)/\W.cell? ⟨be,3,none⟩=some (.int .i64 val)/\W.cell? ⟨be,4,none⟩=some (.int .i64 0):=λW q=>by
   exact J161 _
  have f3:=zK (E5.free (k:=3) (by simp)) ⟨_,E5.cell (k:=3) rfl⟩;have f4:=zK (E5.free (k:=4) (by simp)) ⟨_,E5.cell (k:=4) rfl⟩;have k5:=zF w5;have HM5:=yA (And.intro M5 (And.intro x5 (And.intro q5 (And.intro E5 (And.intro t5 s5)))));have i1:(i:Int)<(m.zP.length:Int):=by have:=HI.out.hi;omega
  generalize hnm:m.zP.length=nm5 at y5 i1;have HNM5:=yA hnm;clear hnm;clear M5 x5 q5 E5 t5 s5
  have e:doM u m i a=(m,a.ex.val (m.get i).regs,if a.ex.val (m.get i).regs=0 then 1 else 0):=by
   unfold doM;simp only[if_neg (show¬a.kind=2 by have:=HK.out;omega),if_neg (show¬a.kind=3 by have:=HK.out;omega),if_neg (show¬a.kind=4 by have:=HK.out;omega),if_neg (show¬a.kind=5 by have:=HK.out;omega),if_neg (show¬a.kind=6 by have:=HK.out;omega),if_neg (show¬a.kind=7 by have:=HK.out;omega),if_neg (show¬a.kind=8 by have:=HK.out;omega)]
  have HE:=yA e;clear e;by_cases hz:val=0
  ·have hb:(val==0)=true:=by rw[hz];rfl
   go_wp2_with fail
   go_returns
   refine⟨rfl,?_⟩
   rw[HE.out,HVAL.out,if_pos hz];exact(D5.out.ev4 1).before HKA.out
  ·have hb:(val==0)=false:=xN hz
   go_wp2_with fail
   go_returns
   refine⟨rfl,?_⟩
   rw[HE.out,HVAL.out,if_neg hz];exact D5.out.before HKA.out
theorem zOA{w:World}{T:zZ}{F:Nat->Prop}{id b be i:Nat}{u:Un}{p:zB8}{m:zy}{H:List HTh}{a:Ac}{n:Int}{xa ta ea:Option Addr}{xc tc ec:Nat}(h:zEz w T F id b u p be i m H a n xa)(hk:2<=a.kind/\a.kind<=9):
 Calls Tryz.prog 65 #[.pointer (some ⟨b,0,none⟩),.pointer (some ⟨be,0,none⟩),.agg #[a.kind,a.reg,a.obj,a.ex.kind,a.ex.num,a.ex.nm,.slice xa a.ex.args.length xc,a.count,.slice ta a.thn.length tc,.slice ea a.els.length ec]] w λe w'=>e=.returned (.tuple #[])/\Do1 w T F id b u p be i (a.kind-1) a.obj (doM u m i a).1 (doM u m i a).2.1 (doM u m i a).2.2 w':=by
 rcases (show a.kind=2\/a.kind=3\/a.kind=4\/a.kind=5\/a.kind=6\/a.kind=7\/a.kind=8\/a.kind=9 by omega) with e|e|e|e|e|e|e|e
 ·exact zPz h e
 ·exact zPy h e
 ·exact zQA h e
 ·exact zPx h e
 ·exact zP7 h e
 ·exact zQT h e
 ·exact zQU h e
 ·exact zQY h e
