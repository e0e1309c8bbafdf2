/- Layer K: texts joined. -/
import Derived.Test.YtfokdllgnblamaaGreatDoorK28
set_option linter.all false
set_option maxHeartbeats 8000000
set_option maxRecDepth 8000
namespace Go.Proofs.YtfokdllgnblamaaGreatDoor
open Go.RowKit
abbrev yo:=@Go.Proofs.Tryz.ntmps49
abbrev uA:=@zC.keeps
theorem J16 (P:Prop) (h:P:=by
 rw [HK1.out] at e;exact ⟨e.cell (k:=0) rfl,e.cell (k:=3) rfl,e.cell (k:=4) rfl,e.cell (k:=1) rfl⟩):P:=h
theorem J22 (P:Prop) (h:P:=by
 have h1:=h.ev.lt (by simp);have h2:=(h.M.zM.sep.free (g:=ba) (by omega)).1;rintro (⟨t,e⟩ | e)
 ·rw [h2] at e;cases e
 ·omega):P:=h
theorem J30 (P:Prop) (h:P:=by unfold doM;simp only [if_neg (show ¬ a.kind=2 by have:=HK.out;omega),if_neg (show ¬ a.kind=3 by have:=HK.out;omega),if_neg (show ¬ a.kind=4 by have:=HK.out;omega),if_neg (show ¬ a.kind=5 by have:=HK.out;omega),if_neg (show ¬ a.kind=6 by have:=HK.out;omega),if_neg (show ¬ a.kind=7 by have:=HK.out;omega),if_neg (show ¬ a.kind=8 by have:=HK.out;omega)]):P:=h
theorem J39 (P:Prop) (h:P:=by
 refine ⟨?_,?_,?_,?_,?_,?_,?_,?_,trivial⟩ <;> (intro vs gs W Q' hR hd hK;have HRW:Keeps zA w1 W:=((zH w1).drew).zB hR;have kW:Keeps zA w0 W:=k1.zB HRW;simp only [zEU,zCi,zGO,zJ,tz,Option.bind,Act.put] at hd hK ⊢;try simp only [hd] at hK ⊢)
 all_goals try (try clear hd;go_wp2_with (go_at_call 78;refine HV.call kW ?_;intro w6 _ g6);first | exact hK _ _ (yC _ _) rfl | exact hK _ _ (by assumption) rfl)):P:=h
theorem J44 (P:Prop) (h:P:=by unfold doM;simp only [if_neg (show ¬ a.kind=2 by have:=HK.out;omega),if_neg (show ¬ a.kind=3 by have:=HK.out;omega),if_neg (show ¬ a.kind=4 by have:=HK.out;omega),if_neg (show ¬ a.kind=5 by have:=HK.out;omega),if_neg (show ¬ a.kind=6 by have:=HK.out;omega),if_neg (show ¬ a.kind=7 by have:=HK.out;omega),if_pos HK.out,if_neg (show ¬ (m.get a.obj.toNat).st=1 by rw [HST.out];exact how)]):P:=h
theorem J45 (P:Prop) (h:P:=by exact ⟨e.cell (k:=0) rfl,e.cell (k:=3) rfl,e.cell (k:=4) rfl⟩):P:=h
theorem J51 (P:Prop) (h:P:=by unfold doM;simp only [if_neg (show ¬ a.kind=2 by have:=HK.out;omega),if_neg (show ¬ a.kind=3 by have:=HK.out;omega),if_neg (show ¬ a.kind=4 by have:=HK.out;omega),if_neg (show ¬ a.kind=5 by have:=HK.out;omega),if_neg (show ¬ a.kind=6 by have:=HK.out;omega),if_neg (show ¬ a.kind=7 by have:=HK.out;omega),if_pos HK.out,if_pos (HST.out.trans how)]):P:=h
theorem J52 (P:Prop) (h:P:=by unfold doM;simp only [if_neg (show ¬ a.kind=2 by have:=HK.out;omega),if_neg (show ¬ a.kind=3 by have:=HK.out;omega),if_neg (show ¬ a.kind=4 by have:=HK.out;omega),if_neg (show ¬ a.kind=5 by have:=HK.out;omega),if_neg (show ¬ a.kind=6 by have:=HK.out;omega),if_pos HK.out,if_neg (show ¬ (m.get a.obj.toNat).st=1 by rw [HST.out];exact how)]):P:=h
theorem J54 (P:Prop) (h:P:=by unfold doM;simp only [if_neg (show ¬ a.kind=2 by have:=HK.out;omega),if_neg (show ¬ a.kind=3 by have:=HK.out;omega),if_neg (show ¬ a.kind=4 by have:=HK.out;omega),if_neg (show ¬ a.kind=5 by have:=HK.out;omega),if_pos HK.out,if_neg (show ¬ m.owners.getD a.obj.toNat 0=(i:Int) by rw [HOV.out];exact how)]):P:=h
theorem J55 (P:Prop) (h:P:=by unfold doM;simp only [if_neg (show ¬ a.kind=2 by have:=HK.out;omega),if_neg (show ¬ a.kind=3 by have:=HK.out;omega),if_neg (show ¬ a.kind=4 by have:=HK.out;omega),if_neg (show ¬ a.kind=5 by have:=HK.out;omega),if_neg (show ¬ a.kind=6 by have:=HK.out;omega),if_pos HK.out,if_pos (HST.out.trans how)]):P:=h
theorem J68 (P:Prop) (h:P:=by unfold doM;simp only [if_neg (show ¬ a.kind=2 by have:=HK.out;omega),if_neg (show ¬ a.kind=3 by have:=HK.out;omega),if_neg (show ¬ a.kind=4 by have:=HK.out;omega),if_neg (show ¬ a.kind=5 by have:=HK.out;omega),if_pos HK.out,if_pos (HOV.out.trans how)]):P:=h
theorem J85 (P:Prop) (h:P:=by unfold doM;simp only [if_neg (show ¬ a.kind=2 by have:=HK.out;omega),if_neg (show ¬ a.kind=3 by have:=HK.out;omega),if_neg (show ¬ a.kind=4 by have:=HK.out;omega),if_pos HK.out]):P:=h
theorem J113 (P:Prop) (h:P:=by unfold doM;simp only [if_neg (show ¬ a.kind=2 by have:=HK.out;omega),if_neg (show ¬ a.kind=3 by have:=HK.out;omega),if_pos HK.out];rfl):P:=h
theorem J131 (P:Prop) (h:P:=by exact (HSC.out.quiet ((zH _).drew)).before HKA.out):P:=h
theorem J162 (P:Prop) (h:P:=by
 have e:=E0.keeps q (fun h=>h);exact J16 _):P:=h
theorem J178 (P:Prop) (h:P:=by
 have e:=E5.keeps q (fun h=>h);exact J45 _):P:=h
theorem J179 (P:Prop) (h:P:=by
 have e:=E1.keeps q (fun h=>h);exact J16 _):P:=h
theorem J228 (P:Prop) (h:P:=by simp only [zJ,tz,Option.bind,Act.put];exact .inl ⟨rfl,fun _=>rfl⟩):P:=h
def Do1 (w:World) (T:zS) (F:Nat -> Prop) (id b:Nat) (u:Un) (p:zAn) (be i:Nat) (k o:Int) (m:zm) (v bad:Int) (w':World):Prop :=
 ∃ T' H',MaP zi 1 103 zBX w' T' F id b u p m H' /\ zAG T T' id w /\ Keeps (fun q=>zAh T id q \/ q=be) w w' /\ zC w' be [.int .i64 i, .int .i64 k, .int .i64 o, .int .i64 v, .int .i64 bad] /\ T' be=none /\ ¬ F be
section
variable {w w' w2:World} {T:zS} {F:Nat -> Prop} {id b be i:Nat} {u:Un} {p:zAn} {k o v bad:Int} {m m2:zm} {H:List HTh}
theorem Do1.quiet (h:Do1 w T F id b u p be i k o m v bad w') (hk:Keeps zA w' w2):Do1 w T F id b u p be i k o m v bad w2:=by
 obtain ⟨T',H',M,x,q,E,f1,f2⟩:=h;exact ⟨T',H',xQ zU zAP M hk,x,q.trans hk (fun _ _ h=>h.elim),E.keeps hk (fun h=>h),f1,f2⟩
theorem Do1.ev3 (h:Do1 w T F id b u p be i k o m v bad w') (v':Int):Do1 w T F id b u p be i k o m v' bad (w'.setCell ⟨be,3,none⟩ (.int .i64 v')):=by
 obtain ⟨T',H',M,x,q,E,f1,f2⟩:=h;have hk:Keeps (fun q=>q=be) w' (w'.setCell ⟨be,3,none⟩ (.int .i64 v')):=(yC (fun q=>q=be) w').setCell (p:=⟨be,3,none⟩) (fun _=>rfl) _
 exact ⟨T',H',MaP.keeps zU zAP M hk (fun q e1 e2=>by
  rw [e2] at e1;rcases e1 with ⟨t,e1⟩ | e1
  ·rw [f1] at e1;cases e1
  ·exact f2 e1),x,q.trans hk (fun _ _ h=>.inr h),E.set 3 (by simp) _,f1,f2⟩
theorem Do1.ev4 (h:Do1 w T F id b u p be i k o m v bad w') (v':Int):Do1 w T F id b u p be i k o m v v' (w'.setCell ⟨be,4,none⟩ (.int .i64 v')):=by
 obtain ⟨T',H',M,x,q,E,f1,f2⟩:=h;have hk:Keeps (fun q=>q=be) w' (w'.setCell ⟨be,4,none⟩ (.int .i64 v')):=(yC (fun q=>q=be) w').setCell (p:=⟨be,4,none⟩) (fun _=>rfl) _
 exact ⟨T',H',MaP.keeps zU zAP M hk (fun q e1 e2=>by
  rw [e2] at e1;rcases e1 with ⟨t,e1⟩ | e1
  ·rw [f1] at e1;cases e1
  ·exact f2 e1),x,q.trans hk (fun _ _ h=>.inr h),E.set 4 (by simp) _,f1,f2⟩
theorem Do1.step {T':zS} {H':List HTh} (M:MaP zi 1 103 zBX w' T' F id b u p m H') (x:zAG T T' id w) (q:Keeps (fun q=>zAh T id q \/ q=be) w w') (E:zC w' be [.int .i64 i, .int .i64 k, .int .i64 o, .int .i64 v, .int .i64 bad]) (f1:T' be=none) (f2:¬ F be)
 (h:zAC zi 1 103 zBX w' T' F id b u p m2 w2):Do1 w T F id b u p be i k o m2 v bad w2:=by
 obtain ⟨T2,H2,M2,x2,k2⟩:=h;exact ⟨T2,H2,M2,x.trans x2 q.size,q.trans k2 (fun q hq e=>.inl (x.own e hq)),E.keeps k2 (fun ⟨t,e⟩=>by rw [f1] at e;cases e),x2.none f1 (E.lt (by simp)),f2⟩
structure zEz (w:World) (T:zS) (F:Nat -> Prop) (id b:Nat) (u:Un) (p:zAn) (be i:Nat) (m:zm) (H:List HTh) (a:Ac) (n:Int) (xa:Option Addr):Prop where
 M:MaP zi 1 103 zBX w T F id b u p m H
 ok:m.ok u
 right:zX u=true
 hi:i < m.zM.length
 ev:zC w be [.int .i64 i, .int .i64 (a.kind - 1), .int .i64 a.obj, .int .i64 0, .int .i64 0]
 f1:T be=none
 f2:¬ F be
 may:Ac.may u n a=true
 reg:(m.get i).regs.length=n.toNat
 xs:zN w F a.ex.args xa
theorem zEz.start {a:Ac} {n:Int} {xa:Option Addr} (h:zEz w T F id b u p be i m H a n xa):Do1 w T F id b u p be i (a.kind - 1) a.obj m 0 0 w :=
 ⟨T,H,h.M,uW T id w,yC _ _,h.ev,h.f1,h.f2⟩
theorem zEz.zD {a:Ac} {n:Int} {xa:Option Addr} (h:zEz w T F id b u p be i m H a n xa) (hk:Keeps zA w w'):zEz w' T F id b u p be i m H a n xa :=
 ⟨xQ zU zAP h.M hk,h.ok,h.right,h.hi,h.ev.keeps hk (fun h=>h),h.f1,h.f2,h.may,h.reg,xY h.xs hk (fun _ _ h=>h)⟩
theorem Do1.before (h:Do1 w' T F id b u p be i k o m v bad w2) (hk:Keeps zA w w'):Do1 w T F id b u p be i k o m v bad w2:=by
 obtain ⟨T',H',M,x,q,E,f1,f2⟩:=h;exact ⟨T',H',M,⟨x.1,fun k y e=>(x.2 k y e).imp (fun h=>h) (fun h=>⟨yX hk.size h.1,h.2⟩)⟩,(hk.mono (fun _ _ h=>h.elim)).trans q (fun _ _ h=>h),E,f1,f2⟩
theorem MaP.reg (h:MaP zi 1 103 zBX w T F id b u p m H) (hi:i < m.zM.length) {k:Nat} (hk:k < (m.get i).regs.length):∃ gr rc,(∀ W,Keeps zA w W -> W.cell? ⟨p.gt,i*3+1,none⟩=some (.slice (some ⟨gr,0,none⟩) (m.get i).regs.length rc)) /\ zC w gr (ints (m.get i).regs) ∧
 ∀ v,zAC zi 1 103 zBX w T F id b u p (m.zAT i { m.get i with regs:=(m.get i).regs.set k v }) (w.setCell ⟨gr,k,none⟩ (.int .i64 v)):=by
 obtain ⟨rv,fv,hH,hr,hf⟩:=h.zM.get (xL hi);obtain ⟨gr,rc,e,hT,hrow⟩:=hr.at hk;subst e;exact ⟨gr,rc,zV (zAA h.zM.row hH).2.1,hrow,fun v=>h.went zAP (zFk zU h.zM hH hT hrow hf hk v)⟩
end
theorem zOQ {w:World} {T:zS} {F:Nat -> Prop} {id b be i:Nat} {u:Un} {p:zAn} {m:zm} {H:List HTh} {a:Ac} {n:Int} {xa ta ea:Option Addr} {xc tc ec:Nat} (h:zEz w T F id b u p be i m H a n xa) (hk:a.kind=2) :
 Calls Tryz.prog 49 #[.pointer (some ⟨b,0,none⟩), .pointer (some ⟨be,0,none⟩), .agg #[.int .i64 a.kind, .int .i64 a.reg, .int .i64 a.obj, .int .i64 a.ex.kind, .int .i64 a.ex.num, .string a.ex.nm, .slice xa a.ex.args.length xc, .int .i64 a.count, .slice ta a.thn.length tc, .slice ea a.els.length ec]] w fun e w'=>e=.returned (.tuple #[]) /\ Do1 w T F id b u p be i (a.kind - 1) a.obj (doM u m i a).1 (doM u m i a).2.1 (doM u m i a).2.2 w':=by
 have HK:=yB hk;have i0:(0:Int) <= i:=by omega
 obtain ⟨ba,w0,e3,e4,RA,KA,_⟩:=newRow w [.int .i64 a.kind, .int .i64 a.reg, .int .i64 a.obj, .int .i64 a.ex.kind, .int .i64 a.ex.num, .string a.ex.nm, .slice xa a.ex.args.length xc, .int .i64 a.count, .slice ta a.thn.length tc, .slice ea a.els.length ec] 68;have HI:=yB (h.zD KA);have HKA:=yB KA
 have HNB:Hid (¬ (zAh T id ba \/ ba=be)):=by
  exact J22 _
 have HRA:=yB RA;clear RA KA h;have D0:=yB HI.out.start;have hk1:a.kind - 1=1:=by omega
 have HK1:=yB hk1;obtain ⟨T0,H0,M0,x0,q0,E0,t0,s0⟩:=D0.out;have y5:=M0.zA1;have y:=(uA (S:=fun q=>zAh T id q \/ q=be) HRA.out q0 HNB.out).zAI
 have ye:∀ W,Keeps zA w0 W -> W.cell? ⟨be,0,none⟩=some (.int .i64 i) /\ W.cell? ⟨be,3,none⟩=some (.int .i64 0) /\ W.cell? ⟨be,4,none⟩=some (.int .i64 0) /\ W.cell? ⟨be,1,none⟩=some (.int .i64 1):=fun W q=>by
  exact J162 _
 have f3:=zK (E0.free (k:=3) (by simp)) ⟨_,E0.cell (k:=3) rfl⟩;have f4:=zK (E0.free (k:=4) (by simp)) ⟨_,E0.cell (k:=4) rfl⟩;have k0:=zH w0;have HM0:=yB (And.intro M0 (And.intro x0 (And.intro q0 (And.intro E0 (And.intro t0 s0)))));have i1:(i:Int) < (m.zM.length:Int):=by have:=HI.out.hi;omega
 generalize hnm:m.zM.length=nm0 at y5 i1;have HNM0:=yB hnm;clear hnm;clear M0 x0 q0 E0 t0 s0;clear hk hk1;go_enter Tryz.func49,yo
 go_upto_region 1 with fail
 try rw [e3]
 try rw [e4]
 clear e3 e4;go_quiet (fail)
 rename_i nq
 obtain ⟨w1,hz⟩:=eX (w0.drewN nq);rw [<- hz];have k1:Keeps zA w0 w1:=by rw [hz];exact k0.drewN _
 clear hz;obtain ⟨o1,o2⟩:=zCH HI.out.may (by have:=HK.out;omega);have hlc:a.obj.toNat < m.cells.length:=by rw [HI.out.ok.cells];omega
 obtain ⟨gc,hgc,hrc,hsc⟩:=HM0.out.1.cell zU zAP hlc;have y3:=HM0.out.1.zIu;rw [hgc] at y3;have cc:=zV (hrc.cell (zu m.cells _ hlc));have cf:=zK (hrc.free (k:=a.obj.toNat) (by rw [zAE];exact hlc)) ⟨_,hrc.cell (zu m.cells _ hlc)⟩;have j1:a.obj < (m.cells.length:Int):=by omega
 have eo:((a.obj.toNat:Nat):Int)=a.obj:=by omega
 generalize m.cells.length=zc at y3 j1;clear hgc hrc hlc o2 hsc;generalize hcv:m.cells.getD a.obj.toNat 0=cv at cc;have HCV:=yB hcv;clear hcv;go_upto_region 4 with fail
 go_region
 all_goals (try go_upto_region 5 with fail)
 have D5:=yB (((D0.out.quiet k1).ev3 cv).quiet ((zH _).drew));generalize (w1.setCell ⟨be,3,none⟩ (.int .i64 cv)).drew=w5 at D5 ⊢;clear y y5 ye f3 f4;clear y3 cc cf k1;obtain ⟨T5,H5,M5,x5,q5,E5,t5,s5⟩:=D5.out;have y5:=M5.zA1;have y:=(uA (S:=fun q=>zAh T id q \/ q=be) HRA.out q5 HNB.out).zAI
 have ye:∀ W,Keeps zA w5 W -> W.cell? ⟨be,0,none⟩=some (.int .i64 i) /\ W.cell? ⟨be,3,none⟩=some (.int .i64 cv) /\ W.cell? ⟨be,4,none⟩=some (.int .i64 0):=fun W q=>by
  exact J178 _
 have f3:=zK (E5.free (k:=3) (by simp)) ⟨_,E5.cell (k:=3) rfl⟩;have f4:=zK (E5.free (k:=4) (by simp)) ⟨_,E5.cell (k:=4) rfl⟩;have k5:=zH w5;have HM5:=yB (And.intro M5 (And.intro x5 (And.intro q5 (And.intro E5 (And.intro t5 s5)))));have i1:(i:Int) < (m.zM.length:Int):=by have:=HI.out.hi;omega
 generalize hnm:m.zM.length=nm5 at y5 i1;have HNM5:=yB hnm;clear hnm;clear M5 x5 q5 E5 t5 s5;obtain ⟨r0,r1⟩:=Ac.zDw HI.out.may (by have:=HK.out;omega);have hlr:a.reg.toNat < (m.get i).regs.length:=by rw [HI.out.reg];omega
 obtain ⟨gr,rc,yr,rr,hset⟩:=HM5.out.1.reg HI.out.hi hlr;have rcell:=zV (rr.cell (zu (m.get i).regs _ hlr));have rfree:=zK (rr.free (k:=a.reg.toNat) (by rw [zAE];exact hlr)) ⟨_,rr.cell (zu (m.get i).regs _ hlr)⟩;have j2:a.reg < ((m.get i).regs.length:Int):=by omega
 have er:((a.reg.toNat:Nat):Int)=a.reg:=by omega
 have HSR:=yB (Do1.step HM5.out.1 HM5.out.2.1 HM5.out.2.2.1 HM5.out.2.2.2.1 HM5.out.2.2.2.2.1 HM5.out.2.2.2.2.2 (hset cv));generalize (m.get i).regs.length=zr at yr j2;clear rr hset hlr r1;go_region
 all_goals (try go_wp2_with fail)
 go_returns
 refine ⟨rfl,?_⟩
 have e:doM u m i a=(m.zAT i { m.get i with regs:=(m.get i).regs.set a.reg.toNat (m.cells.getD a.obj.toNat 0) },m.cells.getD a.obj.toNat 0,0):=by
  unfold doM;simp only [if_pos HK.out]
 rw [e,HCV.out];exact (HSR.out.quiet ((zH _).drew)).before HKA.out
theorem zOX {w:World} {T:zS} {F:Nat -> Prop} {id b be i:Nat} {u:Un} {p:zAn} {m:zm} {H:List HTh} {a:Ac} {n:Int} {xa ta ea:Option Addr} {xc tc ec:Nat} (h:zEz w T F id b u p be i m H a n xa) (hk:a.kind=3) :
 Calls Tryz.prog 49 #[.pointer (some ⟨b,0,none⟩), .pointer (some ⟨be,0,none⟩), .agg #[.int .i64 a.kind, .int .i64 a.reg, .int .i64 a.obj, .int .i64 a.ex.kind, .int .i64 a.ex.num, .string a.ex.nm, .slice xa a.ex.args.length xc, .int .i64 a.count, .slice ta a.thn.length tc, .slice ea a.els.length ec]] w fun e w'=>e=.returned (.tuple #[]) /\ Do1 w T F id b u p be i (a.kind - 1) a.obj (doM u m i a).1 (doM u m i a).2.1 (doM u m i a).2.2 w':=by
 have HK:=yB hk;have i0:(0:Int) <= i:=by omega
 obtain ⟨ba,w0,e3,e4,RA,KA,_⟩:=newRow w [.int .i64 a.kind, .int .i64 a.reg, .int .i64 a.obj, .int .i64 a.ex.kind, .int .i64 a.ex.num, .string a.ex.nm, .slice xa a.ex.args.length xc, .int .i64 a.count, .slice ta a.thn.length tc, .slice ea a.els.length ec] 68;have HI:=yB (h.zD KA);have HKA:=yB KA
 have HNB:Hid (¬ (zAh T id ba \/ ba=be)):=by
  exact J22 _
 have HRA:=yB RA;clear RA KA h;have D0:=yB HI.out.start;have hk1:a.kind - 1=2:=by omega
 have HK1:=yB hk1;obtain ⟨T0,H0,M0,x0,q0,E0,t0,s0⟩:=D0.out;have y5:=M0.zA1;have y:=(uA (S:=fun q=>zAh T id q \/ q=be) HRA.out q0 HNB.out).zAI
 have ye:∀ W,Keeps zA w0 W -> W.cell? ⟨be,0,none⟩=some (.int .i64 i) /\ W.cell? ⟨be,3,none⟩=some (.int .i64 0) /\ W.cell? ⟨be,4,none⟩=some (.int .i64 0) /\ W.cell? ⟨be,1,none⟩=some (.int .i64 2):=fun W q=>by
  exact J162 _
 have f3:=zK (E0.free (k:=3) (by simp)) ⟨_,E0.cell (k:=3) rfl⟩;have f4:=zK (E0.free (k:=4) (by simp)) ⟨_,E0.cell (k:=4) rfl⟩;have k0:=zH w0;have HM0:=yB (And.intro M0 (And.intro x0 (And.intro q0 (And.intro E0 (And.intro t0 s0)))));have i1:(i:Int) < (m.zM.length:Int):=by have:=HI.out.hi;omega
 generalize hnm:m.zM.length=nm0 at y5 i1;have HNM0:=yB hnm;clear hnm;clear M0 x0 q0 E0 t0 s0;clear hk hk1;go_enter Tryz.func49,yo
 go_upto_region 1 with fail
 try rw [e3]
 try rw [e4]
 clear e3 e4;go_quiet (fail)
 rename_i nq
 obtain ⟨w1,hz⟩:=eX (w0.drewN nq);rw [<- hz];have k1:Keeps zA w0 w1:=by rw [hz];exact k0.drewN _
 clear hz;obtain ⟨rv,fv,hH,hrw,_⟩:=HM0.out.1.zM.get (xL HI.out.hi);obtain ⟨ra,rc,hrv,_⟩:=hrw;have yr:=zV (zAA HM0.out.1.zM.row hH).2.1
 have HV:Ret w0 78 #[.agg #[.int .i64 a.ex.kind, .int .i64 a.ex.num, .string a.ex.nm, .slice xa a.ex.args.length xc],rv] (.int .i64 (a.ex.val (m.get i).regs)):=fun W hq =>
  zEw (m.get i).regs n _ HI.out.reg a.ex W F xa xc (xY HI.out.xs hq (fun _ _ h=>h)) (((HM0.out.1.zM.each i _ _ hH (xL HI.out.hi)).2.1.keeps hq (fun _ _ h=>h)).src) (Ac.zDU HI.out.may (by have:=HK.out;omega))
 rw [hrv] at HV yr;generalize hval:a.ex.val (m.get i).regs=val at HV;have HVAL:=yB hval;generalize (m.get i).regs.length=zv at HV yr;clear hrv hval hH;go_upto_region 7 with fail
 refine zHh 8 0 (by kernel_rfl) [some (.pointer (some ⟨be,0,none⟩)),some (.pointer (some ⟨ba,3,none⟩)),some (.agg #[.int .i64 a.ex.kind, .int .i64 a.ex.num, .string a.ex.nm, .slice xa a.ex.args.length xc]),some (.pointer (some ⟨p.gt,i*3,none⟩)),some (.pointer (some ⟨p.gt,i*3,none⟩)),some (.pointer (some ⟨p.gt,i*3+1,none⟩)),some (.slice ra zv rc),some (.int .i64 val)] rfl (fun _ _ _=>False) (fun _ _ _ _ h _=>h) _ rfl (fun _ _ _ _ h=>h) _ rfl (fun _ _ _=>by exact J228 _) ?_ ?_
 ·exact J39 _
 ·intro vs W hR hFF
  have HRW:Keeps zA w1 W:=((zH w1).drew).zB hR;have kW:Keeps zA w0 W:=k1.zB HRW;have e0:vs 0=_:=hFF 0 (by decide);have e7:vs 7=_:=hFF 7 (by decide);simp only [zJ,tz,Option.bind,Act.put];rw [e0,e7];clear hFF e0 e7;go_upto_region 8 with fail
  have D5:=yB ((D0.out.quiet kW).ev3 val);generalize W.setCell ⟨be,3,none⟩ (.int .i64 val)=w5 at D5 ⊢;clear y y5 ye f3 f4;clear yr HRW hR;obtain ⟨T5,H5,M5,x5,q5,E5,t5,s5⟩:=D5.out;have y5:=M5.zA1;have y:=(uA (S:=fun q=>zAh T id q \/ q=be) HRA.out q5 HNB.out).zAI
  have ye:∀ W,Keeps zA w5 W -> W.cell? ⟨be,0,none⟩=some (.int .i64 i) /\ W.cell? ⟨be,3,none⟩=some (.int .i64 val) /\ W.cell? ⟨be,4,none⟩=some (.int .i64 0):=fun W q=>by
   exact J178 _
  have f3:=zK (E5.free (k:=3) (by simp)) ⟨_,E5.cell (k:=3) rfl⟩;have f4:=zK (E5.free (k:=4) (by simp)) ⟨_,E5.cell (k:=4) rfl⟩;have k5:=zH w5;have HM5:=yB (And.intro M5 (And.intro x5 (And.intro q5 (And.intro E5 (And.intro t5 s5)))));have i1:(i:Int) < (m.zM.length:Int):=by have:=HI.out.hi;omega
  generalize hnm:m.zM.length=nm5 at y5 i1;have HNM5:=yB hnm;clear hnm;clear M5 x5 q5 E5 t5 s5;obtain ⟨o1,o2⟩:=zCH HI.out.may (by have:=HK.out;omega);have hlc:a.obj.toNat < m.cells.length:=by rw [HI.out.ok.cells];omega
  obtain ⟨gc,hgc,hrc,hsc⟩:=HM5.out.1.cell zU zAP hlc;have y3:=HM5.out.1.zIu;rw [hgc] at y3;have cc:=zV (hrc.cell (zu m.cells _ hlc));have cf:=zK (hrc.free (k:=a.obj.toNat) (by rw [zAE];exact hlc)) ⟨_,hrc.cell (zu m.cells _ hlc)⟩;have j1:a.obj < (m.cells.length:Int):=by omega
  have eo:((a.obj.toNat:Nat):Int)=a.obj:=by omega
  have HSC:=yB (Do1.step HM5.out.1 HM5.out.2.1 HM5.out.2.2.1 HM5.out.2.2.2.1 HM5.out.2.2.2.2.1 HM5.out.2.2.2.2.2 (hsc val));generalize m.cells.length=zc at y3 j1;clear hgc hrc hlc o2 hsc;go_region
  all_goals (try go_wp2_with fail)
  go_returns
  refine ⟨rfl,?_⟩
  have e:doM u m i a=({ m with cells:=m.cells.set a.obj.toNat (a.ex.val (m.get i).regs) },a.ex.val (m.get i).regs,0):=by
   unfold doM;simp only [if_neg (show ¬ a.kind=2 by have:=HK.out;omega),if_pos HK.out]
  rw [e,HVAL.out];exact J131 _
theorem zOV {w:World} {T:zS} {F:Nat -> Prop} {id b be i:Nat} {u:Un} {p:zAn} {m:zm} {H:List HTh} {a:Ac} {n:Int} {xa ta ea:Option Addr} {xc tc ec:Nat} (h:zEz w T F id b u p be i m H a n xa) (hk:a.kind=4) :
 Calls Tryz.prog 49 #[.pointer (some ⟨b,0,none⟩), .pointer (some ⟨be,0,none⟩), .agg #[.int .i64 a.kind, .int .i64 a.reg, .int .i64 a.obj, .int .i64 a.ex.kind, .int .i64 a.ex.num, .string a.ex.nm, .slice xa a.ex.args.length xc, .int .i64 a.count, .slice ta a.thn.length tc, .slice ea a.els.length ec]] w fun e w'=>e=.returned (.tuple #[]) /\ Do1 w T F id b u p be i (a.kind - 1) a.obj (doM u m i a).1 (doM u m i a).2.1 (doM u m i a).2.2 w':=by
 have HK:=yB hk;have i0:(0:Int) <= i:=by omega
 obtain ⟨ba,w0,e3,e4,RA,KA,_⟩:=newRow w [.int .i64 a.kind, .int .i64 a.reg, .int .i64 a.obj, .int .i64 a.ex.kind, .int .i64 a.ex.num, .string a.ex.nm, .slice xa a.ex.args.length xc, .int .i64 a.count, .slice ta a.thn.length tc, .slice ea a.els.length ec] 68;have HI:=yB (h.zD KA);have HKA:=yB KA
 have HNB:Hid (¬ (zAh T id ba \/ ba=be)):=by
  exact J22 _
 have HRA:=yB RA;clear RA KA h;have D0:=yB HI.out.start;have hk1:a.kind - 1=3:=by omega
 have HK1:=yB hk1;obtain ⟨T0,H0,M0,x0,q0,E0,t0,s0⟩:=D0.out;have y5:=M0.zA1;have y:=(uA (S:=fun q=>zAh T id q \/ q=be) HRA.out q0 HNB.out).zAI
 have ye:∀ W,Keeps zA w0 W -> W.cell? ⟨be,0,none⟩=some (.int .i64 i) /\ W.cell? ⟨be,3,none⟩=some (.int .i64 0) /\ W.cell? ⟨be,4,none⟩=some (.int .i64 0) /\ W.cell? ⟨be,1,none⟩=some (.int .i64 3):=fun W q=>by
  exact J162 _
 have f3:=zK (E0.free (k:=3) (by simp)) ⟨_,E0.cell (k:=3) rfl⟩;have f4:=zK (E0.free (k:=4) (by simp)) ⟨_,E0.cell (k:=4) rfl⟩;have k0:=zH w0;have HM0:=yB (And.intro M0 (And.intro x0 (And.intro q0 (And.intro E0 (And.intro t0 s0)))));have i1:(i:Int) < (m.zM.length:Int):=by have:=HI.out.hi;omega
 generalize hnm:m.zM.length=nm0 at y5 i1;have HNM0:=yB hnm;clear hnm;clear M0 x0 q0 E0 t0 s0;clear hk hk1;go_enter Tryz.func49,yo
 go_upto_region 1 with fail
 try rw [e3]
 try rw [e4]
 clear e3 e4;go_quiet (fail)
 rename_i nq
 obtain ⟨w1,hz⟩:=eX (w0.drewN nq);rw [<- hz];have k1:Keeps zA w0 w1:=by rw [hz];exact k0.drewN _
 clear hz;obtain ⟨rv,fv,hH,hrw,_⟩:=HM0.out.1.zM.get (xL HI.out.hi);obtain ⟨ra,rc,hrv,_⟩:=hrw;have yr:=zV (zAA HM0.out.1.zM.row hH).2.1
 have HV:Ret w0 78 #[.agg #[.int .i64 a.ex.kind, .int .i64 a.ex.num, .string a.ex.nm, .slice xa a.ex.args.length xc],rv] (.int .i64 (a.ex.val (m.get i).regs)):=fun W hq =>
  zEw (m.get i).regs n _ HI.out.reg a.ex W F xa xc (xY HI.out.xs hq (fun _ _ h=>h)) (((HM0.out.1.zM.each i _ _ hH (xL HI.out.hi)).2.1.keeps hq (fun _ _ h=>h)).src) (Ac.zDU HI.out.may (by have:=HK.out;omega))
 rw [hrv] at HV yr;generalize hval:a.ex.val (m.get i).regs=val at HV;have HVAL:=yB hval;generalize (m.get i).regs.length=zv at HV yr;clear hrv hval hH;obtain ⟨o1,o2⟩:=zCH HI.out.may (by have:=HK.out;omega);have hlc:a.obj.toNat < m.cells.length:=by rw [HI.out.ok.cells];omega
 obtain ⟨gc,hgc,hrc,hsc⟩:=HM0.out.1.cell zU zAP hlc;have y3:=HM0.out.1.zIu;rw [hgc] at y3;have cc:=zV (hrc.cell (zu m.cells _ hlc));have cf:=zK (hrc.free (k:=a.obj.toNat) (by rw [zAE];exact hlc)) ⟨_,hrc.cell (zu m.cells _ hlc)⟩;have j1:a.obj < (m.cells.length:Int):=by omega
 have eo:((a.obj.toNat:Nat):Int)=a.obj:=by omega
 generalize m.cells.length=zc at y3 j1;clear hgc hrc hlc o2 hsc;generalize hcv:m.cells.getD a.obj.toNat 0=cv at cc;have HCV:=yB hcv;clear hcv;go_upto_region 10 with fail
 refine zFv 7 (by kernel_rfl) [some (.pointer (some ⟨ba,3,none⟩)),some (.agg #[.int .i64 a.ex.kind, .int .i64 a.ex.num, .string a.ex.nm, .slice xa a.ex.args.length xc]),some (.pointer (some ⟨p.gt,i*3,none⟩)),some (.pointer (some ⟨p.gt,i*3,none⟩)),some (.pointer (some ⟨p.gt,i*3+1,none⟩)),some (.slice ra zv rc),some (.int .i64 val)] rfl (fun _ _ _=>False) (fun _ _ _ _ h _=>h) ?_ ?_
 ·refine ⟨?_,?_,?_,?_,?_,?_,?_,trivial⟩ <;> (intro vs gs W Q' hR hd hK;have HRW:Keeps zA w1 W:=((zH w1).drew).zB hR;have kW:Keeps zA w0 W:=k1.zB HRW;simp only [zEU,zCi,zGO,zJ,tz,Option.bind,Act.put] at hd hK ⊢;try simp only [hd] at hK ⊢)
  all_goals try (try clear hd;go_wp2_with (go_at_call 78;refine HV.call kW ?_;intro w6 _ g6);first | exact hK _ _ (yC _ _) rfl | exact hK _ _ (by assumption) rfl)
 ·intro vs W hR hFF
  have HRW:Keeps zA w1 W:=((zH w1).drew).zB hR;have kW:Keeps zA w0 W:=k1.zB HRW;have e6:vs 6=_:=hFF 6 (by decide);simp only [zJ,tz,Option.bind,Act.put];rw [e6];clear hFF e6;clear yr;go_upto_region 11 with fail
  go_region
  all_goals (try go_upto_region 12 with fail)
  have D5:=yB (((D0.out.quiet kW).ev3 cv).quiet ((zH _).drew));generalize (W.setCell ⟨be,3,none⟩ (.int .i64 cv)).drew=w5 at D5 ⊢;clear y y5 ye f3 f4;clear y3 cc cf HRW hR;obtain ⟨T5,H5,M5,x5,q5,E5,t5,s5⟩:=D5.out;have y5:=M5.zA1;have y:=(uA (S:=fun q=>zAh T id q \/ q=be) HRA.out q5 HNB.out).zAI
  have ye:∀ W,Keeps zA w5 W -> W.cell? ⟨be,0,none⟩=some (.int .i64 i) /\ W.cell? ⟨be,3,none⟩=some (.int .i64 cv) /\ W.cell? ⟨be,4,none⟩=some (.int .i64 0):=fun W q=>by
   exact J178 _
  have f3:=zK (E5.free (k:=3) (by simp)) ⟨_,E5.cell (k:=3) rfl⟩;have f4:=zK (E5.free (k:=4) (by simp)) ⟨_,E5.cell (k:=4) rfl⟩;have k5:=zH w5;have HM5:=yB (And.intro M5 (And.intro x5 (And.intro q5 (And.intro E5 (And.intro t5 s5)))));have i1:(i:Int) < (m.zM.length:Int):=by have:=HI.out.hi;omega
  generalize hnm:m.zM.length=nm5 at y5 i1;have HNM5:=yB hnm;clear hnm;clear M5 x5 q5 E5 t5 s5;obtain ⟨r0,r1⟩:=Ac.zDw HI.out.may (by have:=HK.out;omega);have hlr:a.reg.toNat < (m.get i).regs.length:=by rw [HI.out.reg];omega
  obtain ⟨gr,rc,yr,rr,hset⟩:=HM5.out.1.reg HI.out.hi hlr;have rcell:=zV (rr.cell (zu (m.get i).regs _ hlr));have rfree:=zK (rr.free (k:=a.reg.toNat) (by rw [zAE];exact hlr)) ⟨_,rr.cell (zu (m.get i).regs _ hlr)⟩;have j2:a.reg < ((m.get i).regs.length:Int):=by omega
  have er:((a.reg.toNat:Nat):Int)=a.reg:=by omega
  have HSR:=yB (Do1.step HM5.out.1 HM5.out.2.1 HM5.out.2.2.1 HM5.out.2.2.2.1 HM5.out.2.2.2.2.1 HM5.out.2.2.2.2.2 (hset cv));generalize (m.get i).regs.length=zr at yr j2;clear rr hset hlr r1;go_region
  all_goals (try go_upto_region 13 with fail)
  have D6:=yB (HSR.out.quiet ((zH _).drew));generalize (w5.setCell ⟨gr,a.reg.toNat,none⟩ (.int .i64 cv)).drew=w6 at D6 ⊢;clear y y5 ye f3 f4;clear yr rcell rfree k5;obtain ⟨T6,H6,M6,x6,q6,E6,t6,s6⟩:=D6.out;have y5:=M6.zA1;have y:=(uA (S:=fun q=>zAh T id q \/ q=be) HRA.out q6 HNB.out).zAI
  have ye:∀ W,Keeps zA w6 W -> W.cell? ⟨be,0,none⟩=some (.int .i64 i) /\ W.cell? ⟨be,3,none⟩=some (.int .i64 cv) /\ W.cell? ⟨be,4,none⟩=some (.int .i64 0):=fun W q=>by
   have e:=E6.keeps q (fun h=>h);exact J45 _
  have f3:=zK (E6.free (k:=3) (by simp)) ⟨_,E6.cell (k:=3) rfl⟩;have f4:=zK (E6.free (k:=4) (by simp)) ⟨_,E6.cell (k:=4) rfl⟩;have k6:=zH w6;have HM6:=yB (And.intro M6 (And.intro x6 (And.intro q6 (And.intro E6 (And.intro t6 s6)))));rw [zm.zBC] at y5;have i1:(i:Int) < (m.zM.length:Int):=by have:=HI.out.hi;omega
  generalize hnm:m.zM.length=nm6 at y5 i1;have HNM6:=yB hnm;clear hnm;clear M6 x6 q6 E6 t6 s6;obtain ⟨gc6,hgc6,hrc6,hsc6⟩:=HM6.out.1.cell zU zAP (k:=a.obj.toNat) (show a.obj.toNat < m.cells.length by have:=(zCH HI.out.may (by have:=HK.out;omega)).2;rw [HI.out.ok.cells];omega);have y3:=HM6.out.1.zIu;rw [hgc6] at y3;have hlc6:a.obj.toNat < m.cells.length:=by rw [HI.out.ok.cells];have:=(zCH HI.out.may (by have:=HK.out;omega)).2;omega
  have cc:=zV (hrc6.cell (zu m.cells _ hlc6));have cf:=zK (hrc6.free (k:=a.obj.toNat) (by rw [zAE];exact hlc6)) ⟨_,hrc6.cell (zu m.cells _ hlc6)⟩;have j3:a.obj < (m.cells.length:Int):=by omega
  replace y3:∀ W,Keeps zA w6 W -> W.cell? ⟨b,3,none⟩=some (.slice (some ⟨gc6,0,none⟩) m.cells.length p.ccap):=y3
  replace cc:∀ W,Keeps zA w6 W -> W.cell? ⟨gc6,a.obj.toNat,none⟩=some (.int .i64 (m.cells.getD a.obj.toNat 0)):=cc
  rw [HCV.out] at cc;have HSC:=yB (Do1.step HM6.out.1 HM6.out.2.1 HM6.out.2.2.1 HM6.out.2.2.2.1 HM6.out.2.2.2.2.1 HM6.out.2.2.2.2.2 (hsc6 (w64 (cv+val))));have HSC:Hid (Do1 w0 T F id b u p be i (a.kind - 1) a.obj ⟨m.cells.set a.obj.toNat (w64 (cv+val)),m.owners,m.zM.set i { m.get i with regs:=(m.get i).regs.set a.reg.toNat cv }⟩ cv 0 (w6.setCell ⟨gc6,a.obj.toNat,none⟩ (.int .i64 (w64 (cv+val))))):=HSC.out;generalize m.cells.length=zc6 at y3 j3;clear hgc6 hrc6 hsc6 hlc6;go_region
  all_goals (try go_wp2_with fail)
  go_returns
  refine ⟨rfl,?_⟩
  have e:doM u m i a=(⟨m.cells.set a.obj.toNat (w64 (m.cells.getD a.obj.toNat 0+a.ex.val (m.get i).regs)),m.owners,m.zM.set i { m.get i with regs:=(m.get i).regs.set a.reg.toNat (m.cells.getD a.obj.toNat 0) }⟩,m.cells.getD a.obj.toNat 0,0):=by
   exact J113 _
  rw [e,HCV.out,HVAL.out];exact J131 _
theorem zOd {w:World} {T:zS} {F:Nat -> Prop} {id b be i:Nat} {u:Un} {p:zAn} {m:zm} {H:List HTh} {a:Ac} {n:Int} {xa ta ea:Option Addr} {xc tc ec:Nat} (h:zEz w T F id b u p be i m H a n xa) (hk:a.kind=5) :
 Calls Tryz.prog 49 #[.pointer (some ⟨b,0,none⟩), .pointer (some ⟨be,0,none⟩), .agg #[.int .i64 a.kind, .int .i64 a.reg, .int .i64 a.obj, .int .i64 a.ex.kind, .int .i64 a.ex.num, .string a.ex.nm, .slice xa a.ex.args.length xc, .int .i64 a.count, .slice ta a.thn.length tc, .slice ea a.els.length ec]] w fun e w'=>e=.returned (.tuple #[]) /\ Do1 w T F id b u p be i (a.kind - 1) a.obj (doM u m i a).1 (doM u m i a).2.1 (doM u m i a).2.2 w':=by
 have HK:=yB hk;have i0:(0:Int) <= i:=by omega
 obtain ⟨ba,w0,e3,e4,RA,KA,_⟩:=newRow w [.int .i64 a.kind, .int .i64 a.reg, .int .i64 a.obj, .int .i64 a.ex.kind, .int .i64 a.ex.num, .string a.ex.nm, .slice xa a.ex.args.length xc, .int .i64 a.count, .slice ta a.thn.length tc, .slice ea a.els.length ec] 68;have HI:=yB (h.zD KA);have HKA:=yB KA
 have HNB:Hid (¬ (zAh T id ba \/ ba=be)):=by
  exact J22 _
 have HRA:=yB RA;clear RA KA h;have D0:=yB HI.out.start;have hk1:a.kind - 1=4:=by omega
 have HK1:=yB hk1;obtain ⟨T0,H0,M0,x0,q0,E0,t0,s0⟩:=D0.out;have y5:=M0.zA1;have y:=(uA (S:=fun q=>zAh T id q \/ q=be) HRA.out q0 HNB.out).zAI
 have ye:∀ W,Keeps zA w0 W -> W.cell? ⟨be,0,none⟩=some (.int .i64 i) /\ W.cell? ⟨be,3,none⟩=some (.int .i64 0) /\ W.cell? ⟨be,4,none⟩=some (.int .i64 0) /\ W.cell? ⟨be,1,none⟩=some (.int .i64 4):=fun W q=>by
  exact J162 _
 have f3:=zK (E0.free (k:=3) (by simp)) ⟨_,E0.cell (k:=3) rfl⟩;have f4:=zK (E0.free (k:=4) (by simp)) ⟨_,E0.cell (k:=4) rfl⟩;have k0:=zH w0;have HM0:=yB (And.intro M0 (And.intro x0 (And.intro q0 (And.intro E0 (And.intro t0 s0)))));have i1:(i:Int) < (m.zM.length:Int):=by have:=HI.out.hi;omega
 generalize hnm:m.zM.length=nm0 at y5 i1;have HNM0:=yB hnm;clear hnm;clear M0 x0 q0 E0 t0 s0;clear hk hk1;go_enter Tryz.func49,yo
 go_upto_region 1 with fail
 try rw [e3]
 try rw [e4]
 clear e3 e4;go_quiet (fail)
 rename_i nq
 obtain ⟨w1,hz⟩:=eX (w0.drewN nq);rw [<- hz];have k1:Keeps zA w0 w1:=by rw [hz];exact k0.drewN _
 clear hz;have D1:=yB (D0.out.quiet k1);clear y y5 ye f3 f4 k1 k0;obtain ⟨T1,H1,M1,x1,q1,E1,t1,s1⟩:=D1.out;have y5:=M1.zA1;have y:=(uA (S:=fun q=>zAh T id q \/ q=be) HRA.out q1 HNB.out).zAI
 have ye:∀ W,Keeps zA w1 W -> W.cell? ⟨be,0,none⟩=some (.int .i64 i) /\ W.cell? ⟨be,3,none⟩=some (.int .i64 0) /\ W.cell? ⟨be,4,none⟩=some (.int .i64 0) /\ W.cell? ⟨be,1,none⟩=some (.int .i64 4):=fun W q=>by
  exact J179 _
 have f3:=zK (E1.free (k:=3) (by simp)) ⟨_,E1.cell (k:=3) rfl⟩;have f4:=zK (E1.free (k:=4) (by simp)) ⟨_,E1.cell (k:=4) rfl⟩;have k1:=zH w1;have HM1:=yB (And.intro M1 (And.intro x1 (And.intro q1 (And.intro E1 (And.intro t1 s1)))));have i1:(i:Int) < (m.zM.length:Int):=by have:=HI.out.hi;omega
 generalize hnm:m.zM.length=nm1 at y5 i1;have HNM1:=yB hnm;clear hnm;clear M1 x1 q1 E1 t1 s1;obtain ⟨o1,o2⟩:=zC3 HI.out.may (by have:=HK.out;omega);have hlc:a.obj.toNat < m.owners.length:=by rw [HI.out.ok.owners];omega
 have HLC:=yB hlc;obtain ⟨gc,hgc,hrc,_⟩:=HM1.out.1.owner zU zAP hlc;have y4:=HM1.out.1.zIm;rw [hgc] at y4;have HGC:=yB hgc;have cc:=zV (hrc.cell (zu m.owners _ hlc));have cf:=zK (hrc.free (k:=a.obj.toNat) (by rw [zAE];exact hlc)) ⟨_,hrc.cell (zu m.owners _ hlc)⟩;have j1:a.obj < (m.owners.length:Int):=by omega
 have eo:((a.obj.toNat:Nat):Int)=a.obj:=by omega
 generalize m.owners.length=zc at y4 j1;generalize hov:m.owners.getD a.obj.toNat 0=ov at cc;have HOV:=yB hov;clear hgc hrc hlc o2 hov
 have HSC:Hid (Do1 w0 T F id b u p be i (a.kind - 1) a.obj { m with owners:=m.owners.set a.obj.toNat i } 0 0 (w1.setCell ⟨gc,a.obj.toNat,none⟩ (.int .i64 i))):=by
  obtain ⟨g2,hg2,_,hs2⟩:=HM1.out.1.owner zU zAP HLC.out
  have e2:g2=gc:=by
   have:=hg2.symm.trans HGC.out
   simpa using this
  subst e2;exact Do1.step HM1.out.1 HM1.out.2.1 HM1.out.2.2.1 HM1.out.2.2.2.1 HM1.out.2.2.2.2.1 HM1.out.2.2.2.2.2 (hs2 i)
 go_upto_region 15 with fail
 go_region
 all_goals (try go_wp2_with fail)
 go_returns
 refine ⟨rfl,?_⟩
 have e:doM u m i a=({ m with owners:=m.owners.set a.obj.toNat i },0,0):=by
  exact J85 _
 rw [e];exact (HSC.out.quiet ((zH _).drew)).before HKA.out
theorem zOh {w:World} {T:zS} {F:Nat -> Prop} {id b be i:Nat} {u:Un} {p:zAn} {m:zm} {H:List HTh} {a:Ac} {n:Int} {xa ta ea:Option Addr} {xc tc ec:Nat} (h:zEz w T F id b u p be i m H a n xa) (hk:a.kind=6) :
 Calls Tryz.prog 49 #[.pointer (some ⟨b,0,none⟩), .pointer (some ⟨be,0,none⟩), .agg #[.int .i64 a.kind, .int .i64 a.reg, .int .i64 a.obj, .int .i64 a.ex.kind, .int .i64 a.ex.num, .string a.ex.nm, .slice xa a.ex.args.length xc, .int .i64 a.count, .slice ta a.thn.length tc, .slice ea a.els.length ec]] w fun e w'=>e=.returned (.tuple #[]) /\ Do1 w T F id b u p be i (a.kind - 1) a.obj (doM u m i a).1 (doM u m i a).2.1 (doM u m i a).2.2 w':=by
 have HK:=yB hk;have i0:(0:Int) <= i:=by omega
 obtain ⟨ba,w0,e3,e4,RA,KA,_⟩:=newRow w [.int .i64 a.kind, .int .i64 a.reg, .int .i64 a.obj, .int .i64 a.ex.kind, .int .i64 a.ex.num, .string a.ex.nm, .slice xa a.ex.args.length xc, .int .i64 a.count, .slice ta a.thn.length tc, .slice ea a.els.length ec] 68;have HI:=yB (h.zD KA);have HKA:=yB KA
 have HNB:Hid (¬ (zAh T id ba \/ ba=be)):=by
  exact J22 _
 have HRA:=yB RA;clear RA KA h;have D0:=yB HI.out.start;have hk1:a.kind - 1=5:=by omega
 have HK1:=yB hk1;obtain ⟨T0,H0,M0,x0,q0,E0,t0,s0⟩:=D0.out;have y5:=M0.zA1;have y:=(uA (S:=fun q=>zAh T id q \/ q=be) HRA.out q0 HNB.out).zAI
 have ye:∀ W,Keeps zA w0 W -> W.cell? ⟨be,0,none⟩=some (.int .i64 i) /\ W.cell? ⟨be,3,none⟩=some (.int .i64 0) /\ W.cell? ⟨be,4,none⟩=some (.int .i64 0) /\ W.cell? ⟨be,1,none⟩=some (.int .i64 5):=fun W q=>by
  exact J162 _
 have f3:=zK (E0.free (k:=3) (by simp)) ⟨_,E0.cell (k:=3) rfl⟩;have f4:=zK (E0.free (k:=4) (by simp)) ⟨_,E0.cell (k:=4) rfl⟩;have k0:=zH w0;have HM0:=yB (And.intro M0 (And.intro x0 (And.intro q0 (And.intro E0 (And.intro t0 s0)))));have i1:(i:Int) < (m.zM.length:Int):=by have:=HI.out.hi;omega
 generalize hnm:m.zM.length=nm0 at y5 i1;have HNM0:=yB hnm;clear hnm;clear M0 x0 q0 E0 t0 s0;clear hk hk1;go_enter Tryz.func49,yo
 go_upto_region 1 with fail
 try rw [e3]
 try rw [e4]
 clear e3 e4;go_quiet (fail)
 rename_i nq
 obtain ⟨w1,hz⟩:=eX (w0.drewN nq);rw [<- hz];have k1:Keeps zA w0 w1:=by rw [hz];exact k0.drewN _
 clear hz;have D1:=yB (D0.out.quiet k1);clear y y5 ye f3 f4 k1 k0;obtain ⟨T1,H1,M1,x1,q1,E1,t1,s1⟩:=D1.out;have y5:=M1.zA1;have y:=(uA (S:=fun q=>zAh T id q \/ q=be) HRA.out q1 HNB.out).zAI
 have ye:∀ W,Keeps zA w1 W -> W.cell? ⟨be,0,none⟩=some (.int .i64 i) /\ W.cell? ⟨be,3,none⟩=some (.int .i64 0) /\ W.cell? ⟨be,4,none⟩=some (.int .i64 0) /\ W.cell? ⟨be,1,none⟩=some (.int .i64 5):=fun W q=>by
  exact J179 _
 have f3:=zK (E1.free (k:=3) (by simp)) ⟨_,E1.cell (k:=3) rfl⟩;have f4:=zK (E1.free (k:=4) (by simp)) ⟨_,E1.cell (k:=4) rfl⟩;have k1:=zH w1;have HM1:=yB (And.intro M1 (And.intro x1 (And.intro q1 (And.intro E1 (And.intro t1 s1)))));have i1:(i:Int) < (m.zM.length:Int):=by have:=HI.out.hi;omega
 generalize hnm:m.zM.length=nm1 at y5 i1;have HNM1:=yB hnm;clear hnm;clear M1 x1 q1 E1 t1 s1;obtain ⟨o1,o2⟩:=zC3 HI.out.may (by have:=HK.out;omega);have hlc:a.obj.toNat < m.owners.length:=by rw [HI.out.ok.owners];omega
 have HLC:=yB hlc;obtain ⟨gc,hgc,hrc,_⟩:=HM1.out.1.owner zU zAP hlc;have y4:=HM1.out.1.zIm;rw [hgc] at y4;have HGC:=yB hgc;have cc:=zV (hrc.cell (zu m.owners _ hlc));have cf:=zK (hrc.free (k:=a.obj.toNat) (by rw [zAE];exact hlc)) ⟨_,hrc.cell (zu m.owners _ hlc)⟩;have j1:a.obj < (m.owners.length:Int):=by omega
 have eo:((a.obj.toNat:Nat):Int)=a.obj:=by omega
 generalize m.owners.length=zc at y4 j1;generalize hov:m.owners.getD a.obj.toNat 0=ov at cc;have HOV:=yB hov;clear hgc hrc hlc o2 hov;go_upto_region 17 with fail
 go_quiet (fail)
 rename_i nq
 obtain ⟨w2,hz⟩:=eX (w1.drewN nq);rw [<- hz];have kq:Keeps zA w1 w2:=by rw [hz];exact k1.drewN _
 clear hz;by_cases how:ov=i
 ·have hb:(ov != (i:Int))=false:=by rw [how];simp
  have D2:=yB (D1.out.quiet kq);clear y ye f3 f4 y5 k1;obtain ⟨T2,H2,M2,x2,q2,E2,t2,s2⟩:=D2.out;have y5:=M2.zA1;have y:=(uA (S:=fun q=>zAh T id q \/ q=be) HRA.out q2 HNB.out).zAI
  have ye:∀ W,Keeps zA w2 W -> W.cell? ⟨be,0,none⟩=some (.int .i64 i) /\ W.cell? ⟨be,3,none⟩=some (.int .i64 0) /\ W.cell? ⟨be,4,none⟩=some (.int .i64 0):=fun W q=>by
   have e:=E2.keeps q (fun h=>h);exact J45 _
  have f3:=zK (E2.free (k:=3) (by simp)) ⟨_,E2.cell (k:=3) rfl⟩;have f4:=zK (E2.free (k:=4) (by simp)) ⟨_,E2.cell (k:=4) rfl⟩;have k2:=zH w2;have HM2:=yB (And.intro M2 (And.intro x2 (And.intro q2 (And.intro E2 (And.intro t2 s2)))));have i1:(i:Int) < (m.zM.length:Int):=by have:=HI.out.hi;omega
  generalize hnm:m.zM.length=nm2 at y5 i1;have HNM2:=yB hnm;clear hnm;clear M2 x2 q2 E2 t2 s2
  have HSC:Hid (Do1 w0 T F id b u p be i (a.kind - 1) a.obj { m with owners:=m.owners.set a.obj.toNat (-1) } 0 0 (w2.setCell ⟨gc,a.obj.toNat,none⟩ (.int .i64 (-1)))):=by
   obtain ⟨g2,hg2,_,hs2⟩:=HM2.out.1.owner zU zAP HLC.out
   have e2:g2=gc:=by
    have:=hg2.symm.trans HGC.out
    simpa using this
   subst e2;exact Do1.step HM2.out.1 HM2.out.2.1 HM2.out.2.2.1 HM2.out.2.2.2.1 HM2.out.2.2.2.2.1 HM2.out.2.2.2.2.2 (hs2 (-1))
  replace y4:=fun W (q:Keeps zA w2 W)=>y4 W (kq.zB q)
  replace cc:=fun W (q:Keeps zA w2 W)=>cc W (kq.zB q)
  replace cf:=fun W (q:Keeps zA w2 W)=>cf W (kq.zB q)
  clear kq;go_upto_region 19 with fail
  go_region
  all_goals (try go_wp2_with fail)
  go_returns
  refine ⟨rfl,?_⟩
  have e:doM u m i a=({ m with owners:=m.owners.set a.obj.toNat (-1) },0,0):=by
   exact J68 _
  rw [e];exact J131 _
 ·have hb:(ov != (i:Int))=true:=uE.2 how
  go_wp2_with fail
  go_returns
  refine ⟨rfl,?_⟩
  have e:doM u m i a=(m,0,2):=by
   exact J54 _
  rw [e];exact ((D1.out.quiet kq).ev4 2).before HKA.out
theorem zOJ {w:World} {T:zS} {F:Nat -> Prop} {id b be i:Nat} {u:Un} {p:zAn} {m:zm} {H:List HTh} {a:Ac} {n:Int} {xa ta ea:Option Addr} {xc tc ec:Nat} (h:zEz w T F id b u p be i m H a n xa) (hk:a.kind=7) :
 Calls Tryz.prog 49 #[.pointer (some ⟨b,0,none⟩), .pointer (some ⟨be,0,none⟩), .agg #[.int .i64 a.kind, .int .i64 a.reg, .int .i64 a.obj, .int .i64 a.ex.kind, .int .i64 a.ex.num, .string a.ex.nm, .slice xa a.ex.args.length xc, .int .i64 a.count, .slice ta a.thn.length tc, .slice ea a.els.length ec]] w fun e w'=>e=.returned (.tuple #[]) /\ Do1 w T F id b u p be i (a.kind - 1) a.obj (doM u m i a).1 (doM u m i a).2.1 (doM u m i a).2.2 w':=by
 have HK:=yB hk;have i0:(0:Int) <= i:=by omega
 obtain ⟨ba,w0,e3,e4,RA,KA,_⟩:=newRow w [.int .i64 a.kind, .int .i64 a.reg, .int .i64 a.obj, .int .i64 a.ex.kind, .int .i64 a.ex.num, .string a.ex.nm, .slice xa a.ex.args.length xc, .int .i64 a.count, .slice ta a.thn.length tc, .slice ea a.els.length ec] 68;have HI:=yB (h.zD KA);have HKA:=yB KA
 have HNB:Hid (¬ (zAh T id ba \/ ba=be)):=by
  exact J22 _
 have HRA:=yB RA;clear RA KA h;have D0:=yB HI.out.start;have hk1:a.kind - 1=6:=by omega
 have HK1:=yB hk1;obtain ⟨T0,H0,M0,x0,q0,E0,t0,s0⟩:=D0.out;have y5:=M0.zA1;have y:=(uA (S:=fun q=>zAh T id q \/ q=be) HRA.out q0 HNB.out).zAI
 have ye:∀ W,Keeps zA w0 W -> W.cell? ⟨be,0,none⟩=some (.int .i64 i) /\ W.cell? ⟨be,3,none⟩=some (.int .i64 0) /\ W.cell? ⟨be,4,none⟩=some (.int .i64 0) /\ W.cell? ⟨be,1,none⟩=some (.int .i64 6):=fun W q=>by
  exact J162 _
 have f3:=zK (E0.free (k:=3) (by simp)) ⟨_,E0.cell (k:=3) rfl⟩;have f4:=zK (E0.free (k:=4) (by simp)) ⟨_,E0.cell (k:=4) rfl⟩;have k0:=zH w0;have HM0:=yB (And.intro M0 (And.intro x0 (And.intro q0 (And.intro E0 (And.intro t0 s0)))));have i1:(i:Int) < (m.zM.length:Int):=by have:=HI.out.hi;omega
 generalize hnm:m.zM.length=nm0 at y5 i1;have HNM0:=yB hnm;clear hnm;clear M0 x0 q0 E0 t0 s0;clear hk hk1;go_enter Tryz.func49,yo
 go_upto_region 1 with fail
 try rw [e3]
 try rw [e4]
 clear e3 e4;go_quiet (fail)
 rename_i nq
 obtain ⟨w1,hz⟩:=eX (w0.drewN nq);rw [<- hz];have k1:Keeps zA w0 w1:=by rw [hz];exact k0.drewN _
 clear hz;have D1:=yB (D0.out.quiet k1);clear y y5 ye f3 f4 k1 k0;obtain ⟨T1,H1,M1,x1,q1,E1,t1,s1⟩:=D1.out;have y5:=M1.zA1;have y:=(uA (S:=fun q=>zAh T id q \/ q=be) HRA.out q1 HNB.out).zAI
 have ye:∀ W,Keeps zA w1 W -> W.cell? ⟨be,0,none⟩=some (.int .i64 i) /\ W.cell? ⟨be,3,none⟩=some (.int .i64 0) /\ W.cell? ⟨be,4,none⟩=some (.int .i64 0) /\ W.cell? ⟨be,1,none⟩=some (.int .i64 6):=fun W q=>by
  exact J179 _
 have f3:=zK (E1.free (k:=3) (by simp)) ⟨_,E1.cell (k:=3) rfl⟩;have f4:=zK (E1.free (k:=4) (by simp)) ⟨_,E1.cell (k:=4) rfl⟩;have k1:=zH w1;have HM1:=yB (And.intro M1 (And.intro x1 (And.intro q1 (And.intro E1 (And.intro t1 s1)))));have i1:(i:Int) < (m.zM.length:Int):=by have:=HI.out.hi;omega
 generalize hnm:m.zM.length=nm1 at y5 i1;have HNM1:=yB hnm;clear hnm;clear M1 x1 q1 E1 t1 s1;obtain ⟨o1,o2⟩:=zDD HI.out.may (by have:=HK.out;omega);have hlt:a.obj.toNat < m.zM.length:=by rw [HI.out.ok.zM];omega
 have HLT:=yB hlt;have ts:=HM1.out.1.st hlt;have j1:a.obj < (m.zM.length:Int):=by omega
 have eo:((a.obj.toNat:Nat):Int)=a.obj:=by omega
 rw [HNM1.out] at j1;generalize hst:(m.get a.obj.toNat).st=s at ts;have HST:=yB hst;clear hst hlt o2;go_upto_region 21 with fail
 go_quiet (fail)
 rename_i nq
 obtain ⟨w2,hz⟩:=eX (w1.drewN nq);rw [<- hz];have kq:Keeps zA w1 w2:=by rw [hz];exact k1.drewN _
 clear hz;by_cases how:s=1
 ·have hb:(s != 1)=false:=by rw [how];rfl
  have D2:=yB (D1.out.quiet kq);clear y ye f3 f4 y5 k1;obtain ⟨T2,H2,M2,x2,q2,E2,t2,s2⟩:=D2.out;have y5:=M2.zA1;have y:=(uA (S:=fun q=>zAh T id q \/ q=be) HRA.out q2 HNB.out).zAI
  have ye:∀ W,Keeps zA w2 W -> W.cell? ⟨be,0,none⟩=some (.int .i64 i) /\ W.cell? ⟨be,3,none⟩=some (.int .i64 0) /\ W.cell? ⟨be,4,none⟩=some (.int .i64 0):=fun W q=>by
   have e:=E2.keeps q (fun h=>h);exact J45 _
  have f3:=zK (E2.free (k:=3) (by simp)) ⟨_,E2.cell (k:=3) rfl⟩;have f4:=zK (E2.free (k:=4) (by simp)) ⟨_,E2.cell (k:=4) rfl⟩;have k2:=zH w2;have HM2:=yB (And.intro M2 (And.intro x2 (And.intro q2 (And.intro E2 (And.intro t2 s2)))));have i1:(i:Int) < (m.zM.length:Int):=by have:=HI.out.hi;omega
  generalize hnm:m.zM.length=nm2 at y5 i1;have HNM2:=yB hnm;clear hnm;clear M2 x2 q2 E2 t2 s2;have HBG:=zGW HM2.out.1 HI.out.right HI.out.ok HLT.out;rw [eo] at HBG;have HBH:=yB HBG;clear kq HBG;go_wp2_with (go_at_call 34;refine HBH.out.mono ?_;rintro e w3 ⟨rfl,g3⟩;have HW3:=yB g3;clear g3)
  go_returns
  refine ⟨rfl,?_⟩
  have e:doM u m i a=(zEP u m a.obj.toNat,0,0):=by
   exact J55 _
  rw [e];exact (Do1.step HM2.out.1 HM2.out.2.1 HM2.out.2.2.1 HM2.out.2.2.2.1 HM2.out.2.2.2.2.1 HM2.out.2.2.2.2.2 HW3.out).before HKA.out
 ·have hb:(s != 1)=true:=uE.2 how
  go_wp2_with fail
  go_returns
  refine ⟨rfl,?_⟩
  have e:doM u m i a=(m,0,4):=by
   exact J52 _
  rw [e];exact ((D1.out.quiet kq).ev4 4).before HKA.out
theorem zN3 {w:World} {T:zS} {F:Nat -> Prop} {id b be i:Nat} {u:Un} {p:zAn} {m:zm} {H:List HTh} {a:Ac} {n:Int} {xa ta ea:Option Addr} {xc tc ec:Nat} (h:zEz w T F id b u p be i m H a n xa) (hk:a.kind=8) :
 Calls Tryz.prog 49 #[.pointer (some ⟨b,0,none⟩), .pointer (some ⟨be,0,none⟩), .agg #[.int .i64 a.kind, .int .i64 a.reg, .int .i64 a.obj, .int .i64 a.ex.kind, .int .i64 a.ex.num, .string a.ex.nm, .slice xa a.ex.args.length xc, .int .i64 a.count, .slice ta a.thn.length tc, .slice ea a.els.length ec]] w fun e w'=>e=.returned (.tuple #[]) /\ Do1 w T F id b u p be i (a.kind - 1) a.obj (doM u m i a).1 (doM u m i a).2.1 (doM u m i a).2.2 w':=by
 have HK:=yB hk;have i0:(0:Int) <= i:=by omega
 obtain ⟨ba,w0,e3,e4,RA,KA,_⟩:=newRow w [.int .i64 a.kind, .int .i64 a.reg, .int .i64 a.obj, .int .i64 a.ex.kind, .int .i64 a.ex.num, .string a.ex.nm, .slice xa a.ex.args.length xc, .int .i64 a.count, .slice ta a.thn.length tc, .slice ea a.els.length ec] 68;have HI:=yB (h.zD KA);have HKA:=yB KA
 have HNB:Hid (¬ (zAh T id ba \/ ba=be)):=by
  exact J22 _
 have HRA:=yB RA;clear RA KA h;have D0:=yB HI.out.start;have hk1:a.kind - 1=7:=by omega
 have HK1:=yB hk1;obtain ⟨T0,H0,M0,x0,q0,E0,t0,s0⟩:=D0.out;have y5:=M0.zA1;have y:=(uA (S:=fun q=>zAh T id q \/ q=be) HRA.out q0 HNB.out).zAI
 have ye:∀ W,Keeps zA w0 W -> W.cell? ⟨be,0,none⟩=some (.int .i64 i) /\ W.cell? ⟨be,3,none⟩=some (.int .i64 0) /\ W.cell? ⟨be,4,none⟩=some (.int .i64 0) /\ W.cell? ⟨be,1,none⟩=some (.int .i64 7):=fun W q=>by
  exact J162 _
 have f3:=zK (E0.free (k:=3) (by simp)) ⟨_,E0.cell (k:=3) rfl⟩;have f4:=zK (E0.free (k:=4) (by simp)) ⟨_,E0.cell (k:=4) rfl⟩;have k0:=zH w0;have HM0:=yB (And.intro M0 (And.intro x0 (And.intro q0 (And.intro E0 (And.intro t0 s0)))));have i1:(i:Int) < (m.zM.length:Int):=by have:=HI.out.hi;omega
 generalize hnm:m.zM.length=nm0 at y5 i1;have HNM0:=yB hnm;clear hnm;clear M0 x0 q0 E0 t0 s0;clear hk hk1;go_enter Tryz.func49,yo
 go_upto_region 1 with fail
 try rw [e3]
 try rw [e4]
 clear e3 e4;go_quiet (fail)
 rename_i nq
 obtain ⟨w1,hz⟩:=eX (w0.drewN nq);rw [<- hz];have k1:Keeps zA w0 w1:=by rw [hz];exact k0.drewN _
 clear hz;have D1:=yB (D0.out.quiet k1);clear y y5 ye f3 f4 k1 k0;obtain ⟨T1,H1,M1,x1,q1,E1,t1,s1⟩:=D1.out;have y5:=M1.zA1;have y:=(uA (S:=fun q=>zAh T id q \/ q=be) HRA.out q1 HNB.out).zAI
 have ye:∀ W,Keeps zA w1 W -> W.cell? ⟨be,0,none⟩=some (.int .i64 i) /\ W.cell? ⟨be,3,none⟩=some (.int .i64 0) /\ W.cell? ⟨be,4,none⟩=some (.int .i64 0) /\ W.cell? ⟨be,1,none⟩=some (.int .i64 7):=fun W q=>by
  exact J179 _
 have f3:=zK (E1.free (k:=3) (by simp)) ⟨_,E1.cell (k:=3) rfl⟩;have f4:=zK (E1.free (k:=4) (by simp)) ⟨_,E1.cell (k:=4) rfl⟩;have k1:=zH w1;have HM1:=yB (And.intro M1 (And.intro x1 (And.intro q1 (And.intro E1 (And.intro t1 s1)))));have i1:(i:Int) < (m.zM.length:Int):=by have:=HI.out.hi;omega
 generalize hnm:m.zM.length=nm1 at y5 i1;have HNM1:=yB hnm;clear hnm;clear M1 x1 q1 E1 t1 s1;obtain ⟨o1,o2⟩:=zDD HI.out.may (by have:=HK.out;omega);have hlt:a.obj.toNat < m.zM.length:=by rw [HI.out.ok.zM];omega
 have HLT:=yB hlt;have ts:=HM1.out.1.st hlt;have j1:a.obj < (m.zM.length:Int):=by omega
 have eo:((a.obj.toNat:Nat):Int)=a.obj:=by omega
 rw [HNM1.out] at j1;generalize hst:(m.get a.obj.toNat).st=s at ts;have HST:=yB hst;clear hst hlt o2;go_upto_region 25 with fail
 go_quiet (fail)
 rename_i nq
 obtain ⟨w2,hz⟩:=eX (w1.drewN nq);rw [<- hz];have kq:Keeps zA w1 w2:=by rw [hz];exact k1.drewN _
 clear hz;by_cases how:s=1
 ·have hb:(s==1)=true:=by rw [how];rfl
  go_wp2_with fail
  go_returns
  refine ⟨rfl,?_⟩
  have e:doM u m i a=(m,0,3):=by
   exact J51 _
  rw [e];exact ((D1.out.quiet kq).ev4 3).before HKA.out
 ·have hb:(s==1)=false:=yY how
  go_wp2_with fail
  go_returns
  refine ⟨rfl,?_⟩
  have e:doM u m i a=(m,0,0):=by
   exact J44 _
  rw [e];exact (D1.out.quiet kq).before HKA.out
theorem zOe {w:World} {T:zS} {F:Nat -> Prop} {id b be i:Nat} {u:Un} {p:zAn} {m:zm} {H:List HTh} {a:Ac} {n:Int} {xa ta ea:Option Addr} {xc tc ec:Nat} (h:zEz w T F id b u p be i m H a n xa) (hk:a.kind=9) :
 Calls Tryz.prog 49 #[.pointer (some ⟨b,0,none⟩), .pointer (some ⟨be,0,none⟩), .agg #[.int .i64 a.kind, .int .i64 a.reg, .int .i64 a.obj, .int .i64 a.ex.kind, .int .i64 a.ex.num, .string a.ex.nm, .slice xa a.ex.args.length xc, .int .i64 a.count, .slice ta a.thn.length tc, .slice ea a.els.length ec]] w fun e w'=>e=.returned (.tuple #[]) /\ Do1 w T F id b u p be i (a.kind - 1) a.obj (doM u m i a).1 (doM u m i a).2.1 (doM u m i a).2.2 w':=by
 have HK:=yB hk;have i0:(0:Int) <= i:=by omega
 obtain ⟨ba,w0,e3,e4,RA,KA,_⟩:=newRow w [.int .i64 a.kind, .int .i64 a.reg, .int .i64 a.obj, .int .i64 a.ex.kind, .int .i64 a.ex.num, .string a.ex.nm, .slice xa a.ex.args.length xc, .int .i64 a.count, .slice ta a.thn.length tc, .slice ea a.els.length ec] 68;have HI:=yB (h.zD KA);have HKA:=yB KA
 have HNB:Hid (¬ (zAh T id ba \/ ba=be)):=by
  exact J22 _
 have HRA:=yB RA;clear RA KA h;have D0:=yB HI.out.start;have hk1:a.kind - 1=8:=by omega
 have HK1:=yB hk1;obtain ⟨T0,H0,M0,x0,q0,E0,t0,s0⟩:=D0.out;have y5:=M0.zA1;have y:=(uA (S:=fun q=>zAh T id q \/ q=be) HRA.out q0 HNB.out).zAI
 have ye:∀ W,Keeps zA w0 W -> W.cell? ⟨be,0,none⟩=some (.int .i64 i) /\ W.cell? ⟨be,3,none⟩=some (.int .i64 0) /\ W.cell? ⟨be,4,none⟩=some (.int .i64 0) /\ W.cell? ⟨be,1,none⟩=some (.int .i64 8):=fun W q=>by
  exact J162 _
 have f3:=zK (E0.free (k:=3) (by simp)) ⟨_,E0.cell (k:=3) rfl⟩;have f4:=zK (E0.free (k:=4) (by simp)) ⟨_,E0.cell (k:=4) rfl⟩;have k0:=zH w0;have HM0:=yB (And.intro M0 (And.intro x0 (And.intro q0 (And.intro E0 (And.intro t0 s0)))));have i1:(i:Int) < (m.zM.length:Int):=by have:=HI.out.hi;omega
 generalize hnm:m.zM.length=nm0 at y5 i1;have HNM0:=yB hnm;clear hnm;clear M0 x0 q0 E0 t0 s0;clear hk hk1;go_enter Tryz.func49,yo
 go_upto_region 1 with fail
 try rw [e3]
 try rw [e4]
 clear e3 e4;go_quiet (fail)
 rename_i nq
 obtain ⟨w1,hz⟩:=eX (w0.drewN nq);rw [<- hz];have k1:Keeps zA w0 w1:=by rw [hz];exact k0.drewN _
 clear hz;obtain ⟨rv,fv,hH,hrw,_⟩:=HM0.out.1.zM.get (xL HI.out.hi);obtain ⟨ra,rc,hrv,_⟩:=hrw;have yr:=zV (zAA HM0.out.1.zM.row hH).2.1
 have HV:Ret w0 78 #[.agg #[.int .i64 a.ex.kind, .int .i64 a.ex.num, .string a.ex.nm, .slice xa a.ex.args.length xc],rv] (.int .i64 (a.ex.val (m.get i).regs)):=fun W hq =>
  zEw (m.get i).regs n _ HI.out.reg a.ex W F xa xc (xY HI.out.xs hq (fun _ _ h=>h)) (((HM0.out.1.zM.each i _ _ hH (xL HI.out.hi)).2.1.keeps hq (fun _ _ h=>h)).src) (Ac.zDU HI.out.may (by have:=HK.out;omega))
 rw [hrv] at HV yr;generalize hval:a.ex.val (m.get i).regs=val at HV;have HVAL:=yB hval;generalize (m.get i).regs.length=zv at HV yr;clear hrv hval hH;go_upto_region 28 with fail
 refine zHh 8 0 (by kernel_rfl) [some (.pointer (some ⟨be,0,none⟩)),some (.pointer (some ⟨ba,3,none⟩)),some (.agg #[.int .i64 a.ex.kind, .int .i64 a.ex.num, .string a.ex.nm, .slice xa a.ex.args.length xc]),some (.pointer (some ⟨p.gt,i*3,none⟩)),some (.pointer (some ⟨p.gt,i*3,none⟩)),some (.pointer (some ⟨p.gt,i*3+1,none⟩)),some (.slice ra zv rc),some (.int .i64 val)] rfl (fun _ _ _=>False) (fun _ _ _ _ h _=>h) _ rfl (fun _ _ _ _ h=>h) _ rfl (fun _ _ _=>by exact J228 _) ?_ ?_
 ·exact J39 _
 ·intro vs W hR hFF
  have HRW:Keeps zA w1 W:=((zH w1).drew).zB hR;have kW:Keeps zA w0 W:=k1.zB HRW;have e0:vs 0=_:=hFF 0 (by decide);have e7:vs 7=_:=hFF 7 (by decide);simp only [zJ,tz,Option.bind,Act.put];rw [e0,e7];clear hFF e0 e7;go_upto_region 29 with fail
  have D5:=yB ((D0.out.quiet kW).ev3 val);generalize W.setCell ⟨be,3,none⟩ (.int .i64 val)=w5 at D5 ⊢;clear y y5 ye f3 f4;clear yr HRW hR;obtain ⟨T5,H5,M5,x5,q5,E5,t5,s5⟩:=D5.out;have y5:=M5.zA1;have y:=(uA (S:=fun q=>zAh T id q \/ q=be) HRA.out q5 HNB.out).zAI
  have ye:∀ W,Keeps zA w5 W -> W.cell? ⟨be,0,none⟩=some (.int .i64 i) /\ W.cell? ⟨be,3,none⟩=some (.int .i64 val) /\ W.cell? ⟨be,4,none⟩=some (.int .i64 0):=fun W q=>by
   exact J178 _
  have f3:=zK (E5.free (k:=3) (by simp)) ⟨_,E5.cell (k:=3) rfl⟩;have f4:=zK (E5.free (k:=4) (by simp)) ⟨_,E5.cell (k:=4) rfl⟩;have k5:=zH w5;have HM5:=yB (And.intro M5 (And.intro x5 (And.intro q5 (And.intro E5 (And.intro t5 s5)))));have i1:(i:Int) < (m.zM.length:Int):=by have:=HI.out.hi;omega
  generalize hnm:m.zM.length=nm5 at y5 i1;have HNM5:=yB hnm;clear hnm;clear M5 x5 q5 E5 t5 s5
  have e:doM u m i a=(m,a.ex.val (m.get i).regs,if a.ex.val (m.get i).regs=0 then 1 else 0):=by
   exact J30 _
  have HE:=yB e;clear e;by_cases hz:val=0
  ·have hb:(val==0)=true:=by rw [hz];rfl
   go_wp2_with fail
   go_returns
   refine ⟨rfl,?_⟩
   rw [HE.out,HVAL.out,if_pos hz];exact (D5.out.ev4 1).before HKA.out
  ·have hb:(val==0)=false:=yY hz
   go_wp2_with fail
   go_returns
   refine ⟨rfl,?_⟩
   rw [HE.out,HVAL.out,if_neg hz];exact D5.out.before HKA.out
theorem zLg {w:World} {T:zS} {F:Nat -> Prop} {id b be i:Nat} {u:Un} {p:zAn} {m:zm} {H:List HTh} {a:Ac} {n:Int} {xa ta ea:Option Addr} {xc tc ec:Nat} (h:zEz w T F id b u p be i m H a n xa) (hk:2 <= a.kind /\ a.kind <= 9) :
 Calls Tryz.prog 49 #[.pointer (some ⟨b,0,none⟩), .pointer (some ⟨be,0,none⟩), .agg #[.int .i64 a.kind, .int .i64 a.reg, .int .i64 a.obj, .int .i64 a.ex.kind, .int .i64 a.ex.num, .string a.ex.nm, .slice xa a.ex.args.length xc, .int .i64 a.count, .slice ta a.thn.length tc, .slice ea a.els.length ec]] w fun e w'=>e=.returned (.tuple #[]) /\ Do1 w T F id b u p be i (a.kind - 1) a.obj (doM u m i a).1 (doM u m i a).2.1 (doM u m i a).2.2 w':=by
 rcases (show a.kind=2 \/ a.kind=3 \/ a.kind=4 \/ a.kind=5 \/ a.kind=6 \/ a.kind=7 \/ a.kind=8 \/ a.kind=9 by omega) with e | e | e | e | e | e | e | e
 ·exact zOQ h e
 ·exact zOX h e
 ·exact zOV h e
 ·exact zOd h e
 ·exact zOh h e
 ·exact zOJ h e
 ·exact zN3 h e
 ·exact zOe h e
end Go.Proofs.YtfokdllgnblamaaGreatDoor
