/- Layer K: texts joined. -/
import Derived.Test.YtfokdllgnblamaaGreatDoorK44
set_option linter.all false
set_option maxHeartbeats 8000000
set_option maxRecDepth 8000
namespace Go.Proofs.YtfokdllgnblamaaGreatDoor
open Go.RowKit
abbrev yp:=@Go.Proofs.Tryz.ntmps44
theorem J14 (P:Prop) (h:P:=by
 intro q oo hq ho vs W Q' hR hd hK
 have HRW:Keeps zA w0 W:=((zH w0).drew).zB hR;have kW:Keeps zA w0 W:=HRW;rcases (show q=0 \/ q=1 \/ q=2 \/ q=3 \/ q=4 \/ q=5 \/ q=6 by omega) with rfl | rfl | rfl | rfl | rfl | rfl | rfl
 all_goals (simp only [yD,yE,yO] at ho;subst ho;simp only [zJ,yD,yE,yL,Option.bind,Act.put,yF,yG,yH] at hK ⊢;clear hq)
 all_goals try ((try (have e:vs 0=_:=hd 0 (by decide +kernel);rw [e] at hK ⊢;clear e));(try (have e:vs 1=_:=hd 1 (by decide +kernel);rw [e] at hK ⊢;clear e));(try (have e:vs 2=_:=hd 2 (by decide +kernel);rw [e] at hK ⊢;clear e));(try (have e:vs 3=_:=hd 3 (by decide +kernel);rw [e] at hK ⊢;clear e));(try (have e:vs 4=_:=hd 4 (by decide +kernel);rw [e] at hK ⊢;clear e));(try (have e:vs 5=_:=hd 5 (by decide +kernel);rw [e] at hK ⊢;clear e));(try (have e:vs 6=_:=hd 6 (by decide +kernel);rw [e] at hK ⊢;clear e));clear hd;go_wp2_with (go_at_call 76;refine HV.call kW ?_;intro w6 _ g6);first | exact hK _ _ (yC _ _) rfl | exact hK _ _ (by assumption) rfl)):P:=h
theorem J19 (P:Prop) (h:P:=by
 rcases (show q=0 \/ q=1 \/ q=2 \/ q=3 \/ q=4 \/ q=5 \/ q=6 \/ q=7 by omega) with rfl | rfl | rfl | rfl | rfl | rfl | rfl | rfl
 all_goals (simp only [yD,yE,yO] at ho;subst ho;simp only [zJ,yD,yE,yL,Option.bind,Act.put,yF,yG,yH] at hK ⊢;clear hq)
 all_goals try ((try (have e:vs 0=_:=hd 0 (by decide +kernel);rw [e] at hK ⊢;clear e));(try (have e:vs 1=_:=hd 1 (by decide +kernel);rw [e] at hK ⊢;clear e));(try (have e:vs 2=_:=hd 2 (by decide +kernel);rw [e] at hK ⊢;clear e));(try (have e:vs 3=_:=hd 3 (by decide +kernel);rw [e] at hK ⊢;clear e));(try (have e:vs 4=_:=hd 4 (by decide +kernel);rw [e] at hK ⊢;clear e));(try (have e:vs 5=_:=hd 5 (by decide +kernel);rw [e] at hK ⊢;clear e));(try (have e:vs 6=_:=hd 6 (by decide +kernel);rw [e] at hK ⊢;clear e));(try (have e:vs 7=_:=hd 7 (by decide +kernel);rw [e] at hK ⊢;clear e));clear hd;go_wp2_with (fail);first | exact hK _ _ (yC _ _) rfl)):P:=h
theorem J41 (P:Prop) (h:P:=by
 rw [e];refine xA (by simp [results,Tryz.results44,go_sem]) rfl ⟨rfl,((yj HM.out).after zR zo k1).before HKA.out⟩):P:=h
theorem J49 (P:Prop) (h:P:=by
 have h:=z5c W q;have e1:(m.cells).length=m.cells.length:=by simp
 have e2:(m.cells).getD a.obj.toNat 0=cv:=HCV.out;have h:W.cell? ⟨b,3,none⟩=some (.slice (some ⟨g5,0,none⟩) (m.cells).length p.ccap) /\ W.cell? ⟨g5,a.obj.toNat,none⟩=some (.int .i64 ((m.cells).getD a.obj.toNat 0)) /\ W.frozen? ⟨g5,a.obj.toNat,none⟩=false:=h;rw [e1,e2] at h;exact h):P:=h
theorem J112 (P:Prop) (h:P:=by refine xA (by simp [results,Tryz.results44,go_sem]) rfl ⟨rfl,((yj HM.out).after zR zo HRW).before HKA.out⟩):P:=h
theorem J114 (P:Prop) (h:P:=by refine xA (by simp [results,Tryz.results44,go_sem]) rfl ⟨rfl,(D5.out.after zR zo (k5.drewN _)).before HKA.out⟩):P:=h
theorem J246 (P:Prop) (h:P:=by simp [results,Tryz.results44,go_sem]):P:=h
section
variable {w w':World} {T:zS} {F:Nat -> Prop} {id b i:Nat} {u:Un} {p:zAn} {m m':zm} {H:List HTh}
theorem RW.row {cs:List Value} {g:Nat} (h:RW w T F id b u p m w') (r:zC w g cs) (hf:T g=none):zC w' g cs:=by
 obtain ⟨T',H',M,x,q⟩:=h;exact r.keeps q (fun ⟨t,e⟩=>by rw [hf] at e;cases e)
theorem RM.zGf (h:RM w T F id b u p m H) {o:Int} (h0:0 <= o) (h1:o < m.cells.length):∃ g,(∀ W,Keeps zA w W -> W.cell? ⟨b,3,none⟩=some (.slice (some ⟨g,0,none⟩) m.cells.length p.ccap) /\ W.cell? ⟨g,o.toNat,none⟩=some (.int .i64 (m.cells.getD o.toNat 0)) /\ W.frozen? ⟨g,o.toNat,none⟩=false) /\ ∀ W,Keeps zA w W -> ∀ v,RW w T F id b u p { m with cells:=m.cells.set o.toNat v } (W.setCell ⟨g,o.toNat,none⟩ (.int .i64 v)):=by
 have hl:o.toNat < m.cells.length:=by omega
 obtain ⟨g,hg,hr,_⟩:=h.cell zR zo hl;have c:=hr.cell (zu m.cells _ hl);have f:=zK (hr.free (k:=o.toNat) (by rw [zAE];exact hl)) ⟨_,c⟩;have y:=h.zIu;rw [hg] at y;refine ⟨g,fun W q=>⟨y W q,q.cell (fun h=>h) c,f W q⟩,fun W q v=>?_⟩
 obtain ⟨g',hg',_,hs⟩:=(xQ zR zo h q).cell zR zo hl;rw [hg] at hg';cases hg';exact (hs v).before q
theorem RM.zOv (h:RM w T F id b u p m H) {o:Int} (h0:0 <= o) (h1:o < m.owners.length):∃ g,(∀ W,Keeps zA w W -> W.cell? ⟨b,4,none⟩=some (.slice (some ⟨g,0,none⟩) m.owners.length p.ocap) /\ W.cell? ⟨g,o.toNat,none⟩=some (.int .i64 (m.owners.getD o.toNat 0)) /\ W.frozen? ⟨g,o.toNat,none⟩=false) /\ ∀ W,Keeps zA w W -> ∀ v,RW w T F id b u p { m with owners:=m.owners.set o.toNat v } (W.setCell ⟨g,o.toNat,none⟩ (.int .i64 v)):=by
 have hl:o.toNat < m.owners.length:=by omega
 obtain ⟨g,hg,hr,_⟩:=h.owner zR zo hl;have c:=hr.cell (zu m.owners _ hl);have f:=zK (hr.free (k:=o.toNat) (by rw [zAE];exact hl)) ⟨_,c⟩;have y:=h.zIm;rw [hg] at y;refine ⟨g,fun W q=>⟨y W q,q.cell (fun h=>h) c,f W q⟩,fun W q v=>?_⟩
 obtain ⟨g',hg',_,hs⟩:=(xQ zR zo h q).owner zR zo hl;rw [hg] at hg';cases hg';exact (hs v).before q
theorem RM.zOw (h:RM w T F id b u p m H) (hi:i < m.zM.length) {o:Int} (h0:0 <= o) (h1:o < (m.get i).regs.length):∃ g rc,(∀ W,Keeps zA w W -> W.cell? ⟨p.gt,i*3+1,none⟩=some (.slice (some ⟨g,0,none⟩) (m.get i).regs.length rc) /\ W.cell? ⟨g,o.toNat,none⟩=some (.int .i64 ((m.get i).regs.getD o.toNat 0)) /\ W.frozen? ⟨g,o.toNat,none⟩=false) /\ ∀ W,Keeps zA w W -> ∀ v,RW w T F id b u p (m.zAT i { m.get i with regs:=(m.get i).regs.set o.toNat v }) (W.setCell ⟨g,o.toNat,none⟩ (.int .i64 v)):=by
 have hl:o.toNat < (m.get i).regs.length:=by omega
 obtain ⟨rv,fv,hH,hr,hf⟩:=h.zM.get (xL hi);obtain ⟨g,rc,e,hT,hrow⟩:=hr.at hl;subst e;have c:=hrow.cell (zu _ _ hl);have f:=zK (hrow.free (k:=o.toNat) (by rw [zAE];exact hl)) ⟨_,c⟩;exact ⟨g,rc,fun W q=>⟨q.cell (fun h=>h) (zAA h.zM.row hH).2.1,q.cell (fun h=>h) c,f W q⟩,fun W q v=>(MaP.went zo (xQ zR zo h q) (zFk zR (vN zR h.zM q (fun _ _ h=>h)) hH hT (hrow.keeps q (fun h=>h)) (zBV.keeps zR hf q (fun _ _ h=>h) (fun _ _ h=>h)) hl v)).before q⟩
theorem RM.zOA (h:RM w T F id b u p m H) (hi:i < m.zM.length) {a:Ac} {n:Int} {xa:Option Addr} (hn:(m.get i).regs.length=n.toNat) (hx:zN w F a.ex.args xa) (hm:a.ex.may n=true) (xc:Nat):∃ ra rc,(∀ W,Keeps zA w W -> W.cell? ⟨p.gt,i*3+1,none⟩=some (.slice ra (m.get i).regs.length rc)) ∧
 Ret w 76 #[.agg #[.int .i64 a.ex.kind, .int .i64 a.ex.num, .string a.ex.nm, .slice xa a.ex.args.length xc], .slice ra (m.get i).regs.length rc] (.int .i64 (a.ex.val (m.get i).regs)):=by
 obtain ⟨rv,fv,hH,hr,_⟩:=h.zM.get (xL hi);have hs:=hr;obtain ⟨ra,rc,rfl,_⟩:=hr;exact ⟨ra,rc,zV (zAA h.zM.row hH).2.1,fun W q=>zIA _ n _ hn a.ex W F xa xc (xY hx q (fun _ _ h=>h)) ((hs.keeps q (fun _ _ h=>h)).src) hm⟩
structure RDo (w:World) (T:zS) (F:Nat -> Prop) (id b:Nat) (u:Un) (p:zAn) (i:Nat) (m:zm) (H:List HTh) (a:Ac) (n:Int) (xa:Option Addr):Prop where
 M:RM w T F id b u p m H
 ok:m.ok u
 right:zX u=true
 idle:m.idle
 hi:i < m.zM.length
 may:Ac.may u n a=true
 reg:(m.get i).regs.length=n.toNat
 xs:zN w F a.ex.args xa
end
theorem zNk {w:World} {T:zS} {F:Nat -> Prop} {id b i:Nat} {u:Un} {p:zAn} {m:zm} {H:List HTh} {a:Ac} {n:Int} {xa ta ea:Option Addr} {xc tc ec:Nat} (h:RDo w T F id b u p i m H a n xa) (hk:a.kind=2) :
 Calls Tryz.prog 44 #[.pointer (some ⟨b,0,none⟩), .int .i64 i, .agg #[.int .i64 a.kind, .int .i64 a.reg, .int .i64 a.obj, .int .i64 a.ex.kind, .int .i64 a.ex.num, .string a.ex.nm, .slice xa a.ex.args.length xc, .int .i64 a.count, .slice ta a.thn.length tc, .slice ea a.els.length ec]] w fun e w'=>e=.returned (.tuple #[.int .i64 (doM u m i a).2.1, .int .i64 (doM u m i a).2.2]) /\ RW w T F id b u p (doM u m i a).1 w':=by
 have HK:=yB hk;obtain ⟨ba,w0,e3,e4,RA,KA,_⟩:=newRow w [.int .i64 a.kind, .int .i64 a.reg, .int .i64 a.obj, .int .i64 a.ex.kind, .int .i64 a.ex.num, .string a.ex.nm, .slice xa a.ex.args.length xc, .int .i64 a.count, .slice ta a.thn.length tc, .slice ea a.els.length ec] 68;have HM:Hid (RM w0 T F id b u p m H):=xQ zR zo h.M KA;have HXS:Hid (zN w0 F a.ex.args xa):=xY h.xs KA (fun _ _ h=>h);have HBA:Hid (T ba=none):=(h.M.zM.sep.free (g:=ba) (by omega)).1;have HKA:=yB KA;have HI:=yB h;have HRA:=yB RA;have i0:(0:Int) <= i:=by omega
 have i1:(i:Int) < (m.zM.length:Int):=by have:=h.hi;omega
 have y:=RA.zAI;have y5:=HM.out.zA1;have k0:=zH w0;obtain ⟨o1,o2⟩:=zCH h.may (by omega);have o3:a.obj < (m.cells.length:Int):=by rw [h.ok.cells];exact o2
 obtain ⟨gc,yc,sc⟩:=HM.out.zGf o1 o3;have SC:=yB sc;have eo:((a.obj.toNat:Nat):Int)=a.obj:=by omega
 clear sc o2;obtain ⟨r0,r1⟩:=Ac.zDw h.may (by omega);have r2:a.reg < ((m.get i).regs.length:Int):=by rw [h.reg];omega
 obtain ⟨gr,rc,yr,sr⟩:=HM.out.zOw h.hi r0 r2;have SR:=yB sr;have er:((a.reg.toNat:Nat):Int)=a.reg:=by omega
 clear sr r1;generalize hcv:m.cells.getD a.obj.toNat 0=cv at yc;have HCV:=yB hcv;clear hcv;rw [hk] at y;clear RA KA h hk;go_enter Tryz.func44,yp
 go_upto_region 1 with fail
 try rw [e3]
 try rw [e4]
 clear e3 e4;go_upto_region 4 with fail
 refine zL 15 (by kernel_rfl) (by kernel_rfl) (Keeps zA) (yC zA) (fun a b c h h'=>xE h h') (zAH [some (.pointer (some ⟨p.gt,i*3,none⟩)),some (.pointer (some ⟨p.gt,i*3,none⟩)),some (.pointer (some ⟨p.gt,i*3+1,none⟩)),some (.slice (some ⟨gr,0,none⟩) (m.get i).regs.length rc),some (.pointer (some ⟨ba,1,none⟩)),some (.int .i64 a.reg),some (.pointer (some ⟨b,0,none⟩)),some (.pointer (some ⟨b,0,none⟩)),some (.pointer (some ⟨b,3,none⟩)),some (.slice (some ⟨gc,0,none⟩) m.cells.length p.ccap),some (.pointer (some ⟨ba,2,none⟩)),some (.int .i64 a.obj),some (.pointer (some ⟨gc,a.obj.toNat,none⟩)),some (.int .i64 cv),some (.pointer (some ⟨gr,a.reg.toNat,none⟩))] (fun _ _ _=>False)) (uG (fun _ _ _ _ h _=>h)) ?_ ?_
 ·intro q oo hq ho vs W Q' hR hd hK
  have HRW:Keeps zA w0 W:=((zH w0).drew).zB hR;rcases (show q=0 \/ q=1 \/ q=2 \/ q=3 \/ q=4 \/ q=5 \/ q=6 \/ q=7 \/ q=8 \/ q=9 \/ q=10 \/ q=11 \/ q=12 \/ q=13 \/ q=14 by omega) with rfl | rfl | rfl | rfl | rfl | rfl | rfl | rfl | rfl | rfl | rfl | rfl | rfl | rfl | rfl
  all_goals (simp only [yD,yE,yO] at ho;subst ho;simp only [zJ,yD,yE,yL,Option.bind,Act.put,yF,yG,yH] at hK ⊢;clear hq)
  all_goals try ((try (have e:vs 0=_:=hd 0 (by decide +kernel);rw [e] at hK ⊢;clear e));(try (have e:vs 1=_:=hd 1 (by decide +kernel);rw [e] at hK ⊢;clear e));(try (have e:vs 2=_:=hd 2 (by decide +kernel);rw [e] at hK ⊢;clear e));(try (have e:vs 3=_:=hd 3 (by decide +kernel);rw [e] at hK ⊢;clear e));(try (have e:vs 4=_:=hd 4 (by decide +kernel);rw [e] at hK ⊢;clear e));(try (have e:vs 5=_:=hd 5 (by decide +kernel);rw [e] at hK ⊢;clear e));(try (have e:vs 6=_:=hd 6 (by decide +kernel);rw [e] at hK ⊢;clear e));(try (have e:vs 7=_:=hd 7 (by decide +kernel);rw [e] at hK ⊢;clear e));(try (have e:vs 8=_:=hd 8 (by decide +kernel);rw [e] at hK ⊢;clear e));(try (have e:vs 9=_:=hd 9 (by decide +kernel);rw [e] at hK ⊢;clear e));(try (have e:vs 10=_:=hd 10 (by decide +kernel);rw [e] at hK ⊢;clear e));(try (have e:vs 11=_:=hd 11 (by decide +kernel);rw [e] at hK ⊢;clear e));(try (have e:vs 12=_:=hd 12 (by decide +kernel);rw [e] at hK ⊢;clear e));(try (have e:vs 13=_:=hd 13 (by decide +kernel);rw [e] at hK ⊢;clear e));(try (have e:vs 14=_:=hd 14 (by decide +kernel);rw [e] at hK ⊢;clear e));clear hd;go_wp2_with (fail);first | exact hK _ _ (yC _ _) rfl)
 ·intro vs W hR hFF
  have HRW:Keeps zA w0 W:=((zH w0).drew).zB hR;have e13:vs 13=_:=hFF 13 (by decide);have e14:vs 14=_:=hFF 14 (by decide);simp only [zJ,yD,yE,yL,Option.bind,Act.put,yF,yG,yH,yS,yR];rw [e13,e14];clear hFF hR e13 e14;clear y y5;go_upto_region 5 with fail
  have D5:=yB (SR.out W HRW cv);generalize W.setCell ⟨gr,a.reg.toNat,none⟩ (.int .i64 cv)=w5 at D5 ⊢;have R5:=D5.out.row HRA.out HBA.out;have y:=R5.zAI;have k5:=zH w5;obtain ⟨T5,H5,M5,x5,q5⟩:=D5.out;obtain ⟨g5,z5c,s5⟩:=RM.zGf M5 (o:=a.obj) o1 (show a.obj < ((m.cells).length:Int) by simpa using o3);have S5:=yB s5
  have y5c:∀ W,Keeps zA w5 W -> W.cell? ⟨b,3,none⟩=some (.slice (some ⟨g5,0,none⟩) m.cells.length p.ccap) /\ W.cell? ⟨g5,a.obj.toNat,none⟩=some (.int .i64 cv) /\ W.frozen? ⟨g5,a.obj.toNat,none⟩=false:=fun W q=>by
   exact J49 _
  clear z5c;clear yc yr M5 x5 q5 R5 s5;go_quiet (fail)
  go_wp2_with fail
  have e:doM u m i a=(m.zAT i { m.get i with regs:=(m.get i).regs.set a.reg.toNat (m.cells.getD a.obj.toNat 0) },m.cells.getD a.obj.toNat 0,0):=by
   unfold doM;simp only [if_pos HK.out]
  rw [e,HCV.out];exact J114 _
theorem zNN {w:World} {T:zS} {F:Nat -> Prop} {id b i:Nat} {u:Un} {p:zAn} {m:zm} {H:List HTh} {a:Ac} {n:Int} {xa ta ea:Option Addr} {xc tc ec:Nat} (h:RDo w T F id b u p i m H a n xa) (hk:a.kind=3) :
 Calls Tryz.prog 44 #[.pointer (some ⟨b,0,none⟩), .int .i64 i, .agg #[.int .i64 a.kind, .int .i64 a.reg, .int .i64 a.obj, .int .i64 a.ex.kind, .int .i64 a.ex.num, .string a.ex.nm, .slice xa a.ex.args.length xc, .int .i64 a.count, .slice ta a.thn.length tc, .slice ea a.els.length ec]] w fun e w'=>e=.returned (.tuple #[.int .i64 (doM u m i a).2.1, .int .i64 (doM u m i a).2.2]) /\ RW w T F id b u p (doM u m i a).1 w':=by
 have HK:=yB hk;obtain ⟨ba,w0,e3,e4,RA,KA,_⟩:=newRow w [.int .i64 a.kind, .int .i64 a.reg, .int .i64 a.obj, .int .i64 a.ex.kind, .int .i64 a.ex.num, .string a.ex.nm, .slice xa a.ex.args.length xc, .int .i64 a.count, .slice ta a.thn.length tc, .slice ea a.els.length ec] 68;have HM:Hid (RM w0 T F id b u p m H):=xQ zR zo h.M KA;have HXS:Hid (zN w0 F a.ex.args xa):=xY h.xs KA (fun _ _ h=>h);have HBA:Hid (T ba=none):=(h.M.zM.sep.free (g:=ba) (by omega)).1;have HKA:=yB KA;have HI:=yB h;have HRA:=yB RA;have i0:(0:Int) <= i:=by omega
 have i1:(i:Int) < (m.zM.length:Int):=by have:=h.hi;omega
 have y:=RA.zAI;have y5:=HM.out.zA1;have k0:=zH w0;obtain ⟨o1,o2⟩:=zCH h.may (by omega);have o3:a.obj < (m.cells.length:Int):=by rw [h.ok.cells];exact o2
 obtain ⟨gc,yc,sc⟩:=HM.out.zGf o1 o3;have SC:=yB sc;have eo:((a.obj.toNat:Nat):Int)=a.obj:=by omega
 clear sc o2;obtain ⟨ra,rc,yr,HV⟩:=HM.out.zOA h.hi h.reg HXS.out (Ac.zDU h.may (by omega)) xc;generalize hval:a.ex.val (m.get i).regs=val at HV;have HVAL:=yB hval;clear hval;rw [hk] at y;clear RA KA h hk;go_enter Tryz.func44,yp
 go_upto_region 1 with fail
 try rw [e3]
 try rw [e4]
 clear e3 e4;go_upto_region 7 with fail
 refine zL 14 (by kernel_rfl) (by kernel_rfl) (Keeps zA) (yC zA) (fun a b c h h'=>xE h h') (zAH [some (.pointer (some ⟨b,0,none⟩)),some (.pointer (some ⟨b,0,none⟩)),some (.pointer (some ⟨b,3,none⟩)),some (.slice (some ⟨gc,0,none⟩) m.cells.length p.ccap),some (.pointer (some ⟨ba,2,none⟩)),some (.int .i64 a.obj),some (.pointer (some ⟨ba,3,none⟩)),some (.agg #[.int .i64 a.ex.kind, .int .i64 a.ex.num, .string a.ex.nm, .slice xa a.ex.args.length xc]),some (.pointer (some ⟨p.gt,i*3,none⟩)),some (.pointer (some ⟨p.gt,i*3,none⟩)),some (.pointer (some ⟨p.gt,i*3+1,none⟩)),some (.slice ra (m.get i).regs.length rc),some (.int .i64 val),some (.pointer (some ⟨gc,a.obj.toNat,none⟩))] (fun _ _ _=>False)) (uG (fun _ _ _ _ h _=>h)) ?_ ?_
 ·intro q oo hq ho vs W Q' hR hd hK
  have HRW:Keeps zA w0 W:=((zH w0).drew).zB hR;have kW:Keeps zA w0 W:=HRW;rcases (show q=0 \/ q=1 \/ q=2 \/ q=3 \/ q=4 \/ q=5 \/ q=6 \/ q=7 \/ q=8 \/ q=9 \/ q=10 \/ q=11 \/ q=12 \/ q=13 by omega) with rfl | rfl | rfl | rfl | rfl | rfl | rfl | rfl | rfl | rfl | rfl | rfl | rfl | rfl
  all_goals (simp only [yD,yE,yO] at ho;subst ho;simp only [zJ,yD,yE,yL,Option.bind,Act.put,yF,yG,yH] at hK ⊢;clear hq)
  all_goals try ((try (have e:vs 0=_:=hd 0 (by decide +kernel);rw [e] at hK ⊢;clear e));(try (have e:vs 1=_:=hd 1 (by decide +kernel);rw [e] at hK ⊢;clear e));(try (have e:vs 2=_:=hd 2 (by decide +kernel);rw [e] at hK ⊢;clear e));(try (have e:vs 3=_:=hd 3 (by decide +kernel);rw [e] at hK ⊢;clear e));(try (have e:vs 4=_:=hd 4 (by decide +kernel);rw [e] at hK ⊢;clear e));(try (have e:vs 5=_:=hd 5 (by decide +kernel);rw [e] at hK ⊢;clear e));(try (have e:vs 6=_:=hd 6 (by decide +kernel);rw [e] at hK ⊢;clear e));(try (have e:vs 7=_:=hd 7 (by decide +kernel);rw [e] at hK ⊢;clear e));(try (have e:vs 8=_:=hd 8 (by decide +kernel);rw [e] at hK ⊢;clear e));(try (have e:vs 9=_:=hd 9 (by decide +kernel);rw [e] at hK ⊢;clear e));(try (have e:vs 10=_:=hd 10 (by decide +kernel);rw [e] at hK ⊢;clear e));(try (have e:vs 11=_:=hd 11 (by decide +kernel);rw [e] at hK ⊢;clear e));(try (have e:vs 12=_:=hd 12 (by decide +kernel);rw [e] at hK ⊢;clear e));(try (have e:vs 13=_:=hd 13 (by decide +kernel);rw [e] at hK ⊢;clear e));clear hd;go_wp2_with (go_at_call 76;refine HV.call kW ?_;intro w6 _ g6);first | exact hK _ _ (yC _ _) rfl | exact hK _ _ (by assumption) rfl)
 ·intro vs W hR hFF
  have HRW:Keeps zA w0 W:=((zH w0).drew).zB hR;have e12:vs 12=_:=hFF 12 (by decide);have e13:vs 13=_:=hFF 13 (by decide);simp only [zJ,yD,yE,yL,Option.bind,Act.put,yF,yG,yH,yS,yR];rw [e12,e13];clear hFF hR e12 e13;clear y y5;go_upto_region 8 with fail
  have D5:=yB (SC.out W HRW val);generalize W.setCell ⟨gc,a.obj.toNat,none⟩ (.int .i64 val)=w5 at D5 ⊢;have R5:=D5.out.row HRA.out HBA.out;have y:=R5.zAI;have k5:=zH w5;obtain ⟨T5,H5,M5,x5,q5⟩:=D5.out;obtain ⟨g5,z5c,s5⟩:=RM.zGf M5 (o:=a.obj) o1 (show a.obj < ((m.cells.set a.obj.toNat val).length:Int) by simpa using o3);have S5:=yB s5
  have y5c:∀ W,Keeps zA w5 W -> W.cell? ⟨b,3,none⟩=some (.slice (some ⟨g5,0,none⟩) m.cells.length p.ccap) /\ W.cell? ⟨g5,a.obj.toNat,none⟩=some (.int .i64 val) /\ W.frozen? ⟨g5,a.obj.toNat,none⟩=false:=fun W q=>by
   have h:=z5c W q;have e1:(m.cells.set a.obj.toNat val).length=m.cells.length:=by simp
   have e2:(m.cells.set a.obj.toNat val).getD a.obj.toNat 0=val:=by simp [List.getD,show a.obj.toNat < m.cells.length by omega]
   have h:W.cell? ⟨b,3,none⟩=some (.slice (some ⟨g5,0,none⟩) (m.cells.set a.obj.toNat val).length p.ccap) /\ W.cell? ⟨g5,a.obj.toNat,none⟩=some (.int .i64 ((m.cells.set a.obj.toNat val).getD a.obj.toNat 0)) /\ W.frozen? ⟨g5,a.obj.toNat,none⟩=false:=h;rw [e1,e2] at h;exact h
  clear z5c;clear yc yr M5 x5 q5 R5 s5;go_quiet (fail)
  go_wp2_with fail
  have e:doM u m i a=({ m with cells:=m.cells.set a.obj.toNat (a.ex.val (m.get i).regs) },a.ex.val (m.get i).regs,0):=by
   unfold doM;simp only [if_neg (show ¬ a.kind=2 by have:=HK.out;omega),if_pos HK.out]
  rw [e,HVAL.out];exact J114 _
theorem zNg {w:World} {T:zS} {F:Nat -> Prop} {id b i:Nat} {u:Un} {p:zAn} {m:zm} {H:List HTh} {a:Ac} {n:Int} {xa ta ea:Option Addr} {xc tc ec:Nat} (h:RDo w T F id b u p i m H a n xa) (hk:a.kind=4) :
 Calls Tryz.prog 44 #[.pointer (some ⟨b,0,none⟩), .int .i64 i, .agg #[.int .i64 a.kind, .int .i64 a.reg, .int .i64 a.obj, .int .i64 a.ex.kind, .int .i64 a.ex.num, .string a.ex.nm, .slice xa a.ex.args.length xc, .int .i64 a.count, .slice ta a.thn.length tc, .slice ea a.els.length ec]] w fun e w'=>e=.returned (.tuple #[.int .i64 (doM u m i a).2.1, .int .i64 (doM u m i a).2.2]) /\ RW w T F id b u p (doM u m i a).1 w':=by
 have HK:=yB hk;obtain ⟨ba,w0,e3,e4,RA,KA,_⟩:=newRow w [.int .i64 a.kind, .int .i64 a.reg, .int .i64 a.obj, .int .i64 a.ex.kind, .int .i64 a.ex.num, .string a.ex.nm, .slice xa a.ex.args.length xc, .int .i64 a.count, .slice ta a.thn.length tc, .slice ea a.els.length ec] 68;have HM:Hid (RM w0 T F id b u p m H):=xQ zR zo h.M KA;have HXS:Hid (zN w0 F a.ex.args xa):=xY h.xs KA (fun _ _ h=>h);have HBA:Hid (T ba=none):=(h.M.zM.sep.free (g:=ba) (by omega)).1;have HKA:=yB KA;have HI:=yB h;have HRA:=yB RA;have i0:(0:Int) <= i:=by omega
 have i1:(i:Int) < (m.zM.length:Int):=by have:=h.hi;omega
 have y:=RA.zAI;have y5:=HM.out.zA1;have k0:=zH w0;obtain ⟨o1,o2⟩:=zCH h.may (by omega);have o3:a.obj < (m.cells.length:Int):=by rw [h.ok.cells];exact o2
 obtain ⟨gc,yc,sc⟩:=HM.out.zGf o1 o3;have SC:=yB sc;have eo:((a.obj.toNat:Nat):Int)=a.obj:=by omega
 clear sc o2;obtain ⟨r0,r1⟩:=Ac.zDw h.may (by omega);have r2:a.reg < ((m.get i).regs.length:Int):=by rw [h.reg];omega
 obtain ⟨gr,rc,yr,sr⟩:=HM.out.zOw h.hi r0 r2;have SR:=yB sr;have er:((a.reg.toNat:Nat):Int)=a.reg:=by omega
 clear sr r1;obtain ⟨ra,rcv,yv,HV⟩:=HM.out.zOA h.hi h.reg HXS.out (Ac.zDU h.may (by omega)) xc;have ev:=yv w0 k0;rw [(yr w0 k0).1] at ev;simp only [yO,uJ,true_and] at ev;obtain ⟨rfl,rfl⟩:=ev;clear yv;generalize hcv:m.cells.getD a.obj.toNat 0=cv at yc;have HCV:=yB hcv;clear hcv;generalize hval:a.ex.val (m.get i).regs=val at HV;have HVAL:=yB hval;clear hval;rw [hk] at y;clear RA KA h hk;go_enter Tryz.func44,yp
 go_upto_region 1 with fail
 try rw [e3]
 try rw [e4]
 clear e3 e4;go_upto_region 10 with fail
 refine zL 7 (by kernel_rfl) (by kernel_rfl) (Keeps zA) (yC zA) (fun a b c h h'=>xE h h') (zAH [some (.pointer (some ⟨ba,3,none⟩)),some (.agg #[.int .i64 a.ex.kind, .int .i64 a.ex.num, .string a.ex.nm, .slice xa a.ex.args.length xc]),some (.pointer (some ⟨p.gt,i*3,none⟩)),some (.pointer (some ⟨p.gt,i*3,none⟩)),some (.pointer (some ⟨p.gt,i*3+1,none⟩)),some (.slice (some ⟨gr,0,none⟩) (m.get i).regs.length rc),some (.int .i64 val)] (fun _ _ _=>False)) (uG (fun _ _ _ _ h _=>h)) ?_ ?_
 ·exact J14 _
 ·intro vs W hR hFF
  have HRW:Keeps zA w0 W:=((zH w0).drew).zB hR;have e6:vs 6=_:=hFF 6 (by decide);simp only [zJ,yD,yE,yL,Option.bind,Act.put,yF,yG,yH,yS,yR];rw [e6];clear hFF hR e6;go_upto_region 11 with fail
  go_quiet (fail)
  rename_i nq
  obtain ⟨w1,hz⟩:=eX (W.drewN nq);rw [<- hz];have k1:Keeps zA w0 w1:=by rw [hz];exact HRW.drewN _
  clear hz HRW;go_upto_region 12 with fail
  refine zL 8 (by kernel_rfl) (by kernel_rfl) (Keeps zA) (yC zA) (fun a b c h h'=>xE h h') (zAH [some (.pointer (some ⟨p.gt,i*3,none⟩)),some (.pointer (some ⟨p.gt,i*3,none⟩)),some (.pointer (some ⟨p.gt,i*3+1,none⟩)),some (.slice (some ⟨gr,0,none⟩) (m.get i).regs.length rc),some (.pointer (some ⟨ba,1,none⟩)),some (.int .i64 a.reg),some (.int .i64 cv),some (.pointer (some ⟨gr,a.reg.toNat,none⟩))] (fun _ _ _=>False)) (uG (fun _ _ _ _ h _=>h)) ?_ ?_
  ·intro q oo hq ho vs W Q' hR hd hK
   have HRW:Keeps zA w1 W:=((zH w1).drew).zB hR;have kW:Keeps zA w0 W:=k1.zB HRW;exact J19 _
  ·intro vs W hR hFF
   have HRW:Keeps zA w1 W:=((zH w1).drew).zB hR;have kW:Keeps zA w0 W:=k1.zB HRW;have e6:vs 6=_:=hFF 6 (by decide);have e7:vs 7=_:=hFF 7 (by decide);simp only [zJ,yD,yE,yL,Option.bind,Act.put,yF,yG,yH,yS,yR];rw [e6,e7];clear hFF hR e6 e7;clear y y5;go_upto_region 13 with fail
   have D5:=yB (SR.out W kW cv);generalize W.setCell ⟨gr,a.reg.toNat,none⟩ (.int .i64 cv)=w5 at D5 ⊢;have R5:=D5.out.row HRA.out HBA.out;have y:=R5.zAI;have k5:=zH w5;obtain ⟨T5,H5,M5,x5,q5⟩:=D5.out;obtain ⟨g5,z5c,s5⟩:=RM.zGf M5 (o:=a.obj) o1 (show a.obj < ((m.cells).length:Int) by simpa using o3);have S5:=yB s5
   have y5c:∀ W,Keeps zA w5 W -> W.cell? ⟨b,3,none⟩=some (.slice (some ⟨g5,0,none⟩) m.cells.length p.ccap) /\ W.cell? ⟨g5,a.obj.toNat,none⟩=some (.int .i64 cv) /\ W.frozen? ⟨g5,a.obj.toNat,none⟩=false:=fun W q=>by
    exact J49 _
   clear z5c;have D6:Hid (∀ W,Keeps zA w5 W -> RW w0 T F id b u p ⟨m.cells.set a.obj.toNat (w64 (cv+val)),m.owners,m.zM.set i { m.get i with regs:=(m.get i).regs.set a.reg.toNat cv }⟩ (W.setCell ⟨g5,a.obj.toNat,none⟩ (.int .i64 (w64 (cv+val))))):=fun W q=>kZ x5 q5 (S5.out W q (w64 (cv+val)))
   clear yc yr M5 x5 q5 R5 s5;refine zL 10 (by kernel_rfl) (by kernel_rfl) (Keeps zA) (yC zA) (fun a b c h h'=>xE h h') (zAH [some (.pointer (some ⟨b,0,none⟩)),some (.pointer (some ⟨b,0,none⟩)),some (.pointer (some ⟨b,3,none⟩)),some (.slice (some ⟨g5,0,none⟩) m.cells.length p.ccap),some (.pointer (some ⟨ba,2,none⟩)),some (.int .i64 a.obj),some (.int .i64 cv),some (.int .i64 val),some (.int .i64 (w64 (cv+val))),some (.pointer (some ⟨g5,a.obj.toNat,none⟩))] (fun _ _ _=>False)) (uG (fun _ _ _ _ h _=>h)) ?_ ?_
   ·intro q oo hq ho vs W Q' hR hd hK
    have HRW:Keeps zA w5 W:=((zH w5).drew).zB hR;rcases (show q=0 \/ q=1 \/ q=2 \/ q=3 \/ q=4 \/ q=5 \/ q=6 \/ q=7 \/ q=8 \/ q=9 by omega) with rfl | rfl | rfl | rfl | rfl | rfl | rfl | rfl | rfl | rfl
    all_goals (simp only [yD,yE,yO] at ho;subst ho;simp only [zJ,yD,yE,yL,Option.bind,Act.put,yF,yG,yH] at hK ⊢;clear hq)
    all_goals try ((try (have e:vs 0=_:=hd 0 (by decide +kernel);rw [e] at hK ⊢;clear e));(try (have e:vs 1=_:=hd 1 (by decide +kernel);rw [e] at hK ⊢;clear e));(try (have e:vs 2=_:=hd 2 (by decide +kernel);rw [e] at hK ⊢;clear e));(try (have e:vs 3=_:=hd 3 (by decide +kernel);rw [e] at hK ⊢;clear e));(try (have e:vs 4=_:=hd 4 (by decide +kernel);rw [e] at hK ⊢;clear e));(try (have e:vs 5=_:=hd 5 (by decide +kernel);rw [e] at hK ⊢;clear e));(try (have e:vs 6=_:=hd 6 (by decide +kernel);rw [e] at hK ⊢;clear e));(try (have e:vs 7=_:=hd 7 (by decide +kernel);rw [e] at hK ⊢;clear e));(try (have e:vs 8=_:=hd 8 (by decide +kernel);rw [e] at hK ⊢;clear e));(try (have e:vs 9=_:=hd 9 (by decide +kernel);rw [e] at hK ⊢;clear e));clear hd;go_wp2_with (fail);first | exact hK _ _ (yC _ _) rfl)
   ·intro vs W hR hFF
    have HRW:Keeps zA w5 W:=((zH w5).drew).zB hR;have e8:vs 8=_:=hFF 8 (by decide);have e9:vs 9=_:=hFF 9 (by decide);simp only [zJ,yD,yE,yL,Option.bind,Act.put,yF,yG,yH,yS,yR];rw [e8,e9];clear hFF hR e8 e9;go_wp2_with fail
    have e:doM u m i a=(⟨m.cells.set a.obj.toNat (w64 (m.cells.getD a.obj.toNat 0+a.ex.val (m.get i).regs)),m.owners,m.zM.set i { m.get i with regs:=(m.get i).regs.set a.reg.toNat (m.cells.getD a.obj.toNat 0) }⟩,m.cells.getD a.obj.toNat 0,0):=by
     exact J113 _
    rw [e,HCV.out,HVAL.out];refine xA (J246 _) rfl ⟨rfl,(D6.out W HRW).before HKA.out⟩
theorem zNH {w:World} {T:zS} {F:Nat -> Prop} {id b i:Nat} {u:Un} {p:zAn} {m:zm} {H:List HTh} {a:Ac} {n:Int} {xa ta ea:Option Addr} {xc tc ec:Nat} (h:RDo w T F id b u p i m H a n xa) (hk:a.kind=5) :
 Calls Tryz.prog 44 #[.pointer (some ⟨b,0,none⟩), .int .i64 i, .agg #[.int .i64 a.kind, .int .i64 a.reg, .int .i64 a.obj, .int .i64 a.ex.kind, .int .i64 a.ex.num, .string a.ex.nm, .slice xa a.ex.args.length xc, .int .i64 a.count, .slice ta a.thn.length tc, .slice ea a.els.length ec]] w fun e w'=>e=.returned (.tuple #[.int .i64 (doM u m i a).2.1, .int .i64 (doM u m i a).2.2]) /\ RW w T F id b u p (doM u m i a).1 w':=by
 have HK:=yB hk;obtain ⟨ba,w0,e3,e4,RA,KA,_⟩:=newRow w [.int .i64 a.kind, .int .i64 a.reg, .int .i64 a.obj, .int .i64 a.ex.kind, .int .i64 a.ex.num, .string a.ex.nm, .slice xa a.ex.args.length xc, .int .i64 a.count, .slice ta a.thn.length tc, .slice ea a.els.length ec] 68;have HM:Hid (RM w0 T F id b u p m H):=xQ zR zo h.M KA;have HXS:Hid (zN w0 F a.ex.args xa):=xY h.xs KA (fun _ _ h=>h);have HBA:Hid (T ba=none):=(h.M.zM.sep.free (g:=ba) (by omega)).1;have HKA:=yB KA;have HI:=yB h;have HRA:=yB RA;have i0:(0:Int) <= i:=by omega
 have i1:(i:Int) < (m.zM.length:Int):=by have:=h.hi;omega
 have y:=RA.zAI;have y5:=HM.out.zA1;have k0:=zH w0;obtain ⟨o1,o2⟩:=zC3 h.may (by omega);have o3:a.obj < (m.owners.length:Int):=by rw [h.ok.owners];omega
 obtain ⟨gc,yc,sc⟩:=HM.out.zOv o1 o3;have SC:=yB sc;have eo:((a.obj.toNat:Nat):Int)=a.obj:=by omega
 clear sc o2;rw [hk] at y;clear RA KA h hk;go_enter Tryz.func44,yp
 go_upto_region 1 with fail
 try rw [e3]
 try rw [e4]
 clear e3 e4;go_upto_region 16 with fail
 refine zL 8 (by kernel_rfl) (by kernel_rfl) (Keeps zA) (yC zA) (fun a b c h h'=>xE h h') (zAH [some (.pointer (some ⟨b,0,none⟩)),some (.pointer (some ⟨b,0,none⟩)),some (.pointer (some ⟨b,4,none⟩)),some (.slice (some ⟨gc,0,none⟩) m.owners.length p.ocap),some (.pointer (some ⟨ba,2,none⟩)),some (.int .i64 a.obj),some (.int .i64 (i:Int)),some (.pointer (some ⟨gc,a.obj.toNat,none⟩))] (fun _ _ _=>False)) (uG (fun _ _ _ _ h _=>h)) ?_ ?_
 ·intro q oo hq ho vs W Q' hR hd hK
  have HRW:Keeps zA w0 W:=((zH w0).drew).zB hR;exact J19 _
 ·intro vs W hR hFF
  have HRW:Keeps zA w0 W:=((zH w0).drew).zB hR;have e6:vs 6=_:=hFF 6 (by decide);have e7:vs 7=_:=hFF 7 (by decide);simp only [zJ,yD,yE,yL,Option.bind,Act.put,yF,yG,yH,yS,yR];rw [e6,e7];clear hFF hR e6 e7;go_wp2_with fail
  have e:doM u m i a=({ m with owners:=m.owners.set a.obj.toNat i },0,0):=by
   exact J85 _
  rw [e];refine xA (J246 _) rfl ⟨rfl,(SC.out W HRW (i:Int)).before HKA.out⟩
theorem zNU {w:World} {T:zS} {F:Nat -> Prop} {id b i:Nat} {u:Un} {p:zAn} {m:zm} {H:List HTh} {a:Ac} {n:Int} {xa ta ea:Option Addr} {xc tc ec:Nat} (h:RDo w T F id b u p i m H a n xa) (hk:a.kind=6) :
 Calls Tryz.prog 44 #[.pointer (some ⟨b,0,none⟩), .int .i64 i, .agg #[.int .i64 a.kind, .int .i64 a.reg, .int .i64 a.obj, .int .i64 a.ex.kind, .int .i64 a.ex.num, .string a.ex.nm, .slice xa a.ex.args.length xc, .int .i64 a.count, .slice ta a.thn.length tc, .slice ea a.els.length ec]] w fun e w'=>e=.returned (.tuple #[.int .i64 (doM u m i a).2.1, .int .i64 (doM u m i a).2.2]) /\ RW w T F id b u p (doM u m i a).1 w':=by
 have HK:=yB hk;obtain ⟨ba,w0,e3,e4,RA,KA,_⟩:=newRow w [.int .i64 a.kind, .int .i64 a.reg, .int .i64 a.obj, .int .i64 a.ex.kind, .int .i64 a.ex.num, .string a.ex.nm, .slice xa a.ex.args.length xc, .int .i64 a.count, .slice ta a.thn.length tc, .slice ea a.els.length ec] 68;have HM:Hid (RM w0 T F id b u p m H):=xQ zR zo h.M KA;have HXS:Hid (zN w0 F a.ex.args xa):=xY h.xs KA (fun _ _ h=>h);have HBA:Hid (T ba=none):=(h.M.zM.sep.free (g:=ba) (by omega)).1;have HKA:=yB KA;have HI:=yB h;have HRA:=yB RA;have i0:(0:Int) <= i:=by omega
 have i1:(i:Int) < (m.zM.length:Int):=by have:=h.hi;omega
 have y:=RA.zAI;have y5:=HM.out.zA1;have k0:=zH w0;obtain ⟨o1,o2⟩:=zC3 h.may (by omega);have o3:a.obj < (m.owners.length:Int):=by rw [h.ok.owners];omega
 obtain ⟨gc,yc,sc⟩:=HM.out.zOv o1 o3;have SC:=yB sc;have eo:((a.obj.toNat:Nat):Int)=a.obj:=by omega
 clear sc o2;generalize hov:m.owners.getD a.obj.toNat 0=ov at yc;have HOV:=yB hov;clear hov;rw [hk] at y;clear RA KA h hk;go_enter Tryz.func44,yp
 go_upto_region 1 with fail
 try rw [e3]
 try rw [e4]
 clear e3 e4;go_upto_region 18 with fail
 go_quiet (fail)
 rename_i nq
 obtain ⟨w1,hz⟩:=eX (w0.drewN nq);rw [<- hz];have k1:Keeps zA w0 w1:=by rw [hz];exact k0.drewN _
 clear hz;by_cases how:ov=i
 ·have hb:(ov != (i:Int))=false:=by rw [how];simp
  go_upto_region 20 with fail
  refine zL 7 (by kernel_rfl) (by kernel_rfl) (Keeps zA) (yC zA) (fun a b c h h'=>xE h h') (zAH [some (.pointer (some ⟨b,0,none⟩)),some (.pointer (some ⟨b,0,none⟩)),some (.pointer (some ⟨b,4,none⟩)),some (.slice (some ⟨gc,0,none⟩) m.owners.length p.ocap),some (.pointer (some ⟨ba,2,none⟩)),some (.int .i64 a.obj),some (.pointer (some ⟨gc,a.obj.toNat,none⟩))] (fun _ _ _=>False)) (uG (fun _ _ _ _ h _=>h)) ?_ ?_
  ·intro q oo hq ho vs W Q' hR hd hK
   have HRW:Keeps zA w1 W:=((zH w1).drew).zB hR;have kW:Keeps zA w0 W:=k1.zB HRW;rcases (show q=0 \/ q=1 \/ q=2 \/ q=3 \/ q=4 \/ q=5 \/ q=6 by omega) with rfl | rfl | rfl | rfl | rfl | rfl | rfl
   all_goals (simp only [yD,yE,yO] at ho;subst ho;simp only [zJ,yD,yE,yL,Option.bind,Act.put,yF,yG,yH] at hK ⊢;clear hq)
   all_goals try ((try (have e:vs 0=_:=hd 0 (by decide +kernel);rw [e] at hK ⊢;clear e));(try (have e:vs 1=_:=hd 1 (by decide +kernel);rw [e] at hK ⊢;clear e));(try (have e:vs 2=_:=hd 2 (by decide +kernel);rw [e] at hK ⊢;clear e));(try (have e:vs 3=_:=hd 3 (by decide +kernel);rw [e] at hK ⊢;clear e));(try (have e:vs 4=_:=hd 4 (by decide +kernel);rw [e] at hK ⊢;clear e));(try (have e:vs 5=_:=hd 5 (by decide +kernel);rw [e] at hK ⊢;clear e));(try (have e:vs 6=_:=hd 6 (by decide +kernel);rw [e] at hK ⊢;clear e));clear hd;go_wp2_with (fail);first | exact hK _ _ (yC _ _) rfl)
  ·intro vs W hR hFF
   have HRW:Keeps zA w1 W:=((zH w1).drew).zB hR;have kW:Keeps zA w0 W:=k1.zB HRW;have e6:vs 6=_:=hFF 6 (by decide);simp only [zJ,yD,yE,yL,Option.bind,Act.put,yF,yG,yH,yS,yR];rw [e6];clear hFF hR e6;go_wp2_with fail
   have e:doM u m i a=({ m with owners:=m.owners.set a.obj.toNat (-1) },0,0):=by
    exact J68 _
   rw [e];refine xA (J246 _) rfl ⟨rfl,(SC.out W kW (-1)).before HKA.out⟩
 ·have hb:(ov != (i:Int))=true:=uE.2 how
  go_wp2_with fail
  have e:doM u m i a=(m,0,2):=by
   exact J54 _
  exact J41 _
theorem zM6 {w:World} {T:zS} {F:Nat -> Prop} {id b i:Nat} {u:Un} {p:zAn} {m:zm} {H:List HTh} {a:Ac} {n:Int} {xa ta ea:Option Addr} {xc tc ec:Nat} (h:RDo w T F id b u p i m H a n xa) (hk:a.kind=7) :
 Calls Tryz.prog 44 #[.pointer (some ⟨b,0,none⟩), .int .i64 i, .agg #[.int .i64 a.kind, .int .i64 a.reg, .int .i64 a.obj, .int .i64 a.ex.kind, .int .i64 a.ex.num, .string a.ex.nm, .slice xa a.ex.args.length xc, .int .i64 a.count, .slice ta a.thn.length tc, .slice ea a.els.length ec]] w fun e w'=>e=.returned (.tuple #[.int .i64 (doM u m i a).2.1, .int .i64 (doM u m i a).2.2]) /\ RW w T F id b u p (doM u m i a).1 w':=by
 have HK:=yB hk;obtain ⟨ba,w0,e3,e4,RA,KA,_⟩:=newRow w [.int .i64 a.kind, .int .i64 a.reg, .int .i64 a.obj, .int .i64 a.ex.kind, .int .i64 a.ex.num, .string a.ex.nm, .slice xa a.ex.args.length xc, .int .i64 a.count, .slice ta a.thn.length tc, .slice ea a.els.length ec] 68;have HM:Hid (RM w0 T F id b u p m H):=xQ zR zo h.M KA;have HXS:Hid (zN w0 F a.ex.args xa):=xY h.xs KA (fun _ _ h=>h);have HBA:Hid (T ba=none):=(h.M.zM.sep.free (g:=ba) (by omega)).1;have HKA:=yB KA;have HI:=yB h;have HRA:=yB RA;have i0:(0:Int) <= i:=by omega
 have i1:(i:Int) < (m.zM.length:Int):=by have:=h.hi;omega
 have y:=RA.zAI;have y5:=HM.out.zA1;have k0:=zH w0;obtain ⟨o1,o2⟩:=zDD h.may (by omega);have o3:a.obj < (m.zM.length:Int):=by rw [h.ok.zM];exact o2
 have o4:a.obj.toNat < m.zM.length:=by omega
 have HO:=yB o4;have ts:=HM.out.st o4;have eo:((a.obj.toNat:Nat):Int)=a.obj:=by omega
 clear o2 o4;generalize hst:(m.get a.obj.toNat).st=s at ts;have HST:=yB hst;clear hst;rw [hk] at y;clear RA KA h hk;go_enter Tryz.func44,yp
 go_upto_region 1 with fail
 try rw [e3]
 try rw [e4]
 clear e3 e4;go_upto_region 22 with fail
 go_quiet (fail)
 rename_i nq
 obtain ⟨w1,hz⟩:=eX (w0.drewN nq);rw [<- hz];have k1:Keeps zA w0 w1:=by rw [hz];exact k0.drewN _
 clear hz;by_cases how:s=1
 ·have hb:(s != 1)=false:=by rw [how];rfl
  have HBG:=zGB (xQ zR zo HM.out k1) HI.out.right HI.out.ok HO.out (HI.out.idle _ HO.out (HST.out.trans how)).2;rw [eo] at HBG;have HBH:=yB HBG;clear HBG;go_wp2_with (go_at_call 29;refine HBH.out.mono ?_;rintro e w3 ⟨rfl,g3⟩;have HW3:=yB g3;clear g3)
  have e:doM u m i a=(zEP u m a.obj.toNat,0,0):=by
   exact J55 _
  rw [e];refine xA (J246 _) rfl ⟨rfl,(HW3.out.before k1).before HKA.out⟩
 ·have hb:(s != 1)=true:=uE.2 how
  go_wp2_with fail
  have e:doM u m i a=(m,0,4):=by
   exact J52 _
  exact J41 _
theorem zNB {w:World} {T:zS} {F:Nat -> Prop} {id b i:Nat} {u:Un} {p:zAn} {m:zm} {H:List HTh} {a:Ac} {n:Int} {xa ta ea:Option Addr} {xc tc ec:Nat} (h:RDo w T F id b u p i m H a n xa) (hk:a.kind=8) :
 Calls Tryz.prog 44 #[.pointer (some ⟨b,0,none⟩), .int .i64 i, .agg #[.int .i64 a.kind, .int .i64 a.reg, .int .i64 a.obj, .int .i64 a.ex.kind, .int .i64 a.ex.num, .string a.ex.nm, .slice xa a.ex.args.length xc, .int .i64 a.count, .slice ta a.thn.length tc, .slice ea a.els.length ec]] w fun e w'=>e=.returned (.tuple #[.int .i64 (doM u m i a).2.1, .int .i64 (doM u m i a).2.2]) /\ RW w T F id b u p (doM u m i a).1 w':=by
 have HK:=yB hk;obtain ⟨ba,w0,e3,e4,RA,KA,_⟩:=newRow w [.int .i64 a.kind, .int .i64 a.reg, .int .i64 a.obj, .int .i64 a.ex.kind, .int .i64 a.ex.num, .string a.ex.nm, .slice xa a.ex.args.length xc, .int .i64 a.count, .slice ta a.thn.length tc, .slice ea a.els.length ec] 68;have HM:Hid (RM w0 T F id b u p m H):=xQ zR zo h.M KA;have HXS:Hid (zN w0 F a.ex.args xa):=xY h.xs KA (fun _ _ h=>h);have HBA:Hid (T ba=none):=(h.M.zM.sep.free (g:=ba) (by omega)).1;have HKA:=yB KA;have HI:=yB h;have HRA:=yB RA;have i0:(0:Int) <= i:=by omega
 have i1:(i:Int) < (m.zM.length:Int):=by have:=h.hi;omega
 have y:=RA.zAI;have y5:=HM.out.zA1;have k0:=zH w0;obtain ⟨o1,o2⟩:=zDD h.may (by omega);have o3:a.obj < (m.zM.length:Int):=by rw [h.ok.zM];exact o2
 have o4:a.obj.toNat < m.zM.length:=by omega
 have HO:=yB o4;have ts:=HM.out.st o4;have eo:((a.obj.toNat:Nat):Int)=a.obj:=by omega
 clear o2 o4;generalize hst:(m.get a.obj.toNat).st=s at ts;have HST:=yB hst;clear hst;rw [hk] at y;clear RA KA h hk;go_enter Tryz.func44,yp
 go_upto_region 1 with fail
 try rw [e3]
 try rw [e4]
 clear e3 e4;go_upto_region 26 with fail
 go_quiet (fail)
 rename_i nq
 obtain ⟨w1,hz⟩:=eX (w0.drewN nq);rw [<- hz];have k1:Keeps zA w0 w1:=by rw [hz];exact k0.drewN _
 clear hz;by_cases how:s=1
 ·have hb:(s==1)=true:=by rw [how];rfl
  go_wp2_with fail
  have e:doM u m i a=(m,0,3):=by
   exact J51 _
  exact J41 _
 ·have hb:(s==1)=false:=yY how
  go_wp2_with fail
  have e:doM u m i a=(m,0,0):=by
   exact J44 _
  exact J41 _
theorem zNm {w:World} {T:zS} {F:Nat -> Prop} {id b i:Nat} {u:Un} {p:zAn} {m:zm} {H:List HTh} {a:Ac} {n:Int} {xa ta ea:Option Addr} {xc tc ec:Nat} (h:RDo w T F id b u p i m H a n xa) (hk:a.kind=9) :
 Calls Tryz.prog 44 #[.pointer (some ⟨b,0,none⟩), .int .i64 i, .agg #[.int .i64 a.kind, .int .i64 a.reg, .int .i64 a.obj, .int .i64 a.ex.kind, .int .i64 a.ex.num, .string a.ex.nm, .slice xa a.ex.args.length xc, .int .i64 a.count, .slice ta a.thn.length tc, .slice ea a.els.length ec]] w fun e w'=>e=.returned (.tuple #[.int .i64 (doM u m i a).2.1, .int .i64 (doM u m i a).2.2]) /\ RW w T F id b u p (doM u m i a).1 w':=by
 have HK:=yB hk;obtain ⟨ba,w0,e3,e4,RA,KA,_⟩:=newRow w [.int .i64 a.kind, .int .i64 a.reg, .int .i64 a.obj, .int .i64 a.ex.kind, .int .i64 a.ex.num, .string a.ex.nm, .slice xa a.ex.args.length xc, .int .i64 a.count, .slice ta a.thn.length tc, .slice ea a.els.length ec] 68;have HM:Hid (RM w0 T F id b u p m H):=xQ zR zo h.M KA;have HXS:Hid (zN w0 F a.ex.args xa):=xY h.xs KA (fun _ _ h=>h);have HBA:Hid (T ba=none):=(h.M.zM.sep.free (g:=ba) (by omega)).1;have HKA:=yB KA;have HI:=yB h;have HRA:=yB RA;have i0:(0:Int) <= i:=by omega
 have i1:(i:Int) < (m.zM.length:Int):=by have:=h.hi;omega
 have y:=RA.zAI;have y5:=HM.out.zA1;have k0:=zH w0;obtain ⟨ra,rc,yr,HV⟩:=HM.out.zOA h.hi h.reg HXS.out (Ac.zDU h.may (by omega)) xc;generalize hval:a.ex.val (m.get i).regs=val at HV;have HVAL:=yB hval;clear hval;rw [hk] at y;clear RA KA h hk;go_enter Tryz.func44,yp
 go_upto_region 1 with fail
 try rw [e3]
 try rw [e4]
 clear e3 e4;go_upto_region 29 with fail
 refine zL 7 (by kernel_rfl) (by kernel_rfl) (Keeps zA) (yC zA) (fun a b c h h'=>xE h h') (zAH [some (.pointer (some ⟨ba,3,none⟩)),some (.agg #[.int .i64 a.ex.kind, .int .i64 a.ex.num, .string a.ex.nm, .slice xa a.ex.args.length xc]),some (.pointer (some ⟨p.gt,i*3,none⟩)),some (.pointer (some ⟨p.gt,i*3,none⟩)),some (.pointer (some ⟨p.gt,i*3+1,none⟩)),some (.slice ra (m.get i).regs.length rc),some (.int .i64 val)] (fun _ _ _=>False)) (uG (fun _ _ _ _ h _=>h)) ?_ ?_
 ·exact J14 _
 ·intro vs W hR hFF
  have HRW:Keeps zA w0 W:=((zH w0).drew).zB hR;have e6:vs 6=_:=hFF 6 (by decide);simp only [zJ,yD,yE,yL,Option.bind,Act.put,yF,yG,yH,yS,yR];rw [e6];clear hFF hR e6;go_upto_region 30 with fail
  by_cases hz:val=0
  ·have hb:(val==0)=true:=by rw [hz];rfl
   go_wp2_with fail
   have e:doM u m i a=(m,a.ex.val (m.get i).regs,if a.ex.val (m.get i).regs=0 then 1 else 0):=by
    exact J30 _
   rw [e,HVAL.out,if_pos hz,hz];exact J112 _
  ·have hb:(val==0)=false:=yY hz
   go_wp2_with fail
   have e:doM u m i a=(m,a.ex.val (m.get i).regs,if a.ex.val (m.get i).regs=0 then 1 else 0):=by
    exact J30 _
   rw [e,HVAL.out,if_neg hz];exact J112 _
theorem zJ2 {w:World} {T:zS} {F:Nat -> Prop} {id b i:Nat} {u:Un} {p:zAn} {m:zm} {H:List HTh} {a:Ac} {n:Int} {xa ta ea:Option Addr} {xc tc ec:Nat} (h:RDo w T F id b u p i m H a n xa) (hk:2 <= a.kind /\ a.kind <= 9) :
 Calls Tryz.prog 44 #[.pointer (some ⟨b,0,none⟩), .int .i64 i, .agg #[.int .i64 a.kind, .int .i64 a.reg, .int .i64 a.obj, .int .i64 a.ex.kind, .int .i64 a.ex.num, .string a.ex.nm, .slice xa a.ex.args.length xc, .int .i64 a.count, .slice ta a.thn.length tc, .slice ea a.els.length ec]] w fun e w'=>e=.returned (.tuple #[.int .i64 (doM u m i a).2.1, .int .i64 (doM u m i a).2.2]) /\ RW w T F id b u p (doM u m i a).1 w':=by
 rcases (show a.kind=2 \/ a.kind=3 \/ a.kind=4 \/ a.kind=5 \/ a.kind=6 \/ a.kind=7 \/ a.kind=8 \/ a.kind=9 by omega) with e | e | e | e | e | e | e | e
 ·exact zNk h e
 ·exact zNN h e
 ·exact zNg h e
 ·exact zNH h e
 ·exact zNU h e
 ·exact zM6 h e
 ·exact zNB h e
 ·exact zNm h e
end Go.Proofs.YtfokdllgnblamaaGreatDoor
