/- Layer K: texts joined. -/
import Derived.Test.YtfokdllgnblamaaGreatDoorK41
set_option linter.all false
set_option maxHeartbeats 8000000
set_option maxRecDepth 8000
namespace Go.Proofs.YtfokdllgnblamaaGreatDoor
open Go.RowKit
abbrev uM:=@zAR.trans
theorem zO6 {gp n k cap:Nat} (h:k <= cap) (h2:k <= n):∀ W,(Instr.slice 75 (.slice (some ⟨gp,0,none⟩) n cap) none (some (.int .i64 (k:Int))) none).run Tryz.prog W=.ok (.slice (some ⟨gp,0,none⟩) k cap) W:=fun W=>by
 have hs:Tryz.prog.underlying 75=some (.slice (Tryz.prog.elem 75)):=by simp [Program.elem,Tryz.underlying75]
 have hz:(Go.sizeOf (Tryz.prog.elem 75)).run Tryz.prog W=.ok 3 W:=by
  have he:Tryz.prog.elem 75=138:=by simp [Program.elem,Tryz.underlying75]
  obtain ⟨i0,hi0,hz0,hz1,hz2⟩:=info_parts zMC;rw [he];simp [go_sem,hi0,hz1]
 rw [run_slice_h W 75 _ _ _ hs .i64 _ (by omega) (by omega),hz];simp [Result.andThen,sliced,Addr.add]
theorem zA8.at {w:World} {F:Nat -> Prop} {f:WFr} {cs:List Value} (h:zA8 w F f cs):∃ (ad:Option Addr) (ac at_:Nat),cs=[.slice ad f.all.length ac, .int .i64 at_, .int .i64 f.left] /\ zAQ w F f.all ad /\ f.rest=f.all.drop at_ /\ at_ <= f.all.length /\ Ac.zW f.all <= 1000:=h
theorem zFx {w:World} {T:zS} {F:Nat -> Prop} {id g i:Nat} {H:List HTh} {zM:List WTh} {t:WTh} {u:Un} {n:Int} (h:zAV zA8 3 138 w T F id g H zM) (ht:zM[i]?=some t) (hf:zDG u n t.fs) (hn:t.regs.length=n.toNat) :
 Calls Tryz.prog 46 #[.pointer (some ⟨g,i*3,none⟩)] w fun e w'=>e=.returned (.tuple #[]) /\ zAR zA8 3 138 w T F id g i zM t.local w':=by
 have HW:Hid (zAR zA8 3 138 w T F id g i zM ⟨t.st,t.regs,t.fs⟩ w /\ zDG u n t.fs /\ t.regs.length=n.toNat):=⟨zAR.start h ht,hf,hn⟩;have hi:i < zM.length:=(yP.1 ht).1;have HI:=yB hi;clear h ht hf hn hi;go_enter Tryz.func46,Tryz.ntmps46
 go_wp2_with fail
 go_loopg [] (zA2 t.fs) (fun k wr=>∃ regs fs,Hid (k=zA2 fs /\ zAR zA8 3 138 w T F id g i zM ⟨t.st,regs,fs⟩ wr /\ zDG u n fs /\ regs.length=n.toNat /\ loc regs fs=loc t.regs t.fs))
 case atStart=>exact ⟨t.regs,t.fs,rfl,HW.out.1,HW.out.2.1,HW.out.2.2,rfl⟩
 case round =>
  obtain ⟨regs,fs,HR⟩:=hrel;obtain ⟨hk,⟨T',H',hG,hx,hkw⟩,hok,hrl,hloc⟩:=HR.out;have hti:(zM.set i ⟨t.st,regs,fs⟩)[i]?=some (⟨t.st,regs,fs⟩:WTh):=xC HI.out;have HX:Hid (zAG T T' id w /\ Keeps (zCj T id) w wr /\ gk=zA2 fs /\ regs.length=n.toNat /\ loc regs fs=loc t.regs t.fs):=⟨hx,hkw,hk,hrl,hloc⟩;clear HR hk hx hkw hrl hloc;have k0:=zH wr;cases hl:fs.getLast? with
  | none =>
    have hfs:fs=[]:=by simpa using hl
    subst hfs;obtain ⟨rv,fv,hH,_,hfs⟩:=hG.get hti;obtain ⟨css,_,_,_,⟨ad,cap,rfl⟩,_⟩:=hfs;have c:=zV (zAA hG.row hH).2.2
    have HG:Hid (zAR zA8 3 138 w T F id g i zM t.local wr):=by
     exact J103 _
    simp only [List.length_nil] at c;clear hl hH hti hG hok;go_wp2_with fail
    go_returns
    exact ⟨rfl,HG.out⟩
  | some f =>
    have hs:=zAr hl;obtain ⟨fs0,hfs0⟩:=eX fs.dropLast;rw [<- hfs0] at hs;subst hs;clear hl hfs0;obtain ⟨rv,gp,cap,css,cs,hL⟩:=zAV.zIU zR hG hti rfl;obtain ⟨hfo,hdep⟩:=hok.split;have HL:=yB hL;have HOK:=yB hok;obtain ⟨ad,ac,at_,rfl,hacs,hrest,hle,hcn⟩:=hL.pl.at;have hal:=Ac.zHv f.all;have c2:=zV hL.fv;have p0:=zV (hL.cell 0 rfl);have p1:=zV (hL.cell 1 rfl);have p2:=zV (hL.cell 2 rfl);have hroom:=hL.room;have HAC:=yB hacs;have HLE:f.left < 1000000:=by have:=hfo.2.2;omega
    have HCN:=yB hcn;clear hL hG hti hok hcn hacs;obtain ⟨m,hm⟩:=eX fs0.length;rw [<- hm] at c2 p0 p1 p2 hdep hroom;have HM:=yB hm;clear hm;have e1:IntKind.i64.wrap (((m+1:Nat):Int) - 1)=(m:Int):=J194 _;have i1:(0:Int) <= m:=by omega
    have i2:(m:Int) < ((m+1:Nat):Int):=by omega
    have i3:(0:Int) < ((m+1:Nat):Int):=by omega
    rw [vF] at p0;cases hr:f.rest with
    | nil =>
      have hge:f.all.length <= at_:=by
       have:=kJ List.length hrest
       rw [hr,List.length_nil,List.length_drop] at this;omega
      have hst:=zIC (r:=regs) (fs:=fs0) hr;have HST:=yB hst;clear hst hrest;have g1:(f.all.length:Int) <= (at_:Int):=by omega
      generalize hna:f.all.length=na at p0 g1 hle hge hal;go_upto_region 2 with fail
      go_upto_region 3 with fail
      obtain ⟨bf,wf,e3,e4,RF,KF,_⟩:=newRow wr [.slice ad na ac, .int .i64 (at_:Int), .int .i64 (f.left:Int)] 138;rw [e3,e4];have yf:=RF.zB5;have kf:=zH wf;have HKF:=yB KF;have HLF:=yB (ThX.zD zR HL.out KF);replace c2:=fun W (q:Keeps zA wf W)=>c2 W (HKF.out.zB q)
      clear e3 e4 RF KF k0 p0 p1 p2;by_cases hgt:1 < f.left
      ·have eo:zDT fs0 f=fs0++[⟨f.all,f.all,f.left - 1⟩]:=if_pos hgt
       have HEO:=yB eo;have j1:(1:Int) < (f.left:Int):=by omega
       have w1:IntKind.i64.wrap ((f.left:Int) - 1)=((f.left - 1:Nat):Int):=J253 _;have f2:=zK (HLF.out.free (j:=2) (by simp)) ⟨_,HLF.out.cell 2 rfl⟩;have p2:=zV (HLF.out.cell 2 rfl);rw [<- HM.out] at f2 p2;clear eo hgt;go_upto_region 6 with fail
       have hw5:=ThX.zN2 zR HLF.out 2 (.int .i64 ((f.left - 1:Nat):Int)) (by simp) (f':=⟨f.rest,f.all,f.left - 1⟩) (by
        obtain ⟨ad',ac',at',e5,q1,q2,q3,q4⟩:=HLF.out.pl;refine ⟨ad',ac',at',?_,q1,q2,q3,q4⟩
        rw [e5];rfl)
       rw [<- HM.out] at hw5;generalize wf.setCell ⟨gp,m*3+2,none⟩ (.int .i64 ((f.left - 1:Nat):Int))=w5 at hw5 ⊢;obtain ⟨T5,H5,G5,x5,k5⟩:=hw5;have hti5:((zM.set i ⟨t.st,regs,fs0++[f]⟩).set i ⟨t.st,regs,fs0++[⟨f.rest,f.all,f.left - 1⟩]⟩)[i]?=some (⟨t.st,regs,fs0++[⟨f.rest,f.all,f.left - 1⟩]⟩:WTh):=xC (J212 _);obtain ⟨rv5,gp5,cap5,css5,cs5,hL5⟩:=zAV.zIU zR G5 hti5 rfl;obtain ⟨ad5,ac5,at5,rfl,hacs5,_,_,hcn5⟩:=hL5.pl.at;have HW5:=yB (ThX.zN2 zR hL5 1 (.int .i64 0) (by simp) (f':=⟨f.all,f.all,f.left - 1⟩) ⟨ad5,ac5,0,rfl,hacs5,rfl,yJ _,hcn5⟩);have c5:=zV hL5.fv;have p5:=zV (hL5.cell 1 rfl);have f5:=zK (hL5.free (j:=1) (by simp)) ⟨_,hL5.cell 1 rfl⟩;rw [<- HM.out] at c5 p5 f5 HW5;have HX5:Hid (zAG T' T5 id wf /\ Keeps (zCj T' id) wf w5):=⟨x5,k5⟩;have k5':=zH w5;clear G5 x5 k5 hti5 hL5 hacs5 hcn5 c2 yf kf f2 p2;go_wp2_with fail
       generalize w5.setCell ⟨gp5,m*3+1,none⟩ (.int .i64 0)=w6 at HW5 ⊢;go_roundg (zA2 (zDT fs0 f))
       case measure=>rw [HX.out.2.2.1];exact zAL HST.out
       case rel =>
        refine ⟨regs,zDT fs0 f,rfl,?_,HOK.out.step HST.out,HX.out.2.2.2.1,by rw [<- zAx HST.out];exact HX.out.2.2.2.2⟩
        rw [HEO.out];exact uM HX.out.1 HX.out.2.1 ((uM HX5.out.1 HX5.out.2 HW5.out).before HKF.out)
      ·have eo:zDT fs0 f=fs0:=if_neg hgt
       have HEO:=yB eo;have j1:¬ (1:Int) < (f.left:Int):=by omega
       have HP:=zO6 (gp:=gp) (n:=m+1) (k:=m) (cap:=cap) (by omega) (by omega);have f2:=zK (zCt HLF.out.G.row (by have:=(yP.1 HLF.out.h).1;exact this) 2 (by decide)) ⟨_,HLF.out.fv⟩;have HW5:=yB (ThX.zPa zR HLF.out);rw [<- HM.out] at HW5;clear eo hgt;go_wp2_with fail
       generalize wf.setCell ⟨g,i*3+2,none⟩ (.slice (some ⟨gp,0,none⟩) m cap)=w6 at HW5 ⊢;go_roundg (zA2 (zDT fs0 f))
       case measure=>rw [HX.out.2.2.1];exact zAL HST.out
       case rel =>
        refine ⟨regs,zDT fs0 f,rfl,?_,HOK.out.step HST.out,HX.out.2.2.2.1,by rw [<- zAx HST.out];exact HX.out.2.2.2.2⟩
        rw [HEO.out];exact uM HX.out.1 HX.out.2.1 (HW5.out.before HKF.out)
    | cons a r =>
      have hmay:Ac.may u n a=true:=by have:=hfo.1;rw [hr] at this;exact (Ac.zCW this).1
      have HMAY:=yB hmay
      have hlt:at_ < f.all.length:=by
       exact J144 _
      have hat:f.all[at_]=a:=by
       have e:f.all.drop at_=f.all[at_] :: f.all.drop (at_+1):=List.drop_eq_getElem_cons hlt;rw [<- hrest,hr] at e;exact (List.cons.inj e).1.symm
      obtain ⟨ga,oa,xa,xc,ta,tc,ea,ec,rfl,hga,q0,q1,q2,q3,q4,q5,q6,q7,q8,q9,hxs,htv,hev⟩:=HAC.out.at hlt;rw [hat] at q0 q1 q2 q3 q4 q5 q6 q7 q8 q9 hxs htv hev;have HXS:=yB hxs;have HTV:=yB htv;have HEV:=yB hev;have hca:a.cnt <= 1000:=by have:=Ac.zMP (l:=f.all) (a:=a) (by rw [<- hat];exact yM hlt);have:=HCN.out;omega
      have HCA:Hid (Ac.zW a.thn <= 1000 /\ Ac.zW a.els <= 1000):=by have:=Ac.zEE a;exact ⟨by omega,by omega⟩
      have d:∀ W,Keeps zA wr W -> W.cell? ⟨ga,oa+at_*10,none⟩=some (.int .i64 a.kind) /\ W.cell? ⟨ga,oa+at_*10+1,none⟩=some (.int .i64 a.reg) /\ W.cell? ⟨ga,oa+at_*10+2,none⟩=some (.int .i64 a.obj) /\ W.cell? ⟨ga,oa+at_*10+3,none⟩=some (.int .i64 a.ex.kind) /\ W.cell? ⟨ga,oa+at_*10+4,none⟩=some (.int .i64 a.ex.num) ∧
       W.cell? ⟨ga,oa+at_*10+5,none⟩=some (.string a.ex.nm) /\ W.cell? ⟨ga,oa+at_*10+6,none⟩=some (.slice xa a.ex.args.length xc) /\ W.cell? ⟨ga,oa+at_*10+7,none⟩=some (.int .i64 a.count) /\ W.cell? ⟨ga,oa+at_*10+8,none⟩=some (.slice ta a.thn.length tc) /\ W.cell? ⟨ga,oa+at_*10+9,none⟩=some (.slice ea a.els.length ec) :=
       fun W hk=>⟨hk.cell (fun h=>h) q0,hk.cell (fun h=>h) q1,hk.cell (fun h=>h) q2,hk.cell (fun h=>h) q3,hk.cell (fun h=>h) q4,hk.cell (fun h=>h) q5,hk.cell (fun h=>h) q6,hk.cell (fun h=>h) q7,hk.cell (fun h=>h) q8,hk.cell (fun h=>h) q9⟩
      have g1:¬ (f.all.length:Int) <= (at_:Int):=by omega
      have g2:(at_:Int) < (f.all.length:Int):=by omega
      have g3:(0:Int) <= at_:=by omega
      clear q0 q1 q2 q3 q4 q5 q6 q7 q8 q9 hxs htv hev hga hat hrest hmay hca hle hlt;have HAL:=yB hal;clear hal;generalize hna:f.all.length=na at p0 g1 g2;clear hna;go_upto_region 2 with fail
      go_upto_region 3 with fail
      obtain ⟨bf,wf,e3,e4,RF,KF,_⟩:=newRow wr [.slice (some ⟨ga,oa,none⟩) na ac, .int .i64 (at_:Int), .int .i64 (f.left:Int)] 138;rw [e3,e4];have yf:=RF.zB5;have kf:=zH wf;have HKF:=yB KF;replace d:=fun W (q:Keeps zA wf W)=>d W (HKF.out.zB q)
      clear e3 e4 RF KF k0 p0 p1 p2 c2;go_upto_region 9 with fail
      obtain ⟨ba,wa,e3,e4,RA,KA,_⟩:=newRow wf [.int .i64 a.kind, .int .i64 a.reg, .int .i64 a.obj, .int .i64 a.ex.kind, .int .i64 a.ex.num, .string a.ex.nm, .slice xa a.ex.args.length xc, .int .i64 a.count, .slice ta a.thn.length tc, .slice ea a.els.length ec] 68;rw [e3,e4];have k5:Keeps zA wr wa:=HKF.out.zB KA;have y:=RA.zAI;have ka:=zH wa;have NB:Hid (wr.heap.size <= ba):=by show _ <= _;rw [<- e3];exact HKF.out.size
      clear e3 e4 KA d yf kf;have HFR:Hid (T' ba=none /\ ¬ F ba):=HL.out.G.sep.free NB.out;have j1:a.kind=a.kind:=rfl;clear j1
      have HVL:Hid (a.kind=1 \/ a.kind=10 -> ∀ rv',rv=rv' -> Ret wr 76 #[.agg #[.int .i64 a.ex.kind, .int .i64 a.ex.num, .string a.ex.nm, .slice xa a.ex.args.length xc],rv'] (.int .i64 (a.ex.val regs))):=by
       rintro hk rv' rfl W hq
       have hs:=(HL.out.regs.keeps hq (fun _ _ h=>h)).src;exact zIA regs n _ HX.out.2.2.2.1 a.ex W F xa xc (xY HXS.out hq (fun _ _ h=>h)) hs (Ac.zDU HMAY.out (by rcases hk with h | h;exact .inl h;exact .inr (.inr (.inr (.inr h)))))
      by_cases n1:a.kind=1
      ·have HST:=yB (zIQ (rg:=regs) (fs:=fs0) hr n1)
       obtain ⟨r0,r1⟩:=Ac.zDw HMAY.out (.inl n1);have hlt:a.reg.toNat < regs.length:=by have:=HX.out.2.2.2.1;omega
       obtain ⟨gr,rc,hrv,hTg,hRr⟩:=HL.out.regs.at hlt;have hrv:rv=.slice (some ⟨gr,0,none⟩) regs.length rc:=hrv;have HV:=HVL.out (.inl n1) _ hrv;have tc1:=zV (zAA HL.out.G.row HL.out.h).2.1;rw [show (⟨t.st,rv, .slice (some ⟨gp,0,none⟩) (fs0.length+1) cap⟩:HTh).rv=.slice (some ⟨gr,0,none⟩) regs.length rc from hrv] at tc1;have rcell:=zV (hRr.cell (zu regs _ hlt));have rfree:=zK (hRr.free (k:=a.reg.toNat) (by rw [zAE];exact hlt)) ⟨_,hRr.cell (zu regs _ hlt)⟩;have HRR:Hid (rv=.slice (some ⟨gr,0,none⟩) regs.length rc /\ T' gr=some (id, .regs i) /\ zC wr gr (ints regs) /\ a.reg.toNat < regs.length):=⟨hrv,hTg,hRr,hlt⟩;have x1:a.reg < (regs.length:Int):=by omega
       have x2:((a.reg.toNat:Nat):Int)=a.reg:=by omega
       generalize hval:a.ex.val regs=val at HV;have HVAL:=yB hval;clear hval;generalize hzr:regs.length=zr at HV tc1 x1;have HZR:=yB hzr;clear hzr hrv hTg hRr hlt r1;simp only [n1] at y;rw [n1];clear n1;go_upto_region 11 with fail
       refine zL 14 (by kernel_rfl) (by kernel_rfl) (Keeps zA) (yC zA) (fun a b c h h'=>xE h h') (zAH [some (.pointer (some ⟨g,i*3,none⟩)),some (.pointer (some ⟨g,i*3,none⟩)),some (.pointer (some ⟨g,i*3+1,none⟩)),some (.slice (some ⟨gr,0,none⟩) zr rc),some (.pointer (some ⟨ba,1,none⟩)),some (.int .i64 a.reg),some (.pointer (some ⟨ba,3,none⟩)),some (.agg #[.int .i64 a.ex.kind, .int .i64 a.ex.num, .string a.ex.nm, .slice xa a.ex.args.length xc]),some (.pointer (some ⟨g,i*3,none⟩)),some (.pointer (some ⟨g,i*3,none⟩)),some (.pointer (some ⟨g,i*3+1,none⟩)),some (.slice (some ⟨gr,0,none⟩) zr rc),some (.int .i64 val),some (.pointer (some ⟨gr,a.reg.toNat,none⟩))] (fun _ _ _=>False)) (uG (fun _ _ _ _ h _=>h)) ?_ ?_
       ·intro q oo hq ho vs W Q' hR hd hK
        have HRW:Keeps zA wa W:=((zH wa).drew).zB hR;have k5W:=k5.zB HRW;rcases (show q=0 \/ q=1 \/ q=2 \/ q=3 \/ q=4 \/ q=5 \/ q=6 \/ q=7 \/ q=8 \/ q=9 \/ q=10 \/ q=11 \/ q=12 \/ q=13 by omega) with rfl | rfl | rfl | rfl | rfl | rfl | rfl | rfl | rfl | rfl | rfl | rfl | rfl | rfl
        all_goals (simp only [yD,yE,yO] at ho;subst ho;simp only [zJ,yD,yE,yL,Option.bind,Act.put,yF,yG,yH] at hK ⊢;clear hq)
        all_goals try ((try (have e:vs 0=_:=hd 0 (by decide +kernel);rw [e] at hK ⊢;clear e));(try (have e:vs 1=_:=hd 1 (by decide +kernel);rw [e] at hK ⊢;clear e));(try (have e:vs 2=_:=hd 2 (by decide +kernel);rw [e] at hK ⊢;clear e));(try (have e:vs 3=_:=hd 3 (by decide +kernel);rw [e] at hK ⊢;clear e));(try (have e:vs 4=_:=hd 4 (by decide +kernel);rw [e] at hK ⊢;clear e));(try (have e:vs 5=_:=hd 5 (by decide +kernel);rw [e] at hK ⊢;clear e));(try (have e:vs 6=_:=hd 6 (by decide +kernel);rw [e] at hK ⊢;clear e));(try (have e:vs 7=_:=hd 7 (by decide +kernel);rw [e] at hK ⊢;clear e));(try (have e:vs 8=_:=hd 8 (by decide +kernel);rw [e] at hK ⊢;clear e));(try (have e:vs 9=_:=hd 9 (by decide +kernel);rw [e] at hK ⊢;clear e));(try (have e:vs 10=_:=hd 10 (by decide +kernel);rw [e] at hK ⊢;clear e));(try (have e:vs 11=_:=hd 11 (by decide +kernel);rw [e] at hK ⊢;clear e));(try (have e:vs 12=_:=hd 12 (by decide +kernel);rw [e] at hK ⊢;clear e));(try (have e:vs 13=_:=hd 13 (by decide +kernel);rw [e] at hK ⊢;clear e));clear hd;go_wp2_with (go_at_call 76;refine HV.call (k5.zB HRW) ?_;intro w6 _ g6);first | exact hK _ _ (yC _ _) rfl | exact hK _ _ (by assumption) rfl)
       ·intro vs W hR hFF
        have HRW:Keeps zA wa W:=((zH wa).drew).zB hR;have k5W:=k5.zB HRW;have e12:vs 12=_:=hFF 12 (by decide);have e13:vs 13=_:=hFF 13 (by decide);simp only [zJ,yD,yE,yL,Option.bind,Act.put,yF,yG,yH,yS,yR];rw [e12,e13];clear hFF e12 e13 tc1;go_upto_region 12 with fail
        have hfs:=(HL.out.G.each i _ _ HL.out.h HL.out.th).2.2;have hh7:=HL.out.h;rw [HRR.out.1] at hh7 hfs;have hw7:=(zFk zR (t:=⟨t.st,regs,fs0++[f]⟩) (vN zR HL.out.G k5W (fun _ _ h=>h)) hh7 HRR.out.2.1 (HRR.out.2.2.1.keeps k5W (fun h=>h)) (zBV.keeps zR hfs k5W (fun _ _ h=>h) (fun _ _ h=>h)) HRR.out.2.2.2 val).before k5W;generalize W.setCell ⟨gr,a.reg.toNat,none⟩ (.int .i64 val)=w7 at hw7 ⊢;obtain ⟨T7,H7,G7,x7,k7⟩:=hw7;have hi7:((zM.set i ⟨t.st,regs,fs0++[f]⟩).set i ⟨t.st,regs.set a.reg.toNat val,fs0++[f]⟩)[i]?=some (⟨t.st,regs.set a.reg.toNat val,fs0++[f]⟩:WTh):=xC (J212 _);obtain ⟨rv7,gp7,cap7,css7,cs7,hL7⟩:=zAV.zIU zR G7 hi7 rfl;have HP7:=yB (zG5 hL7 hr (by rw [<- HM.out];exact hdep));have HX7:Hid (zAG T' T7 id wr /\ Keeps (zCj T' id) wr w7):=⟨x7,k7⟩;clear hfs hh7 G7 x7 k7 hi7 hL7;go_wp2_with (go_at_call 45;refine HP7.out.mono ?_;rintro e w8 ⟨rfl,g8⟩;have HW8:=yB g8;clear g8)
        exact J46 _
      have HP:Hid (∀ W,Keeps zA wr W -> Calls Tryz.prog 45 #[.pointer (some ⟨g,i*3,none⟩)] W fun e w'=>e=.returned (.tuple #[]) /\ zAR zA8 3 138 W T' F id g i (zM.set i ⟨t.st,regs,fs0++[f]⟩) ⟨t.st,regs,fs0++[⟨r,f.all,f.left⟩]⟩ w'):=fun W hk=>zG5 (ThX.zD zR HL.out hk) hr (by rw [<- HM.out];exact hdep)
      have hT5:∀ (T5:zS),((zM.set i ⟨t.st,regs,fs0++[f]⟩).set i ⟨t.st,regs,fs0++[⟨r,f.all,f.left⟩]⟩)[i]?=some (⟨t.st,regs,fs0++[⟨r,f.all,f.left⟩]⟩:WTh):=fun _=>xC (J212 _)
      have HT5:=yB (hT5 T');clear hT5
      have HF5:Hid (∀ k,F k -> ¬ zCj T' id k):=fun k hk e=>by
       exact J65 _
      have HN5:Hid ((fs0++[(⟨r,f.all,f.left⟩:WFr)]).length < 1000001):=by show _ < _;rw [xU,<- HM.out];simp;omega
      by_cases n10:a.kind=10
      ·have HST:Hid (∀ b,(b=if a.ex.val regs ≠ 0 then a.thn else a.els) -> zBG regs (fs0++[f])=some (regs,(fs0++[⟨r,f.all,f.left⟩])++[⟨b,b,1⟩])):=fun b hb=>zJX hr n10 hb
       obtain ⟨ra,rc,hrv,_⟩:=HL.out.regs;have HV:=HVL.out (.inr n10) _ hrv;have tc1:=zV (zAA HL.out.G.row HL.out.h).2.1;rw [show (⟨t.st,rv, .slice (some ⟨gp,0,none⟩) (fs0.length+1) cap⟩:HTh).rv=.slice ra regs.length rc from hrv] at tc1;generalize hval:a.ex.val regs=val at HV HST;have HVAL:=yB hval;clear hval;generalize hzr:regs.length=zr at HV tc1;clear hzr hrv;simp only [n10] at y;rw [n10];clear n10 n1;go_upto_region 14 with fail
       refine zL 7 (by kernel_rfl) (by kernel_rfl) (Keeps zA) (yC zA) (fun a b c h h'=>xE h h') (zAH [some (.pointer (some ⟨ba,3,none⟩)),some (.agg #[.int .i64 a.ex.kind, .int .i64 a.ex.num, .string a.ex.nm, .slice xa a.ex.args.length xc]),some (.pointer (some ⟨g,i*3,none⟩)),some (.pointer (some ⟨g,i*3,none⟩)),some (.pointer (some ⟨g,i*3+1,none⟩)),some (.slice ra zr rc),some (.int .i64 val)] (fun _ _ _=>False)) (uG (fun _ _ _ _ h _=>h)) ?_ ?_
       ·intro q oo hq ho vs W Q' hR hd hK
        have HRW:Keeps zA wa W:=((zH wa).drew).zB hR;have k5W:=k5.zB HRW;rcases (show q=0 \/ q=1 \/ q=2 \/ q=3 \/ q=4 \/ q=5 \/ q=6 by omega) with rfl | rfl | rfl | rfl | rfl | rfl | rfl
        all_goals (simp only [yD,yE,yO] at ho;subst ho;simp only [zJ,yD,yE,yL,Option.bind,Act.put,yF,yG,yH] at hK ⊢;clear hq)
        all_goals try ((try (have e:vs 0=_:=hd 0 (by decide +kernel);rw [e] at hK ⊢;clear e));(try (have e:vs 1=_:=hd 1 (by decide +kernel);rw [e] at hK ⊢;clear e));(try (have e:vs 2=_:=hd 2 (by decide +kernel);rw [e] at hK ⊢;clear e));(try (have e:vs 3=_:=hd 3 (by decide +kernel);rw [e] at hK ⊢;clear e));(try (have e:vs 4=_:=hd 4 (by decide +kernel);rw [e] at hK ⊢;clear e));(try (have e:vs 5=_:=hd 5 (by decide +kernel);rw [e] at hK ⊢;clear e));(try (have e:vs 6=_:=hd 6 (by decide +kernel);rw [e] at hK ⊢;clear e));clear hd;go_wp2_with (go_at_call 76;refine HV.call (k5.zB HRW) ?_;intro w6 _ g6);first | exact hK _ _ (yC _ _) rfl | exact hK _ _ (by assumption) rfl)
       ·intro vs W hR hFF
        have HRW:Keeps zA wa W:=((zH wa).drew).zB hR;have k5W:=k5.zB HRW;have e6:vs 6=_:=hFF 6 (by decide);simp only [zJ,yD,yE,yL,Option.bind,Act.put,yF,yG,yH,yS,yR];rw [e6];have RAW:=yB (RA.keeps HRW (fun h=>h));clear hFF e6 tc1 y ka;go_upto_region 16 with (go_at_call 45;refine (HP.out _ k5W).mono ?_;rintro e w5 ⟨rfl,g5⟩;have HW5:=yB g5;clear g5)
        have HWr:=yB (HW5.out.before k5W);obtain ⟨_,_,_,_,hk5a⟩:=HW5.out;have R5:=RAW.out.keeps hk5a (J238 _);clear hk5a;have y:=R5.zAI;have kw5:=zH w5;obtain ⟨T5,H5,G5,x5,K5⟩:=HWr.out;have HX5:Hid (zAG T' T5 id wr /\ Keeps (zCj T' id) wr w5):=⟨x5,K5⟩
        have HPS:Hid (∀ (l:List Ac) (la:Option Addr) (lc:Nat),zAQ wr F l la -> Ac.zW l <= 1000 -> Calls Tryz.prog 64 #[.pointer (some ⟨g,i*3,none⟩), .slice la l.length lc, .int .i64 1] w5 fun e w'=>e=.returned (.tuple #[]) /\ zAR zA8 3 138 w5 T5 F id g i ((zM.set i ⟨t.st,regs,fs0++[f]⟩).set i ⟨t.st,regs,fs0++[⟨r,f.all,f.left⟩]⟩) ⟨t.st,regs,(fs0++[⟨r,f.all,f.left⟩])++[⟨l,l,1⟩]⟩ w') :=
         fun l la lc hl hc=>zEW G5 HT5.out HN5.out (hl.keeps HX5.out.2 HF5.out) hc 1 (by decide)
        clear G5 x5 K5;by_cases hz:val=0
        ·have HST2:=yB (HST.out a.els (by rw [if_neg (fun h=>h hz)]))
         have HPQ:=yB (HPS.out a.els ea ec HEV.out HCA.out.2);have hzb:(val != 0)=false:=by rw [hz];rfl
         clear hz;go_wp2_with (go_at_call 64;refine HPQ.out.mono ?_;rintro e w8 ⟨rfl,g8⟩;have HW8:=yB g8;clear g8)
         go_roundg (zA2 ((fs0++[⟨r,f.all,f.left⟩])++[⟨a.els,a.els,1⟩]))
         case measure=>rw [HX.out.2.2.1];exact zAL HST2.out
         case rel=>exact ⟨regs,(fs0++[⟨r,f.all,f.left⟩])++[⟨a.els,a.els,1⟩],rfl,uM HX.out.1 HX.out.2.1 (uM HX5.out.1 HX5.out.2 HW8.out),HOK.out.step HST2.out,HX.out.2.2.2.1,by exact J211 _⟩
        ·have HST2:=yB (HST.out a.thn (by rw [if_pos hz]))
         have HPQ:=yB (HPS.out a.thn ta tc HTV.out HCA.out.1);have hzb:(val != 0)=true:=uE.2 hz;clear hz;go_wp2_with (go_at_call 64;refine HPQ.out.mono ?_;rintro e w8 ⟨rfl,g8⟩;have HW8:=yB g8;clear g8)
         go_roundg (zA2 ((fs0++[⟨r,f.all,f.left⟩])++[⟨a.thn,a.thn,1⟩]))
         case measure=>rw [HX.out.2.2.1];exact zAL HST2.out
         case rel=>exact ⟨regs,(fs0++[⟨r,f.all,f.left⟩])++[⟨a.thn,a.thn,1⟩],rfl,uM HX.out.1 HX.out.2.1 (uM HX5.out.1 HX5.out.2 HW8.out),HOK.out.step HST2.out,HX.out.2.2.2.1,by exact J211 _⟩
      by_cases n11:a.kind=11
      ·have HST:=yB (zIT (rg:=regs) (fs:=fs0) hr n11)
       simp only [n11] at y;rw [n11];clear n11 n1 n10;go_upto_region 21 with (go_at_call 45;refine (HP.out _ k5).mono ?_;rintro e w5 ⟨rfl,g5⟩;have HW5:=yB g5;clear g5)
       have HWr:=yB (HW5.out.before k5);obtain ⟨_,_,_,_,hk5a⟩:=HW5.out;have R5:=RA.keeps hk5a (J238 _);clear hk5a y ka;have y:=R5.zAI;have kw5:=zH w5;by_cases hc:0 < a.count
       ·have hst2:=HST.out
        rw [if_pos hc] at hst2;have HST2:=yB hst2;clear hst2;obtain ⟨T5,H5,G5,x5,K5⟩:=HWr.out;have HX5:Hid (zAG T' T5 id wr /\ Keeps (zCj T' id) wr w5):=⟨x5,K5⟩;have HPQ:=yB (zEW (lc:=tc) G5 HT5.out HN5.out (HTV.out.keeps HX5.out.2 HF5.out) HCA.out.1 a.count hc);clear G5 x5 K5 hc;go_wp2_with (go_at_call 64;refine HPQ.out.mono ?_;rintro e w8 ⟨rfl,g8⟩;have HW8:=yB g8;clear g8)
        go_roundg (zA2 ((fs0++[⟨r,f.all,f.left⟩])++[⟨a.thn,a.thn,a.count.toNat⟩]))
        case measure=>rw [HX.out.2.2.1];exact zAL HST2.out
        case rel=>exact ⟨regs,(fs0++[⟨r,f.all,f.left⟩])++[⟨a.thn,a.thn,a.count.toNat⟩],rfl,uM HX.out.1 HX.out.2.1 (uM HX5.out.1 HX5.out.2 HW8.out),HOK.out.step HST2.out,HX.out.2.2.2.1,by exact J211 _⟩
       ·have hst2:=HST.out
        rw [if_neg hc] at hst2;have HST2:=yB hst2;clear hst2;go_wp2_with (go_at_call 64;refine (zJB _ (by omega) _ _).mono ?_;rintro e w8 ⟨rfl,rfl⟩)
        exact J61 _
      have HG:Hid (zAR zA8 3 138 w T F id g i zM t.local wr):=by
       exact J89 _
      have b1:(a.kind==1)=false:=yY n1;have b10:(a.kind==10)=false:=yY n10;have b11:(a.kind==11)=false:=yY n11;go_wp2_with fail
      go_returns
      exact ⟨rfl,HG.out.after zR k5⟩
end Go.Proofs.YtfokdllgnblamaaGreatDoor
