/- Layer K: texts joined. -/
import Derived.Test.YtfokdllgnblamaaGreatDoorK25
import Derived.Test.YtfokdllgnblamaaGreatDoorK22
set_option linter.all false
set_option maxHeartbeats 8000000
set_option maxRecDepth 8000
namespace Go.Proofs.YtfokdllgnblamaaGreatDoor
open Go.RowKit
abbrev yn:=@List.set_set
theorem J46 (P:Prop) (h:P:=by
 go_roundg (zA2 (fs0++[⟨r,f.all,f.left⟩]))
 case measure=>rw [HX.out.2.2.1];exact zAL HST.out
 case rel=>exact ⟨regs.set a.reg.toNat val,fs0++[⟨r,f.all,f.left⟩],rfl,zAR.trans HX.out.1 HX.out.2.1 (zAR.trans HX7.out.1 HX7.out.2 HW8.out),HOK.out.step HST.out,by rw [uU];exact HX.out.2.2.2.1,by rw [<- HX.out.2.2.2.2,zAx HST.out,HVAL.out]⟩):P:=h
theorem J48 (P:Prop) (h:P:=by
 go_wp2_with (go_at_call 79;refine (HO.out _ (by assumption)).mono ?_;rintro e w5 ⟨rfl,g5⟩;have HN5:=yB (HN.out _ _ k4 g5);clear g5)
 go_roundg (zA2 (zDT fs0 f))
 case measure=>rw [HX.out.2.2.1];exact zAL HST.out
 case rel=>exact ⟨regs,zDT fs0 f,rfl,HN5.out,HOK.out.step HST.out,HX.out.2.2.2.1,by rw [<- zAx HST.out];exact HX.out.2.2.2.2⟩):P:=h
theorem J61 (P:Prop) (h:P:=by
 go_roundg (zA2 (fs0++[⟨r,f.all,f.left⟩]))
 case measure=>rw [HX.out.2.2.1];exact zAL HST2.out
 case rel=>exact ⟨regs,fs0++[⟨r,f.all,f.left⟩],rfl,zAR.trans HX.out.1 HX.out.2.1 HWr.out,HOK.out.step HST2.out,HX.out.2.2.2.1,by rw [<- HX.out.2.2.2.2,zAx HST2.out]⟩):P:=h
theorem J65 (P:Prop) (h:P:=by
 have:=HL.out.G.sep.sep k hk
 rcases e with e | ⟨j,e | e⟩ <;> (rw [this] at e;cases e)):P:=h
theorem J89 (P:Prop) (h:P:=by
 have e:t.local=⟨t.st,regs,fs0++[f]⟩:=by
  unfold WTh.local;rw [<- HX.out.2.2.2.2,zC4 (zH1 hr n1 n10 n11)]
 rw [e];exact ⟨T',H',HL.out.G,HX.out.1,HX.out.2.1⟩):P:=h
theorem J103 (P:Prop) (h:P:=by
 have e:t.local=⟨t.st,regs,[]⟩:=by
  unfold WTh.local;rw [<- HX.out.2.2.2.2,zC4 (by simp [zBG])]
 rw [e];exact ⟨T',H',hG,HX.out.1,HX.out.2.1⟩):P:=h
theorem J134 (P:Prop) (h:P:=by
 clear hd;go_wp2_with (go_at_call 78;refine HV.call (k5.zB HRW) ?_;intro w6 _ g6)
 exact hK _ _ g6 rfl):P:=h
theorem J164 (P:Prop) (h:P:=by
 have e7:vs 7=_:=hd 7 (by kernel_rfl);rw [e7] at hK ⊢;exact J3 _):P:=h
theorem J176 (P:Prop) (h:P:=by
 have e6:vs 6=_:=hd 6 (by kernel_rfl);rw [e6] at hK ⊢;exact J3 _):P:=h
theorem J211 (P:Prop) (h:P:=by rw [<- HX.out.2.2.2.2,zAx HST2.out]):P:=h
theorem J212 (P:Prop) (h:P:=by rw [uU];exact HI.out):P:=h
theorem J238 (P:Prop) (h:P:=by rintro (h | ⟨j,h | h⟩) <;> (rw [HFR.out.1] at h;cases h)):P:=h
theorem zAR.trans {R:zBA WFr} {sz:Nat} {ty:TypeId} {w wr w2:World} {T T':zS} {F:Nat -> Prop} {id g i:Nat} {zM:List WTh} {t1 t2:WTh} (hx:zAG T T' id w) (hk:Keeps (zCj T id) w wr) (h:zAR R sz ty wr T' F id g i (zM.set i t1) t2 w2):zAR R sz ty w T F id g i zM t2 w2:=by
 obtain ⟨T2,H2,h1,h2,h3⟩:=h;rw [yn] at h1;refine ⟨T2,H2,h1,hx.trans h2 hk.size,hk.trans h3 (fun k hlt hs=>?_)⟩
 have back:∀ y,T' k=some (id,y) -> T k=some (id,y):=fun y e=>by
  rcases hx.2 k _ e with h | h
  ·exact h
  ·omega
 rcases hs with hs | ⟨j,hs | hs⟩
 ·exact .inl (back _ hs)
 ·exact .inr ⟨j, .inl (back _ hs)⟩
 ·exact .inr ⟨j, .inr (back _ hs)⟩
theorem zAR.start {R:zBA WFr} {sz:Nat} {ty:TypeId} {w:World} {T:zS} {F:Nat -> Prop} {id g i:Nat} {H:List HTh} {zM:List WTh} {t:WTh} (h:zAV R sz ty w T F id g H zM) (ht:zM[i]?=some t):zAR R sz ty w T F id g i zM t w:=by
 have e:zM.set i t=zM:=by
  obtain ⟨q1,q2⟩:=yP.1 ht;rw [<- q2,List.set_getElem_self]
 exact ⟨T,H,by rw [e];exact h,uW T id w,(yC _ _)⟩
theorem zIC {r:List Int} {fs:List WFr} {f:WFr} (hf:f.rest=[]):zBG r (fs++[f])=some (r,zDT fs f):=by
 unfold zBG zDT;simp [hf]
theorem zH1 {rg:List Int} {fs:List WFr} {f:WFr} {a:Ac} {r:List Ac} (hr:f.rest=a :: r) (h1:¬ a.kind=1) (h2:¬ a.kind=10) (h3:¬ a.kind=11):zBG rg (fs++[f])=none:=by
 unfold zBG;simp [hr,h1,h2,h3]
theorem zIQ {rg:List Int} {fs:List WFr} {f:WFr} {a:Ac} {r:List Ac} (hr:f.rest=a :: r) (h1:a.kind=1):zBG rg (fs++[f])=some (rg.set a.reg.toNat (a.ex.val rg),fs++[⟨r,f.all,f.left⟩]):=by
 unfold zBG;simp [hr,h1]
theorem zJX {rg:List Int} {fs:List WFr} {f:WFr} {a:Ac} {r:List Ac} (hr:f.rest=a :: r) (h1:a.kind=10) {b:List Ac} (hb:b=if a.ex.val rg ≠ 0 then a.thn else a.els):zBG rg (fs++[f])=some (rg,(fs++[⟨r,f.all,f.left⟩])++[⟨b,b,1⟩]):=by
 unfold zBG;simp [hr,h1,hb]
theorem zIT {rg:List Int} {fs:List WFr} {f:WFr} {a:Ac} {r:List Ac} (hr:f.rest=a :: r) (h1:a.kind=11):zBG rg (fs++[f])=some (rg,if 0 < a.count then (fs++[⟨r,f.all,f.left⟩])++[⟨a.thn,a.thn,a.count.toNat⟩] else fs++[⟨r,f.all,f.left⟩]):=by
 unfold zBG;simp [hr,h1]
theorem zDG.step {u:Un} {n:Int} {r r':List Int} {fs fs':List WFr} (h:zDG u n fs) (h1:zBG r fs=some (r',fs')):zDG u n fs':=⟨(zHS h1 h.each).2,zIj h1 h.low⟩
theorem zDG.split {u:Un} {n:Int} {fs:List WFr} {f:WFr} (h:zDG u n (fs++[f])):f.ok u n /\ fs.length < 1000000:=by
 refine ⟨h.each f (by simp),?_⟩
 have:=h.low.1
 simp at this
 omega
theorem zFk {R:zBA WFr} {sz:Nat} {ty:TypeId} (LR:zAX R sz) {w:World} {T:zS} {F:Nat -> Prop} {id g i gr rc:Nat} {H:List HTh} {zM:List WTh} {t:WTh} {fv:Value} (h:zAV R sz ty w T F id g H zM) (hH:H[i]?=some ⟨t.st, .slice (some ⟨gr,0,none⟩) t.regs.length rc,fv⟩) (hT:T gr=some (id, .regs i))
 (hr:zC w gr (ints t.regs)) (hfs:zBV R sz ty w T F id i fv t.fs) {k:Nat} (hk:k < t.regs.length) (u:Int):zAR R sz ty w T F id g i zM { t with regs:=t.regs.set k u } (w.setCell ⟨gr,k,none⟩ (.int .i64 u)):=by
 have hkp:Keeps (fun q=>q=gr) w (w.setCell ⟨gr,k,none⟩ (.int .i64 u)):=(yC (fun q=>q=gr) w).setCell (p:=⟨gr,k,none⟩) (fun _=>rfl) _;have hF:∀ q,F q -> ¬ q=gr:=fun q hq e=>by have:=h.sep.sep q hq;rw [e,hT] at this;cases this
 have hg:¬ g=gr:=fun e=>by have:=h.tag;rw [e,hT] at this;cases this
 have hI:=zBQ.set (id:=id) (t:=.regs i) (cap:=rc) hT hr k hk u
 have hHH:H.set i ⟨t.st, .slice (some ⟨gr,0,none⟩) t.regs.length rc,fv⟩=H:=by
  obtain ⟨q1,q2⟩:=yP.1 hH;rw [<- q2,List.set_getElem_self]
 have hu:=zAV.upd (i:=i) (t':={ t with regs:=t.regs.set k u }) LR h (uW T id w) (h.sep.keeps hkp) (hkp.mono (fun q _ e=>.inr (.inl (by rw [e];exact hT)))) (a':=⟨t.st, .slice (some ⟨gr,0,none⟩) t.regs.length rc,fv⟩) (by rw [hHH];exact h.row.keeps hkp hg) rfl hI
  (zBV.keeps LR hfs hkp (fun q e1 e2=>by rw [e2,hT] at e1;cases e1) hF)
 exact ⟨T,_,hu,uW T id w,hkp.mono (fun q _ e=>by rw [e];exact .inr ⟨i, .inl hT⟩)⟩
theorem zGk {w:World} {T:zS} {F:Nat -> Prop} {id g i:Nat} {H:List HTh} {zM:List WTh} {t:WTh} {u:Un} {n:Int} (h:zAV zi 1 103 w T F id g H zM) (ht:zM[i]?=some t) (hf:zDG u n t.fs) (hn:t.regs.length=n.toNat) :
 Calls Tryz.prog 52 #[.pointer (some ⟨g,i*3,none⟩)] w fun e w'=>e=.returned (.tuple #[]) /\ zAR zi 1 103 w T F id g i zM t.local w':=by
 have HW:Hid (zAR zi 1 103 w T F id g i zM ⟨t.st,t.regs,t.fs⟩ w /\ zDG u n t.fs /\ t.regs.length=n.toNat):=⟨zAR.start h ht,hf,hn⟩;have hi:i < zM.length:=(yP.1 ht).1;have HI:=yB hi;clear h ht hf hn hi;go_enter Tryz.func52,Tryz.ntmps52
 go_wp2_with fail
 go_loopg [] (zA2 t.fs) (fun k wr=>∃ regs fs,Hid (k=zA2 fs /\ zAR zi 1 103 w T F id g i zM ⟨t.st,regs,fs⟩ wr /\ zDG u n fs /\ regs.length=n.toNat /\ loc regs fs=loc t.regs t.fs))
 case atStart=>exact ⟨t.regs,t.fs,rfl,HW.out.1,HW.out.2.1,HW.out.2.2,rfl⟩
 case round =>
  obtain ⟨regs,fs,HR⟩:=hrel;obtain ⟨hk,⟨T',H',hG,hx,hkw⟩,hok,hrl,hloc⟩:=HR.out;have hti:(zM.set i ⟨t.st,regs,fs⟩)[i]?=some (⟨t.st,regs,fs⟩:WTh):=xC HI.out;have HX:Hid (zAG T T' id w /\ Keeps (zCj T id) w wr /\ gk=zA2 fs /\ regs.length=n.toNat /\ loc regs fs=loc t.regs t.fs):=⟨hx,hkw,hk,hrl,hloc⟩;clear HR hk hx hkw hrl hloc;cases hl:fs.getLast? with
  | none =>
    have hfs:fs=[]:=by simpa using hl
    subst hfs;obtain ⟨rv,fv,hH,_,hfs⟩:=hG.get hti;obtain ⟨css,_,_,_,⟨ad,cap,rfl⟩,_⟩:=hfs;have c:=(zAA hG.row hH).2.2;have HT:Ret wr 50 #[.pointer (some ⟨g,i*3,none⟩)] .nilIface:=fun W hk=>zJt W g (i*3) ad cap (hk.cell (fun h=>h) c)
    have HG:Hid (zAR zi 1 103 w T F id g i zM t.local wr):=by
     exact J103 _
    clear hl c hH hti hG hok;have k0:=zH wr;go_wp2_with (go_at_call 50;refine HT.call k0 ?_;intro w3 k3 _)
    go_returns
    exact ⟨rfl,HG.out.after zU k3⟩
  | some f =>
    have hs:=zAr hl;obtain ⟨fs0,hfs0⟩:=eX fs.dropLast;rw [<- hfs0] at hs;subst hs;clear hl hfs0;obtain ⟨rv,gp,cap,css,pv,hL⟩:=hG.last hti rfl;obtain ⟨hfo,hdep⟩:=hok.split;have HL:=yB hL;have HOK:=yB hok;have HT:Ret wr 50 #[.pointer (some ⟨g,i*3,none⟩)] pv:=fun W hk=>zF3 W g (i*3) gp fs0.length cap pv (hk.cell (fun h=>h) hL.fv) (hk.cell (fun h=>h) hL.cell) (by omega) hL.pl.one
    have hpl:=hL.pl;have k0:=zH wr;clear hL hG hti hok;have HLE:f.left < 1000000:=by have:=hfo.2.2;omega
    cases hr:f.rest with
    | nil =>
      have hst:=zIC (r:=regs) (fs:=fs0) hr;have HST:=yB hst;clear hst;have HN:Hid (∀ W w5,Keeps zA wr W -> zAR zi 1 103 W T' F id g i (zM.set i ⟨t.st,regs,fs0++[f]⟩) ⟨t.st,regs,zDT fs0 f⟩ w5 -> zAR zi 1 103 w T F id g i zM ⟨t.st,regs,zDT fs0 f⟩ w5):=fun W w5 hk hw=>zAR.trans HX.out.1 HX.out.2.1 (hw.before hk)
      have HOUT:∀ W,Keeps zA wr W -> Calls Tryz.prog 79 #[.pointer (some ⟨g,i*3,none⟩)] W fun e w'=>e=.returned (.tuple #[]) /\ zAR zi 1 103 W T' F id g i (zM.set i ⟨t.st,regs,fs0++[f]⟩) ⟨t.st,regs,zDT fs0 f⟩ w':=fun W hk=>zM4 (HL.out.zD hk) hdep HLE
      have HO:=yB HOUT;clear HOUT;unfold zBc at hpl;rw [hr] at hpl;rcases hpl with ⟨h0,v,rfl,hv⟩ | ⟨v,v2,rfl,hv,hv2⟩
      ·obtain ⟨sa,sc,rfl⟩:=hv.slice
       clear h0;clear hv;go_upto_region 2 with (first | (go_at_call 50;refine HT.call (by assumption) ?_;intro w3 k3 _) | (go_at_call 232;refine (zCb _ _ ⟨_,_,_,rfl⟩).mono ?_;rintro e w4 ⟨rfl,g4⟩;have k4:=k3.zB g4;clear g4))
       exact J48 _
      ·obtain ⟨sa,sc,rfl⟩:=hv.slice
       obtain ⟨sg,sh,rfl⟩:=hv2.slice;clear hv hv2;go_upto_region 2 with (first | (go_at_call 50;refine HT.call (by assumption) ?_;intro w3 k3 _) | (go_at_call 233;refine (zDu _ _ _ _ ⟨_,_,_,rfl⟩ ⟨_,_,_,rfl⟩).mono ?_;rintro e w4 ⟨rfl,g4⟩;have k4:=k3.zB g4;clear g4))
       exact J48 _
    | cons a r =>
      have hmay:Ac.may u n a=true:=by have:=hfo.1;rw [hr] at this;exact (Ac.zCW this).1
      have HMAY:=yB hmay;have hpass:∀ W,Keeps zA wr W -> Calls Tryz.prog 51 #[.pointer (some ⟨g,i*3,none⟩)] W fun e w'=>e=.returned (.tuple #[]) /\ zAR zi 1 103 W T' F id g i (zM.set i ⟨t.st,regs,fs0++[f]⟩) ⟨t.st,regs,fs0++[⟨r,f.all,f.left⟩]⟩ w':=fun W hk=>zER (HL.out.zD hk) hr hdep
      have HP:=yB hpass;clear hmay hpass;unfold zBc at hpl;rw [hr] at hpl;rcases hpl with hp | hp
      all_goals (first | (obtain ⟨h0,v,rfl,hv⟩:=hp;clear h0) | (obtain ⟨v,v2,rfl,hv,hv2⟩:=hp;obtain ⟨sg,sh,rfl⟩:=hv2.slice;clear hv2))
      all_goals (
       obtain ⟨ga,oa,sc,xa,xc,tv,ev,rfl,hga,hxs,htv,hev,q⟩:=hv.head;obtain ⟨ta,tc,rfl⟩:=htv.slice;obtain ⟨ea,ec,rfl⟩:=hev.slice;have HXS:=yB hxs;have HTV:=yB htv;have HEV:=yB hev
       have d:∀ W,Keeps zA wr W -> W.cell? ⟨ga,oa,none⟩=some (.int .i64 a.kind) /\ W.cell? ⟨ga,oa+1,none⟩=some (.int .i64 a.reg) /\ W.cell? ⟨ga,oa+2,none⟩=some (.int .i64 a.obj) /\ W.cell? ⟨ga,oa+3,none⟩=some (.int .i64 a.ex.kind) /\ W.cell? ⟨ga,oa+4,none⟩=some (.int .i64 a.ex.num) ∧
        W.cell? ⟨ga,oa+5,none⟩=some (.string a.ex.nm) /\ W.cell? ⟨ga,oa+6,none⟩=some (.slice xa a.ex.args.length xc) /\ W.cell? ⟨ga,oa+7,none⟩=some (.int .i64 a.count) /\ W.cell? ⟨ga,oa+8,none⟩=some (.slice ta a.thn.length tc) /\ W.cell? ⟨ga,oa+9,none⟩=some (.slice ea a.els.length ec) :=
        fun W hk=>⟨hk.cell (fun h=>h) q.1,hk.cell (fun h=>h) q.2.1,hk.cell (fun h=>h) q.2.2.1,hk.cell (fun h=>h) q.2.2.2.1,hk.cell (fun h=>h) q.2.2.2.2.1,hk.cell (fun h=>h) q.2.2.2.2.2.1,hk.cell (fun h=>h) q.2.2.2.2.2.2.1,hk.cell (fun h=>h) q.2.2.2.2.2.2.2.1,hk.cell (fun h=>h) q.2.2.2.2.2.2.2.2.1,hk.cell (fun h=>h) q.2.2.2.2.2.2.2.2.2⟩
       clear hv q hxs htv hev hga;have j1:¬ ((r.length+1:Nat):Int)=0:=by omega
       have j2:(((r.length+1:Nat):Int)==0)=false:=yY j1;go_upto_region 4 with (first | (go_at_call 50;refine HT.call (by assumption) ?_;intro w3 k3 _) | (go_at_call 232;refine (zCb _ _ ⟨_,_,_,rfl⟩).mono ?_;rintro e w4 ⟨rfl,g4⟩;have k4:=k3.zB g4;clear g4) | (go_at_call 233;refine (zDu _ _ _ _ ⟨_,_,_,rfl⟩ ⟨_,_,_,rfl⟩).mono ?_;rintro e w4 ⟨rfl,g4⟩;have k4:=k3.zB g4;clear g4))
       go_upto_region 5 with fail
       obtain ⟨ba,wa,e3,e4,RA,KA,_⟩:=newRow w4 [.int .i64 a.kind, .int .i64 a.reg, .int .i64 a.obj, .int .i64 a.ex.kind, .int .i64 a.ex.num, .string a.ex.nm, .slice xa a.ex.args.length xc, .int .i64 a.count, .slice ta a.thn.length tc, .slice ea a.els.length ec] 68;rw [e3,e4];have k5:=k4.zB KA;have y:=RA.zAI;have ka:=zH wa;have NB:Hid (wr.heap.size <= ba):=by show _ <= _;rw [<- e3];exact k4.size
       clear e3 e4 KA k3 k4 d;by_cases n1:a.kind=1
       ·have hst:=zIQ (rg:=regs) (fs:=fs0) hr n1
        have HST:=yB hst;clear hst;obtain ⟨r0,r1⟩:=Ac.zDw HMAY.out (.inl n1);have hlt:a.reg.toNat < regs.length:=by have:=HX.out.2.2.2.1;omega
        obtain ⟨gr,rc,hrv,hTg,hRr⟩:=HL.out.regs.at hlt;have hrv:rv=.slice (some ⟨gr,0,none⟩) regs.length rc:=hrv
        have HV:Ret wr 78 #[.agg #[.int .i64 a.ex.kind, .int .i64 a.ex.num, .string a.ex.nm, .slice xa a.ex.args.length xc], .slice (some ⟨gr,0,none⟩) regs.length rc] (.int .i64 (a.ex.val regs)):=fun W hk=>by
         have hs:=(HL.out.regs.keeps hk (fun _ _ h=>h)).src;rw [hrv] at hs;exact zEw regs n _ HX.out.2.2.2.1 a.ex W F xa xc (xY HXS.out hk (fun _ _ h=>h)) hs (Ac.zDU HMAY.out (.inl n1))
        have tc1:=zV (zAA HL.out.G.row HL.out.h).2.1;rw [show (⟨t.st,rv, .slice (some ⟨gp,0,none⟩) (fs0.length+1) cap⟩:HTh).rv=.slice (some ⟨gr,0,none⟩) regs.length rc from hrv] at tc1;have rcell:=zV (hRr.cell (zu regs _ hlt));have rfree:=zK (hRr.free (k:=a.reg.toNat) (by rw [zAE];exact hlt)) ⟨_,hRr.cell (zu regs _ hlt)⟩;have HRR:Hid (rv=.slice (some ⟨gr,0,none⟩) regs.length rc /\ T' gr=some (id, .regs i) /\ zC wr gr (ints regs) /\ a.reg.toNat < regs.length):=⟨hrv,hTg,hRr,hlt⟩;have i1:a.reg < (regs.length:Int):=by omega
        have i2:((a.reg.toNat:Nat):Int)=a.reg:=by omega
        generalize hval:a.ex.val regs=val at HV;have HVAL:=yB hval;clear hval;generalize hzr:regs.length=zr at HV tc1 i1;have HZR:=yB hzr;clear hzr hrv hTg hRr hlt r1;simp only [n1] at y;rw [n1];have N1:=yB n1;clear n1;go_upto_region 7 with fail
        have z13:((r.length:Int)+1==0)=false:=yY (by omega);try rw [z13]
        refine zL 14 (by kernel_rfl) (by kernel_rfl) (Keeps zA) (yC zA) (fun a b c h h'=>xE h h') (zAH [some (.pointer (some ⟨g,i*3,none⟩)),some (.pointer (some ⟨g,i*3,none⟩)),some (.pointer (some ⟨g,i*3+1,none⟩)),some (.slice (some ⟨gr,0,none⟩) zr rc),some (.pointer (some ⟨ba,1,none⟩)),some (.int .i64 a.reg),some (.pointer (some ⟨ba,3,none⟩)),some (.agg #[.int .i64 a.ex.kind, .int .i64 a.ex.num, .string a.ex.nm, .slice xa a.ex.args.length xc]),some (.pointer (some ⟨g,i*3,none⟩)),some (.pointer (some ⟨g,i*3,none⟩)),some (.pointer (some ⟨g,i*3+1,none⟩)),some (.slice (some ⟨gr,0,none⟩) zr rc),some (.int .i64 val),some (.pointer (some ⟨gr,a.reg.toNat,none⟩))] (fun _ _ _=>False)) (uG (fun _ _ _ _ h _=>h)) ?_ ?_
        ·intro q oo hq ho vs W Q' hR hd hK
         have HRW:Keeps zA wa W:=((zH wa).drew).zB hR;have k5W:=k5.zB HRW;rcases (show q=0 \/ q=1 \/ q=2 \/ q=3 \/ q=4 \/ q=5 \/ q=6 \/ q=7 \/ q=8 \/ q=9 \/ q=10 \/ q=11 \/ q=12 \/ q=13 by omega) with rfl | rfl | rfl | rfl | rfl | rfl | rfl | rfl | rfl | rfl | rfl | rfl | rfl | rfl
         all_goals (simp only [yD,yE,yO] at ho;subst ho;simp only [zJ,yD,yE,yL,Option.bind,Act.put,yF,yG,yH] at hK ⊢;clear hq)
         ·exact J3 _
         ·exact J150 _
         ·exact J155 _
         ·exact J153 _
         ·exact J3 _
         ·exact J154 _
         ·exact J3 _
         ·exact J176 _
         ·exact J3 _
         ·exact J163 _
         ·exact J161 _
         ·have e10:vs 10=_:=hd 10 (by kernel_rfl)
          rw [e10] at hK ⊢;exact J3 _
         ·have e7:vs 7=_:=hd 7 (by kernel_rfl)
          have e11:vs 11=_:=hd 11 (by kernel_rfl);rw [e7,e11] at hK ⊢;exact J134 _
         ·have e3:vs 3=_:=hd 3 (by kernel_rfl)
          have e5:vs 5=_:=hd 5 (by kernel_rfl);rw [e3,e5] at hK ⊢;exact J3 _
        ·intro vs W hR hFF
         have HRW:Keeps zA wa W:=((zH wa).drew).zB hR;have k5W:=k5.zB HRW;have e12:vs 12=_:=hFF 12 (by decide);have e13:vs 13=_:=hFF 13 (by decide);simp only [zJ,yD,yE,yL,Option.bind,Act.put,yF,yG,yH,yS,yR];rw [e12,e13];clear hFF e12 e13 tc1;go_upto_region 8 with fail
         have hfs:=(HL.out.G.each i _ _ HL.out.h HL.out.th).2.2;have hh7:=HL.out.h;rw [HRR.out.1] at hh7 hfs;have hw7:=(zFk zU (t:=⟨t.st,regs,fs0++[f]⟩) (vN zU HL.out.G k5W (fun _ _ h=>h)) hh7 HRR.out.2.1 (HRR.out.2.2.1.keeps k5W (fun h=>h)) (zBV.keeps zU hfs k5W (fun _ _ h=>h) (fun _ _ h=>h)) HRR.out.2.2.2 val).before k5W;generalize W.setCell ⟨gr,a.reg.toNat,none⟩ (.int .i64 val)=w7 at hw7 ⊢;obtain ⟨T7,H7,G7,x7,k7⟩:=hw7;have hi7:((zM.set i ⟨t.st,regs,fs0++[f]⟩).set i ⟨t.st,regs.set a.reg.toNat val,fs0++[f]⟩)[i]?=some (⟨t.st,regs.set a.reg.toNat val,fs0++[f]⟩:WTh):=xC (J212 _);obtain ⟨rv7,gp7,cap7,css7,pv7,hL7⟩:=G7.last hi7 rfl;have HP7:=yB (zER hL7 hr hdep);have HX7:Hid (zAG T' T7 id wr /\ Keeps (zCj T' id) wr w7):=⟨x7,k7⟩;clear hfs hh7 G7 x7 k7 hi7 hL7;go_wp2_with (go_at_call 51;refine HP7.out.mono ?_;rintro e w8 ⟨rfl,g8⟩;have HW8:=yB g8;clear g8)
         exact J46 _
       by_cases n10:a.kind=10
       ·have HST:Hid (∀ b,(b=if a.ex.val regs ≠ 0 then a.thn else a.els) -> zBG regs (fs0++[f])=some (regs,(fs0++[⟨r,f.all,f.left⟩])++[⟨b,b,1⟩])):=fun b hb=>zJX hr n10 hb
        have HFR:Hid (T' ba=none /\ ¬ F ba):=HL.out.G.sep.free NB.out;obtain ⟨ra,rc,hrv,_⟩:=HL.out.regs
        have HV:Ret wr 78 #[.agg #[.int .i64 a.ex.kind, .int .i64 a.ex.num, .string a.ex.nm, .slice xa a.ex.args.length xc], .slice ra regs.length rc] (.int .i64 (a.ex.val regs)):=fun W hk=>by
         have hs:=(HL.out.regs.keeps hk (fun _ _ h=>h)).src;rw [hrv] at hs;exact zEw regs n _ HX.out.2.2.2.1 a.ex W F xa xc (xY HXS.out hk (fun _ _ h=>h)) hs (Ac.zDU HMAY.out (.inr (.inr (.inr (.inr n10)))))
        have tc1:=zV (zAA HL.out.G.row HL.out.h).2.1;rw [show (⟨t.st,rv, .slice (some ⟨gp,0,none⟩) (fs0.length+1) cap⟩:HTh).rv=.slice ra regs.length rc from hrv] at tc1;generalize hval:a.ex.val regs=val at HV HST;have HVAL:=yB hval;clear hval;generalize hzr:regs.length=zr at HV tc1;have HZR:=yB hzr;clear hzr hrv;simp only [n10] at y;rw [n10];have N10:=yB n10;clear n10 n1;go_upto_region 11 with fail
        try rw [show ((r.length:Int)+1==0)=false from yY (by omega)]
        refine zL 7 (by kernel_rfl) (by kernel_rfl) (Keeps zA) (yC zA) (fun a b c h h'=>xE h h') (zAH [some (.pointer (some ⟨ba,3,none⟩)),some (.agg #[.int .i64 a.ex.kind, .int .i64 a.ex.num, .string a.ex.nm, .slice xa a.ex.args.length xc]),some (.pointer (some ⟨g,i*3,none⟩)),some (.pointer (some ⟨g,i*3,none⟩)),some (.pointer (some ⟨g,i*3+1,none⟩)),some (.slice ra zr rc),some (.int .i64 val)] (fun _ _ _=>False)) (uG (fun _ _ _ _ h _=>h)) ?_ ?_
        ·intro q oo hq ho vs W Q' hR hd hK
         have HRW:Keeps zA wa W:=((zH wa).drew).zB hR;have k5W:=k5.zB HRW;rcases (show q=0 \/ q=1 \/ q=2 \/ q=3 \/ q=4 \/ q=5 \/ q=6 by omega) with rfl | rfl | rfl | rfl | rfl | rfl | rfl
         all_goals (simp only [yD,yE,yO] at ho;subst ho;simp only [zJ,yD,yE,yL,Option.bind,Act.put,yF,yG,yH] at hK ⊢;clear hq)
         ·exact J3 _
         ·exact J150 _
         ·exact J3 _
         ·exact J153 _
         ·exact J156 _
         ·exact J154 _
         ·have e1:vs 1=_:=hd 1 (by kernel_rfl)
          have e5:vs 5=_:=hd 5 (by kernel_rfl);rw [e1,e5] at hK ⊢;exact J134 _
        ·intro vs W hR hFF
         have HRW:Keeps zA wa W:=((zH wa).drew).zB hR;have k5W:=k5.zB HRW;have e6:vs 6=_:=hFF 6 (by decide);simp only [zJ,yD,yE,yL,Option.bind,Act.put,yF,yG,yH,yS,yR];rw [e6];have yW:=fun W2 (q:Keeps zA W W2)=>y W2 (HRW.zB q)
         clear hFF e6 tc1 y ka;have y:=yW;clear yW;have kW:=zH W;by_cases hz:val=0
         ·have hst2:=HST.out a.els (by rw [if_neg (fun h=>h hz)])
          have HST2:=yB hst2;clear hst2;have hzb:(val != 0)=false:=by rw [hz];rfl
          go_upto_region 13 with fail
          go_upto_region 14 with (go_at_call 51;refine (HP.out _ k5W).mono ?_;rintro e w5 ⟨rfl,g5⟩;have HW5:=yB g5;clear g5)
          have HWr:=yB (HW5.out.before k5W);clear y kW;obtain ⟨T5,H5,G5,x5,K5⟩:=HWr.out;have hi5:((zM.set i ⟨t.st,regs,fs0++[f]⟩).set i ⟨t.st,regs,fs0++[⟨r,f.all,f.left⟩]⟩)[i]?=some (⟨t.st,regs,fs0++[⟨r,f.all,f.left⟩]⟩:WTh):=xC (J212 _);obtain ⟨rv5,fv5,hH5,hr5,css5,q1,q2,q3,⟨ad5,cap5,rfl⟩,q5⟩:=G5.get hi5;have hn5:(fs0++[(⟨r,f.all,f.left⟩:WFr)]).length=fs0.length+1:=by rw [xU];rfl
          have HPV:Hid (zBc w5 F ⟨a.els,a.els,1⟩ (.iface 135 (.agg #[.slice ea a.els.length ec]))):=by
           have hF5:∀ k,F k -> ¬ zCj T' id k:=fun k hk e=>by
            exact J65 _
           exact .inl ⟨yV _,_,rfl,HEV.out.keeps K5 hF5⟩
          have cf:=zV (zAA G5.row hH5).2.2;obtain ⟨n5,hn5'⟩:=eX ((fs0++[(⟨r,f.all,f.left⟩:WFr)]).length);rw [<- hn5'] at q1 q2 q3 cf hH5;have hn5b:n5 < 1000001:=by rw [hn5',hn5];omega
          have H5A:=yB G5;have H5B:=yB hH5;have H5C:=yB hr5;have H5D:Hid (css5.length=n5 /\ w5.ownsRow 0 103 1 (.slice ad5 n5 cap5) n5 css5.flatten /\ (∀ kb,(Value.slice ad5 n5 cap5).ownBlock=some kb -> T5 kb=some (id, .fs i)) /\ n5=(fs0++[(⟨r,f.all,f.left⟩:WFr)]).length):=⟨q1,q2,q3,hn5'⟩;have H5E:=yB q5;have HX5:Hid (zAG T' T5 id wr /\ Keeps (zCj T' id) wr w5):=⟨x5,K5⟩;obtain ⟨j0,hj0,hz0,hz1,hz2⟩:=info_parts zHI;clear G5 hH5 hr5 q1 q2 q3 q5 x5 K5 hi5 hn5 hn5' j1 j2 hz;have k5':=zH w5;obtain ⟨gb,wb,eb1,eb2,RB,KB,_⟩:=newRow w5 [.iface 135 (.agg #[.slice ea a.els.length ec])] 103;have HGB:=yB RB;have HKB:=yB KB;have HEB:Hid (w5.heap.size=gb /\ w5.alloc (.cells [Value.iface 135 (.agg #[.slice ea a.els.length ec])].toArray 103)=wb):=⟨eb1,eb2⟩;have HGW:=yB (vN zU H5A.out KB (fun _ _ h=>h));clear eb1 eb2 RB KB;go_wp2_with (at_builtin;rw [HEB.out.1,HEB.out.2];refine zI _ (by rfl) _ _ 84 (by rfl) 0 103 j0 _ 1 16 Tryz.underlying84 hj0 hz0 hz1 hz2 rfl (by decide) (.slice ad5 n5 cap5) n5 css5.flatten (by rfl) (zG H5D.out.2.1 HKB.out (fun _ _ h=>h)) (.slice (some ⟨gb,0,none⟩) 1 1) 1 [.iface 135 (.agg #[.slice ea a.els.length ec])] (by rfl) (xN HGB.out) rfl (J185 _) (by unfold maxLen;omega) (by omega) (yJ _) ?_;intro ad6 cap6 w6 ha;have HA6:=yB ha;obtain ⟨_,_,c6,f6⟩:=zAV.app HGW.out H5B.out H5D.out.2.2.1 ha;clear ha cf)
          have HWN:Hid (zAR zi 1 103 wb T5 F id g i ((zM.set i ⟨t.st,regs,fs0++[f]⟩).set i ⟨t.st,regs,fs0++[⟨r,f.all,f.left⟩]⟩) ⟨t.st,regs,(fs0++[⟨r,f.all,f.left⟩])++[⟨a.els,a.els,1⟩]⟩ (w6.setCell ⟨g,i*3+2,none⟩ (.slice ad6 (n5+1) cap6))):=by
           obtain ⟨d1,d2,d3,d4⟩:=H5D.out;have h6:=HA6.out;have hb:=H5B.out;have hg:=HGW.out;have hr:=H5C.out.keeps HKB.out (fun _ _ h=>h);have hq:=H5E.out;have hp:=HPV.out.keeps HKB.out (fun _ _ h=>h);have hkb:=HKB.out;clear HGW H5D H5B HA6 H5C H5E HPV;subst d4;exact zAV.zJh (t:=⟨t.st,regs,fs0++[⟨r,f.all,f.left⟩]⟩) (f:=⟨a.els,a.els,1⟩) zU hg hb hr d1 d3 (fun j y ds e1 e2=>zU.keeps (hq j y ds e1 e2) hkb (fun _ _ h=>h)) ⟨_,rfl,hp⟩ h6
          generalize w6.setCell ⟨g,i*3+2,none⟩ (.slice ad6 (n5+1) cap6)=w7 at HWN ⊢;go_roundg (zA2 ((fs0++[⟨r,f.all,f.left⟩])++[⟨a.els,a.els,1⟩]))
          case measure=>rw [HX.out.2.2.1];exact zAL HST2.out
          case rel=>exact ⟨regs,(fs0++[⟨r,f.all,f.left⟩])++[⟨a.els,a.els,1⟩],rfl,zAR.trans HX.out.1 HX.out.2.1 (zAR.trans HX5.out.1 HX5.out.2 (HWN.out.before HKB.out)),HOK.out.step HST2.out,HX.out.2.2.2.1,by exact J211 _⟩
         ·have hst2:=HST.out a.thn (by rw [if_pos hz])
          have HST2:=yB hst2;clear hst2;have hzb:(val != 0)=true:=uE.2 hz;go_upto_region 13 with fail
          go_upto_region 14 with (go_at_call 51;refine (HP.out _ k5W).mono ?_;rintro e w5 ⟨rfl,g5⟩;have HW5:=yB g5;clear g5)
          have HWr:=yB (HW5.out.before k5W);clear y kW;obtain ⟨T5,H5,G5,x5,K5⟩:=HWr.out;have hi5:((zM.set i ⟨t.st,regs,fs0++[f]⟩).set i ⟨t.st,regs,fs0++[⟨r,f.all,f.left⟩]⟩)[i]?=some (⟨t.st,regs,fs0++[⟨r,f.all,f.left⟩]⟩:WTh):=xC (J212 _);obtain ⟨rv5,fv5,hH5,hr5,css5,q1,q2,q3,⟨ad5,cap5,rfl⟩,q5⟩:=G5.get hi5;have hn5:(fs0++[(⟨r,f.all,f.left⟩:WFr)]).length=fs0.length+1:=by rw [xU];rfl
          have HPV:Hid (zBc w5 F ⟨a.thn,a.thn,1⟩ (.iface 135 (.agg #[.slice ta a.thn.length tc]))):=by
           have hF5:∀ k,F k -> ¬ zCj T' id k:=fun k hk e=>by
            exact J65 _
           exact .inl ⟨yV _,_,rfl,HTV.out.keeps K5 hF5⟩
          have cf:=zV (zAA G5.row hH5).2.2;obtain ⟨n5,hn5'⟩:=eX ((fs0++[(⟨r,f.all,f.left⟩:WFr)]).length);rw [<- hn5'] at q1 q2 q3 cf hH5;have hn5b:n5 < 1000001:=by rw [hn5',hn5];omega
          have H5A:=yB G5;have H5B:=yB hH5;have H5C:=yB hr5;have H5D:Hid (css5.length=n5 /\ w5.ownsRow 0 103 1 (.slice ad5 n5 cap5) n5 css5.flatten /\ (∀ kb,(Value.slice ad5 n5 cap5).ownBlock=some kb -> T5 kb=some (id, .fs i)) /\ n5=(fs0++[(⟨r,f.all,f.left⟩:WFr)]).length):=⟨q1,q2,q3,hn5'⟩;have H5E:=yB q5;have HX5:Hid (zAG T' T5 id wr /\ Keeps (zCj T' id) wr w5):=⟨x5,K5⟩;obtain ⟨j0,hj0,hz0,hz1,hz2⟩:=info_parts zHI;clear G5 hH5 hr5 q1 q2 q3 q5 x5 K5 hi5 hn5 hn5' j1 j2 hz;have k5':=zH w5;obtain ⟨gb,wb,eb1,eb2,RB,KB,_⟩:=newRow w5 [.iface 135 (.agg #[.slice ta a.thn.length tc])] 103;have HGB:=yB RB;have HKB:=yB KB;have HEB:Hid (w5.heap.size=gb /\ w5.alloc (.cells [Value.iface 135 (.agg #[.slice ta a.thn.length tc])].toArray 103)=wb):=⟨eb1,eb2⟩;have HGW:=yB (vN zU H5A.out KB (fun _ _ h=>h));clear eb1 eb2 RB KB;go_wp2_with (at_builtin;rw [HEB.out.1,HEB.out.2];refine zI _ (by rfl) _ _ 84 (by rfl) 0 103 j0 _ 1 16 Tryz.underlying84 hj0 hz0 hz1 hz2 rfl (by decide) (.slice ad5 n5 cap5) n5 css5.flatten (by rfl) (zG H5D.out.2.1 HKB.out (fun _ _ h=>h)) (.slice (some ⟨gb,0,none⟩) 1 1) 1 [.iface 135 (.agg #[.slice ta a.thn.length tc])] (by rfl) (xN HGB.out) rfl (J185 _) (by unfold maxLen;omega) (by omega) (yJ _) ?_;intro ad6 cap6 w6 ha;have HA6:=yB ha;obtain ⟨_,_,c6,f6⟩:=zAV.app HGW.out H5B.out H5D.out.2.2.1 ha;clear ha cf)
          have HWN:Hid (zAR zi 1 103 wb T5 F id g i ((zM.set i ⟨t.st,regs,fs0++[f]⟩).set i ⟨t.st,regs,fs0++[⟨r,f.all,f.left⟩]⟩) ⟨t.st,regs,(fs0++[⟨r,f.all,f.left⟩])++[⟨a.thn,a.thn,1⟩]⟩ (w6.setCell ⟨g,i*3+2,none⟩ (.slice ad6 (n5+1) cap6))):=by
           obtain ⟨d1,d2,d3,d4⟩:=H5D.out;have h6:=HA6.out;have hb:=H5B.out;have hg:=HGW.out;have hr:=H5C.out.keeps HKB.out (fun _ _ h=>h);have hq:=H5E.out;have hp:=HPV.out.keeps HKB.out (fun _ _ h=>h);have hkb:=HKB.out;clear HGW H5D H5B HA6 H5C H5E HPV;subst d4;exact zAV.zJh (t:=⟨t.st,regs,fs0++[⟨r,f.all,f.left⟩]⟩) (f:=⟨a.thn,a.thn,1⟩) zU hg hb hr d1 d3 (fun j y ds e1 e2=>zU.keeps (hq j y ds e1 e2) hkb (fun _ _ h=>h)) ⟨_,rfl,hp⟩ h6
          generalize w6.setCell ⟨g,i*3+2,none⟩ (.slice ad6 (n5+1) cap6)=w7 at HWN ⊢;go_roundg (zA2 ((fs0++[⟨r,f.all,f.left⟩])++[⟨a.thn,a.thn,1⟩]))
          case measure=>rw [HX.out.2.2.1];exact zAL HST2.out
          case rel=>exact ⟨regs,(fs0++[⟨r,f.all,f.left⟩])++[⟨a.thn,a.thn,1⟩],rfl,zAR.trans HX.out.1 HX.out.2.1 (zAR.trans HX5.out.1 HX5.out.2 (HWN.out.before HKB.out)),HOK.out.step HST2.out,HX.out.2.2.2.1,by exact J211 _⟩
       by_cases n11:a.kind=11
       ·have hst:=zIT (rg:=regs) (fs:=fs0) hr n11
        have HST:=yB hst;have HFR:Hid (T' ba=none /\ ¬ F ba):=HL.out.G.sep.free NB.out;clear hst;simp only [n11] at y;rw [n11];have N11:=yB n11;clear n11 n1 n10;go_upto_region 17 with (go_at_call 51;refine (HP.out _ k5).mono ?_;rintro e w5 ⟨rfl,g5⟩;have HW5:=yB g5;clear g5)
        obtain ⟨_,_,_,_,hk5a⟩:=HW5.out;have R5:=RA.keeps hk5a (J238 _);clear hk5a y ka;have y:=R5.zAI;have kw5:=zH w5;have HWr:=yB (HW5.out.before k5);by_cases hc:0 < a.count
        ·have hst2:=HST.out
         rw [if_pos hc] at hst2;have HST2:=yB hst2;clear hst2;obtain ⟨T5,H5,G5,x5,K5⟩:=HWr.out;have hi5:((zM.set i ⟨t.st,regs,fs0++[f]⟩).set i ⟨t.st,regs,fs0++[⟨r,f.all,f.left⟩]⟩)[i]?=some (⟨t.st,regs,fs0++[⟨r,f.all,f.left⟩]⟩:WTh):=xC (J212 _);obtain ⟨rv5,fv5,hH5,hr5,css5,q1,q2,q3,⟨ad5,cap5,rfl⟩,q5⟩:=G5.get hi5;have hn5:(fs0++[(⟨r,f.all,f.left⟩:WFr)]).length=fs0.length+1:=by rw [xU];rfl
         have hcn:((a.count.toNat:Nat):Int)=a.count:=by omega
         have HPV:Hid (zBc w5 F ⟨a.thn,a.thn,a.count.toNat⟩ (.iface 142 (.agg #[.slice ta a.thn.length tc, .slice ta a.thn.length tc, .int .i64 a.count]))):=by
          have hF5:∀ k,F k -> ¬ zCj T' id k:=fun k hk e=>by
           exact J65 _
          have:=HTV.out.keeps K5 hF5
          exact .inr ⟨_,_,by rw [hcn],this,this⟩
         have cf:=zV (zAA G5.row hH5).2.2;obtain ⟨n5,hn5'⟩:=eX ((fs0++[(⟨r,f.all,f.left⟩:WFr)]).length);rw [<- hn5'] at q1 q2 q3 cf hH5;have hn5b:n5 < 1000001:=by rw [hn5',hn5];omega
         have H5A:=yB G5;have H5B:=yB hH5;have H5C:=yB hr5;have H5D:Hid (css5.length=n5 /\ w5.ownsRow 0 103 1 (.slice ad5 n5 cap5) n5 css5.flatten /\ (∀ kb,(Value.slice ad5 n5 cap5).ownBlock=some kb -> T5 kb=some (id, .fs i)) /\ n5=(fs0++[(⟨r,f.all,f.left⟩:WFr)]).length):=⟨q1,q2,q3,hn5'⟩;have H5E:=yB q5;have HX5:Hid (zAG T' T5 id wr /\ Keeps (zCj T' id) wr w5):=⟨x5,K5⟩;obtain ⟨j0,hj0,hz0,hz1,hz2⟩:=info_parts zHI;clear G5 hH5 hr5 q1 q2 q3 q5 x5 K5 hi5 hn5 hn5' hcn;go_upto_region 18 with fail
         try rw [show ((r.length:Int)+1==0)=false from yY (by omega)]
         have hcd:decide (0 < a.count)=true:=uB hc;try rw [hcd]
         clear hcd j1 j2 hc;refine zC6 14 (by kernel_rfl) (by kernel_rfl) _ (.pointer (some ⟨g,i*3,none⟩)) rfl (.inl ⟨rfl,fun _=>rfl⟩) (fun _ _ _ h=>h) (Keeps zA) (yC zA) (fun a b c h h'=>xE h h') (zAH [some (.pointer (some ⟨g,i*3,none⟩)),some (.pointer (some ⟨g,i*3,none⟩)),some (.pointer (some ⟨g,i*3,none⟩)),some (.pointer (some ⟨g,i*3+2,none⟩)),some (.slice ad5 n5 cap5),some (.pointer (some ⟨ba,8,none⟩)),some (.slice ta a.thn.length tc),some (.pointer (some ⟨ba,8,none⟩)),some (.slice ta a.thn.length tc),some (.pointer (some ⟨ba,7,none⟩)),some (.int .i64 a.count),some (.agg #[.slice ta a.thn.length tc, .slice ta a.thn.length tc, .int .i64 a.count]),some (.iface 142 (.agg #[.slice ta a.thn.length tc, .slice ta a.thn.length tc, .int .i64 a.count]))] (fun _ v W=>∃ b,v=.slice (some ⟨b,0,none⟩) 1 1 /\ zC W b [.iface 142 (.agg #[.slice ta a.thn.length tc, .slice ta a.thn.length tc, .int .i64 a.count])])) (uG (fun _ _ _ _ h hk=>by obtain ⟨b,e,hb⟩:=h;exact ⟨b,e,hb.keeps hk (fun h=>h)⟩)) (fun _=>rfl) ?_ ?_
         ·intro q oo hq1 hq ho vs W Q' hR hd hK
          have HRW:Keeps zA w5 W:=((zH w5).drew).zB hR;rcases (show q=1 \/ q=2 \/ q=3 \/ q=4 \/ q=5 \/ q=6 \/ q=7 \/ q=8 \/ q=9 \/ q=10 \/ q=11 \/ q=12 \/ q=13 by omega) with rfl | rfl | rfl | rfl | rfl | rfl | rfl | rfl | rfl | rfl | rfl | rfl | rfl
          all_goals (simp only [yD,yE,yO] at ho;subst ho;simp only [zJ,yD,yE,yL,Option.bind,Act.put,yF,yG,yH] at hK ⊢;clear hq hq1)
          ·exact J3 _
          ·exact J155 _
          ·exact J153 _
          ·exact J156 _
          ·exact J3 _
          ·exact J170 _
          ·exact J3 _
          ·exact J164 _
          ·exact J3 _
          ·exact J161 _
          ·have e6:vs 6=_:=hd 6 (by kernel_rfl)
           have e8:vs 8=_:=hd 8 (by kernel_rfl);have e10:vs 10=_:=hd 10 (by kernel_rfl);rw [e6,e8,e10] at hK ⊢;exact J3 _
          ·have e11:vs 11=_:=hd 11 (by kernel_rfl)
           rw [e11] at hK ⊢;exact J3 _
          ·have e12:vs 12=_:=hd 12 (by kernel_rfl)
           rw [e12] at hK ⊢;clear hd;exact J43 _
         ·intro vs W hR hFF
          have HRW:Keeps zA w5 W:=((zH w5).drew).zB hR;have e0:vs 0=_:=hFF 0 (by decide);have e4:vs 4=_:=hFF 4 (by decide);obtain ⟨gb,e13,hgb⟩:=(hFF 13 (by decide):∃ b,vs 13=.slice (some ⟨b,0,none⟩) 1 1 /\ zC W b [.iface 142 (.agg #[.slice ta a.thn.length tc, .slice ta a.thn.length tc, .int .i64 a.count])]);have HGB:=yB hgb;simp only [zJ,yD,yE,yL,Option.bind,Act.put,yF,yG,yH,yS,yR];rw [e0,e4,e13];clear hFF e0 e4 e13 hgb cf y R5;have HGW:=yB (vN zU H5A.out HRW (fun _ _ h=>h));go_wp2_with (at_builtin;refine zI _ (by rfl) _ _ 84 (by rfl) 0 103 j0 _ 1 16 Tryz.underlying84 hj0 hz0 hz1 hz2 rfl (by decide) (.slice ad5 n5 cap5) n5 css5.flatten (by rfl) (zG H5D.out.2.1 HRW (fun _ _ h=>h)) (.slice (some ⟨gb,0,none⟩) 1 1) 1 [.iface 142 (.agg #[.slice ta a.thn.length tc, .slice ta a.thn.length tc, .int .i64 a.count])] (by rfl) (xN HGB.out) rfl (J185 _) (by unfold maxLen;omega) (by omega) (yJ _) ?_;intro ad6 cap6 w6 ha;have HA6:=yB ha;obtain ⟨_,_,c6,f6⟩:=zAV.app HGW.out H5B.out H5D.out.2.2.1 ha;clear ha)
          have HWN:Hid (zAR zi 1 103 W T5 F id g i ((zM.set i ⟨t.st,regs,fs0++[f]⟩).set i ⟨t.st,regs,fs0++[⟨r,f.all,f.left⟩]⟩) ⟨t.st,regs,(fs0++[⟨r,f.all,f.left⟩])++[⟨a.thn,a.thn,a.count.toNat⟩]⟩ (w6.setCell ⟨g,i*3+2,none⟩ (.slice ad6 (n5+1) cap6))):=by
           obtain ⟨d1,d2,d3,d4⟩:=H5D.out;have h6:=HA6.out;have hb:=H5B.out;have hg:=HGW.out;have hr:=H5C.out.keeps HRW (fun _ _ h=>h);have hq:=H5E.out;have hp:=HPV.out.keeps HRW (fun _ _ h=>h);clear HGW H5D H5B HA6 H5C H5E HPV;subst d4;exact zAV.zJh (t:=⟨t.st,regs,fs0++[⟨r,f.all,f.left⟩]⟩) (f:=⟨a.thn,a.thn,a.count.toNat⟩) zU hg hb hr d1 d3 (fun j y ds e1 e2=>zU.keeps (hq j y ds e1 e2) HRW (fun _ _ h=>h)) ⟨_,rfl,hp⟩ h6
          generalize w6.setCell ⟨g,i*3+2,none⟩ (.slice ad6 (n5+1) cap6)=w7 at HWN ⊢;go_roundg (zA2 ((fs0++[⟨r,f.all,f.left⟩])++[⟨a.thn,a.thn,a.count.toNat⟩]))
          case measure=>rw [HX.out.2.2.1];exact zAL HST2.out
          case rel=>exact ⟨regs,(fs0++[⟨r,f.all,f.left⟩])++[⟨a.thn,a.thn,a.count.toNat⟩],rfl,zAR.trans HX.out.1 HX.out.2.1 (zAR.trans HX5.out.1 HX5.out.2 (HWN.out.before HRW)),HOK.out.step HST2.out,HX.out.2.2.2.1,by exact J211 _⟩
        ·have hst2:=HST.out
         rw [if_neg hc] at hst2;have HST2:=yB hst2;clear hst2;go_wp2_with fail
         exact J61 _
       have HG:Hid (zAR zi 1 103 w T F id g i zM t.local wr):=by
        exact J89 _
       have b1:(a.kind==1)=false:=yY n1;have b10:(a.kind==10)=false:=yY n10;have b11:(a.kind==11)=false:=yY n11;go_wp2_with fail
       go_returns
       exact ⟨rfl,HG.out.after zU k5⟩)
end Go.Proofs.YtfokdllgnblamaaGreatDoor
