/- Layer L: texts joined. -/
import Derived.Test.YtfokdllgnblamaaGreatDoorL28
set_option linter.all false
set_option maxHeartbeats 8000000
set_option maxRecDepth 8000
namespace Go.Proofs.YtfokdllgnblamaaGreatDoor
open Go.RowKit
abbrev vS:=@List.set_set
theorem J39 (P:Prop) (h:P:=by
 go_wp2_with (go_at_call 79;refine (HO.out _ (by assumption)).mono ?_;rintro e w5 ⟨rfl,g5⟩;have HN5:=yA (HN.out _ _ k4 g5);clear g5)
 go_roundg (zBF (zEx fs0 f))
 case measure=>rw [HX.out.2.2.1];exact zAd HST.out
 case rel=>exact ⟨regs,zEx fs0 f,rfl,HN5.out,HOK.out.step HST.out,HX.out.2.2.2.1,by rw [<- zCC HST.out];exact HX.out.2.2.2.2⟩):P:=h
theorem J68 (P:Prop) (h:P:=by
 have:=HL.out.G.sep.sep k hk
 rcases e with e | ⟨j,e | e⟩ <;> (rw [this] at e;cases e)):P:=h
theorem J106 (P:Prop) (h:P:=by
 clear hd;go_wp2_with (go_at_call 78;refine HV.call (k5.zB HRW) ?_;intro w6 _ g6)
 exact hK _ _ g6 rfl):P:=h
theorem J129 (P:Prop) (h:P:=by
 have e7:vs 7=_:=hd 7 (by kernel_rfl);rw [e7] at hK ⊢;exact J3 _):P:=h
theorem J141 (P:Prop) (h:P:=by
 have e6:vs 6=_:=hd 6 (by kernel_rfl);rw [e6] at hK ⊢;exact J3 _):P:=h
theorem J199 (P:Prop) (h:P:=by rw [<- HX.out.2.2.2.2,zCC HST2.out]):P:=h
theorem J209 (P:Prop) (h:P:=by rw [xA];exact HI.out):P:=h
theorem zAu.trans {R:zA0 zx} {sz:Nat} {ty:TypeId} {w wr w2:World} {T T':zS} {F:Nat -> Prop} {id g i:Nat} {zL:List WTh} {t1 t2:WTh} (hx:zAQ T T' id w) (hk:Keeps (zDt T id) w wr) (h:zAu R sz ty wr T' F id g i (zL.set i t1) t2 w2):zAu R sz ty w T F id g i zL t2 w2:=by
 obtain ⟨T2,H2,h1,h2,h3⟩:=h;rw [vS] at h1;refine ⟨T2,H2,h1,hx.trans h2 hk.size,hk.trans h3 (fun k hlt hs=>?_)⟩
 have back:∀ y,T' k=some (id,y) -> T k=some (id,y):=fun y e=>by
  rcases hx.2 k _ e with h | h
  ·exact h
  ·omega
 rcases hs with hs | ⟨j,hs | hs⟩
 ·exact .inl (back _ hs)
 ·exact .inr ⟨j, .inl (back _ hs)⟩
 ·exact .inr ⟨j, .inr (back _ hs)⟩
theorem zAu.start {R:zA0 zx} {sz:Nat} {ty:TypeId} {w:World} {T:zS} {F:Nat -> Prop} {id g i:Nat} {H:List HTh} {zL:List WTh} {t:WTh} (h:zAc R sz ty w T F id g H zL) (ht:zL[i]?=some t):zAu R sz ty w T F id g i zL t w:=by
 have e:zL.set i t=zL:=by
  obtain ⟨q1,q2⟩:=yO.1 ht;rw [<- q2,List.set_getElem_self]
 exact ⟨T,H,by rw [e];exact h,vP T id w,(yB _ _)⟩
theorem zKp {r:List Int} {fs:List zx} {f:zx} (hf:f.rest=[]):zA3 r (fs++[f])=some (r,zEx fs f):=by
 unfold zA3 zEx;simp [hf]
theorem zL9 {rg:List Int} {fs:List zx} {f:zx} {a:Ac} {r:List Ac} (hr:f.rest=a :: r) (h1:¬ a.kind=1) (h2:¬ a.kind=10) (h3:¬ a.kind=11):zA3 rg (fs++[f])=none:=by
 unfold zA3;simp [hr,h1,h2,h3]
theorem zKt {rg:List Int} {fs:List zx} {f:zx} {a:Ac} {r:List Ac} (hr:f.rest=a :: r) (h1:a.kind=1):zA3 rg (fs++[f])=some (rg.set a.reg.toNat (a.ex.val rg),fs++[⟨r,f.all,f.left⟩]):=by
 unfold zA3;simp [hr,h1]
theorem zNC {rg:List Int} {fs:List zx} {f:zx} {a:Ac} {r:List Ac} (hr:f.rest=a :: r) (h1:a.kind=10) {b:List Ac} (hb:b=if a.ex.val rg ≠ 0 then a.thn else a.els):zA3 rg (fs++[f])=some (rg,(fs++[⟨r,f.all,f.left⟩])++[⟨b,b,1⟩]):=by
 unfold zA3;simp [hr,h1,hb]
theorem zL3 {rg:List Int} {fs:List zx} {f:zx} {a:Ac} {r:List Ac} (hr:f.rest=a :: r) (h1:a.kind=11):zA3 rg (fs++[f])=some (rg,if 0 < a.count then (fs++[⟨r,f.all,f.left⟩])++[⟨a.thn,a.thn,a.count.toNat⟩] else fs++[⟨r,f.all,f.left⟩]):=by
 unfold zA3;simp [hr,h1]
theorem zDp.step {u:Un} {n:Int} {r r':List Int} {fs fs':List zx} (h:zDp u n fs) (h1:zA3 r fs=some (r',fs')):zDp u n fs':=⟨(zHA h1 h.each).2,zHt h1 h.low⟩
theorem zDp.split {u:Un} {n:Int} {fs:List zx} {f:zx} (h:zDp u n (fs++[f])):f.ok u n /\ fs.length < 1000000:=by
 refine ⟨h.each f (by simp),?_⟩
 have:=h.low.1
 simp at this
 omega
theorem zI7 {R:zA0 zx} {sz:Nat} {ty:TypeId} (LR:zAN R sz) {w:World} {T:zS} {F:Nat -> Prop} {id g i gr rc:Nat} {H:List HTh} {zL:List WTh} {t:WTh} {fv:Value} (h:zAc R sz ty w T F id g H zL) (hH:H[i]?=some ⟨t.st, .slice (some ⟨gr,0,none⟩) t.regs.length rc,fv⟩) (hT:T gr=some (id, .regs i))
 (hr:zC w gr (ints t.regs)) (hfs:zBd R sz ty w T F id i fv t.fs) {k:Nat} (hk:k < t.regs.length) (u:Int):zAu R sz ty w T F id g i zL { t with regs:=t.regs.set k u } (w.setCell ⟨gr,k,none⟩ (.int .i64 u)):=by
 have hkp:Keeps (fun q=>q=gr) w (w.setCell ⟨gr,k,none⟩ (.int .i64 u)):=(yB (fun q=>q=gr) w).setCell (p:=⟨gr,k,none⟩) (fun _=>rfl) _;have hF:∀ q,F q -> ¬ q=gr:=fun q hq e=>by have:=h.sep.sep q hq;rw [e,hT] at this;cases this
 have hg:¬ g=gr:=fun e=>by have:=h.tag;rw [e,hT] at this;cases this
 have hI:=zBN.set (id:=id) (t:=.regs i) (cap:=rc) hT hr k hk u
 have hHH:H.set i ⟨t.st, .slice (some ⟨gr,0,none⟩) t.regs.length rc,fv⟩=H:=by
  obtain ⟨q1,q2⟩:=yO.1 hH;rw [<- q2,List.set_getElem_self]
 have hu:=zAc.upd (i:=i) (t':={ t with regs:=t.regs.set k u }) LR h (vP T id w) (h.sep.keeps hkp) (hkp.mono (fun q _ e=>.inr (.inl (by rw [e];exact hT)))) (a':=⟨t.st, .slice (some ⟨gr,0,none⟩) t.regs.length rc,fv⟩) (by rw [hHH];exact h.row.keeps hkp hg) rfl hI
  (zBd.keeps LR hfs hkp (fun q e1 e2=>by rw [e2,hT] at e1;cases e1) hF)
 exact ⟨T,_,hu,vP T id w,hkp.mono (fun q _ e=>by rw [e];exact .inr ⟨i, .inl hT⟩)⟩
theorem zGb {w:World} {T:zS} {F:Nat -> Prop} {id g i:Nat} {H:List HTh} {zL:List WTh} {t:WTh} {u:Un} {n:Int} (h:zAc zi 1 103 w T F id g H zL) (ht:zL[i]?=some t) (hf:zDp u n t.fs) (hn:t.regs.length=n.toNat) :
 Calls Tryz.prog 52 #[.pointer (some ⟨g,i*3,none⟩)] w fun e w'=>e=.returned (.tuple #[]) /\ zAu zi 1 103 w T F id g i zL t.local w':=by
 have HW:Hid (zAu zi 1 103 w T F id g i zL ⟨t.st,t.regs,t.fs⟩ w /\ zDp u n t.fs /\ t.regs.length=n.toNat):=⟨zAu.start h ht,hf,hn⟩;have hi:i < zL.length:=(yO.1 ht).1;have HI:=yA hi;clear h ht hf hn hi;go_enter Tryz.func52,Tryz.ntmps52
 go_wp2_with fail
 go_loopg [] (zBF t.fs) (fun k wr=>∃ regs fs,Hid (k=zBF fs /\ zAu zi 1 103 w T F id g i zL ⟨t.st,regs,fs⟩ wr /\ zDp u n fs /\ regs.length=n.toNat /\ loc regs fs=loc t.regs t.fs))
 case atStart=>exact ⟨t.regs,t.fs,rfl,HW.out.1,HW.out.2.1,HW.out.2.2,rfl⟩
 case round =>
  obtain ⟨regs,fs,HR⟩:=hrel;obtain ⟨hk,⟨T',H',hG,hx,hkw⟩,hok,hrl,hloc⟩:=HR.out;have hti:(zL.set i ⟨t.st,regs,fs⟩)[i]?=some (⟨t.st,regs,fs⟩:WTh):=yX HI.out;have HX:Hid (zAQ T T' id w /\ Keeps (zDt T id) w wr /\ gk=zBF fs /\ regs.length=n.toNat /\ loc regs fs=loc t.regs t.fs):=⟨hx,hkw,hk,hrl,hloc⟩;clear HR hk hx hkw hrl hloc;cases hl:fs.getLast? with
  | none =>
    have hfs:fs=[]:=by simpa using hl
    subst hfs;obtain ⟨rv,fv,hH,_,hfs⟩:=hG.get hti;obtain ⟨css,_,_,_,⟨ad,cap,rfl⟩,_⟩:=hfs;have c:=(zAF hG.row hH).2.2;have HT:Ret wr 50 #[.pointer (some ⟨g,i*3,none⟩)] .nilIface:=fun W hk=>zJc W g (i*3) ad cap (hk.cell (fun h=>h) c)
    have HG:Hid (zAu zi 1 103 w T F id g i zL t.local wr):=by
     have e:t.local=⟨t.st,regs,[]⟩:=by
      unfold WTh.local;rw [<- HX.out.2.2.2.2,zEN (by simp [zA3])]
     rw [e];exact ⟨T',H',hG,HX.out.1,HX.out.2.1⟩
    clear hl c hH hti hG hok;have k0:=zI wr;go_wp2_with (go_at_call 50;refine HT.call k0 ?_;intro w3 k3 _)
    go_returns
    exact ⟨rfl,HG.out.after zR k3⟩
  | some f =>
    have hs:=zAY hl;obtain ⟨fs0,hfs0⟩:∃ z,z=fs.dropLast:=⟨_,rfl⟩
    rw [<- hfs0] at hs;subst hs;clear hl hfs0;obtain ⟨rv,gp,cap,css,pv,hL⟩:=hG.last hti rfl;obtain ⟨hfo,hdep⟩:=hok.split;have HL:=yA hL;have HOK:=yA hok;have HT:Ret wr 50 #[.pointer (some ⟨g,i*3,none⟩)] pv:=fun W hk=>zFj W g (i*3) gp fs0.length cap pv (hk.cell (fun h=>h) hL.fv) (hk.cell (fun h=>h) hL.cell) (by omega) hL.pl.one
    have hpl:=hL.pl;have k0:=zI wr;clear hL hG hti hok;have HLE:f.left < 1000000:=by have:=hfo.2.2;omega
    cases hr:f.rest with
    | nil =>
      have hst:=zKp (r:=regs) (fs:=fs0) hr;have HST:=yA hst;clear hst;have HN:Hid (∀ W w5,Keeps zA wr W -> zAu zi 1 103 W T' F id g i (zL.set i ⟨t.st,regs,fs0++[f]⟩) ⟨t.st,regs,zEx fs0 f⟩ w5 -> zAu zi 1 103 w T F id g i zL ⟨t.st,regs,zEx fs0 f⟩ w5):=fun W w5 hk hw=>zAu.trans HX.out.1 HX.out.2.1 (hw.before hk)
      have HOUT:∀ W,Keeps zA wr W -> Calls Tryz.prog 79 #[.pointer (some ⟨g,i*3,none⟩)] W fun e w'=>e=.returned (.tuple #[]) /\ zAu zi 1 103 W T' F id g i (zL.set i ⟨t.st,regs,fs0++[f]⟩) ⟨t.st,regs,zEx fs0 f⟩ w':=fun W hk=>zM0 (HL.out.zG hk) hdep HLE
      have HO:=yA HOUT;clear HOUT;unfold zBS at hpl;rw [hr] at hpl;rcases hpl with ⟨h0,v,rfl,hv⟩ | ⟨v,v2,rfl,hv,hv2⟩
      ·obtain ⟨sa,sc,rfl⟩:=hv.slice
       clear h0;clear hv;go_upto_region 2 with (first | (go_at_call 50;refine HT.call (by assumption) ?_;intro w3 k3 _) | (go_at_call 232;refine (zCX _ _ ⟨_,_,_,rfl⟩).mono ?_;rintro e w4 ⟨rfl,g4⟩;have k4:=k3.zB g4;clear g4))
       exact J39 _
      ·obtain ⟨sa,sc,rfl⟩:=hv.slice
       obtain ⟨sg,sh,rfl⟩:=hv2.slice;clear hv hv2;go_upto_region 2 with (first | (go_at_call 50;refine HT.call (by assumption) ?_;intro w3 k3 _) | (go_at_call 233;refine (zDn _ _ _ _ ⟨_,_,_,rfl⟩ ⟨_,_,_,rfl⟩).mono ?_;rintro e w4 ⟨rfl,g4⟩;have k4:=k3.zB g4;clear g4))
       exact J39 _
    | cons a r =>
      have hmay:Ac.may u n a=true:=by have:=hfo.1;rw [hr] at this;exact (Ac.zCq this).1
      have HMAY:=yA hmay;have hpass:∀ W,Keeps zA wr W -> Calls Tryz.prog 51 #[.pointer (some ⟨g,i*3,none⟩)] W fun e w'=>e=.returned (.tuple #[]) /\ zAu zi 1 103 W T' F id g i (zL.set i ⟨t.st,regs,fs0++[f]⟩) ⟨t.st,regs,fs0++[⟨r,f.all,f.left⟩]⟩ w':=fun W hk=>zEH (HL.out.zG hk) hr hdep
      have HP:=yA hpass;clear hmay hpass;unfold zBS at hpl;rw [hr] at hpl;rcases hpl with hp | hp
      all_goals (first | (obtain ⟨h0,v,rfl,hv⟩:=hp;clear h0) | (obtain ⟨v,v2,rfl,hv,hv2⟩:=hp;obtain ⟨sg,sh,rfl⟩:=hv2.slice;clear hv2))
      all_goals (
       obtain ⟨ga,oa,sc,xa,xc,tv,ev,rfl,hga,hxs,htv,hev,q⟩:=hv.head;obtain ⟨ta,tc,rfl⟩:=htv.slice;obtain ⟨ea,ec,rfl⟩:=hev.slice;have HXS:=yA hxs;have HTV:=yA htv;have HEV:=yA hev
       have d:∀ W,Keeps zA wr W -> W.cell? ⟨ga,oa,none⟩=some (.int .i64 a.kind) /\ W.cell? ⟨ga,oa+1,none⟩=some (.int .i64 a.reg) /\ W.cell? ⟨ga,oa+2,none⟩=some (.int .i64 a.obj) /\ W.cell? ⟨ga,oa+3,none⟩=some (.int .i64 a.ex.kind) /\ W.cell? ⟨ga,oa+4,none⟩=some (.int .i64 a.ex.num) ∧
        W.cell? ⟨ga,oa+5,none⟩=some (.string a.ex.nm) /\ W.cell? ⟨ga,oa+6,none⟩=some (.slice xa a.ex.args.length xc) /\ W.cell? ⟨ga,oa+7,none⟩=some (.int .i64 a.count) /\ W.cell? ⟨ga,oa+8,none⟩=some (.slice ta a.thn.length tc) /\ W.cell? ⟨ga,oa+9,none⟩=some (.slice ea a.els.length ec) :=
        fun W hk=>⟨hk.cell (fun h=>h) q.1,hk.cell (fun h=>h) q.2.1,hk.cell (fun h=>h) q.2.2.1,hk.cell (fun h=>h) q.2.2.2.1,hk.cell (fun h=>h) q.2.2.2.2.1,hk.cell (fun h=>h) q.2.2.2.2.2.1,hk.cell (fun h=>h) q.2.2.2.2.2.2.1,hk.cell (fun h=>h) q.2.2.2.2.2.2.2.1,hk.cell (fun h=>h) q.2.2.2.2.2.2.2.2.1,hk.cell (fun h=>h) q.2.2.2.2.2.2.2.2.2⟩
       clear hv q hxs htv hev hga;have j1:¬ ((r.length+1:Nat):Int)=0:=by omega
       have j2:(((r.length+1:Nat):Int)==0)=false:=xG j1;go_upto_region 4 with (first | (go_at_call 50;refine HT.call (by assumption) ?_;intro w3 k3 _) | (go_at_call 232;refine (zCX _ _ ⟨_,_,_,rfl⟩).mono ?_;rintro e w4 ⟨rfl,g4⟩;have k4:=k3.zB g4;clear g4) | (go_at_call 233;refine (zDn _ _ _ _ ⟨_,_,_,rfl⟩ ⟨_,_,_,rfl⟩).mono ?_;rintro e w4 ⟨rfl,g4⟩;have k4:=k3.zB g4;clear g4))
       go_upto_region 5 with fail
       obtain ⟨ba,wa,e3,e4,RA,KA,_⟩:=newRow w4 [.int .i64 a.kind, .int .i64 a.reg, .int .i64 a.obj, .int .i64 a.ex.kind, .int .i64 a.ex.num, .string a.ex.nm, .slice xa a.ex.args.length xc, .int .i64 a.count, .slice ta a.thn.length tc, .slice ea a.els.length ec] 68;rw [e3,e4];have k5:=k4.zB KA;have y:=RA.zAx;have ka:=zI wa;have NB:Hid (wr.heap.size <= ba):=by show _ <= _;rw [<- e3];exact k4.size
       clear e3 e4 KA k3 k4 d;by_cases n1:a.kind=1
       ·have hst:=zKt (rg:=regs) (fs:=fs0) hr n1
        have HST:=yA hst;clear hst;obtain ⟨r0,r1⟩:=Ac.zHD HMAY.out (.inl n1);have hlt:a.reg.toNat < regs.length:=by have:=HX.out.2.2.2.1;omega
        obtain ⟨gr,rc,hrv,hTg,hRr⟩:=HL.out.regs.at hlt;have hrv:rv=.slice (some ⟨gr,0,none⟩) regs.length rc:=hrv
        have HV:Ret wr 78 #[.agg #[.int .i64 a.ex.kind, .int .i64 a.ex.num, .string a.ex.nm, .slice xa a.ex.args.length xc], .slice (some ⟨gr,0,none⟩) regs.length rc] (.int .i64 (a.ex.val regs)):=fun W hk=>by
         have hs:=(HL.out.regs.keeps hk (fun _ _ h=>h)).src;rw [hrv] at hs;exact zDo regs n _ HX.out.2.2.2.1 a.ex W F xa xc (vK HXS.out hk (fun _ _ h=>h)) hs (Ac.zEv HMAY.out (.inl n1))
        have tc1:=zT (zAF HL.out.G.row HL.out.h).2.1;rw [show (⟨t.st,rv, .slice (some ⟨gp,0,none⟩) (fs0.length+1) cap⟩:HTh).rv=.slice (some ⟨gr,0,none⟩) regs.length rc from hrv] at tc1;have rcell:=zT (hRr.cell (zAA regs _ hlt));have rfree:=zK (hRr.free (k:=a.reg.toNat) (by rw [zAq];exact hlt)) ⟨_,hRr.cell (zAA regs _ hlt)⟩;have HRR:Hid (rv=.slice (some ⟨gr,0,none⟩) regs.length rc /\ T' gr=some (id, .regs i) /\ zC wr gr (ints regs) /\ a.reg.toNat < regs.length):=⟨hrv,hTg,hRr,hlt⟩;have i1:a.reg < (regs.length:Int):=by omega
        have i2:((a.reg.toNat:Nat):Int)=a.reg:=by omega
        generalize hval:a.ex.val regs=val at HV;have HVAL:=yA hval;clear hval;generalize hzr:regs.length=zr at HV tc1 i1;have HZR:=yA hzr;clear hzr hrv hTg hRr hlt r1;simp only [n1] at y;rw [n1];have N1:=yA n1;clear n1;go_upto_region 7 with fail
        have z13:((r.length:Int)+1==0)=false:=xG (by omega);try rw [z13]
        refine zP 14 (by kernel_rfl) (by kernel_rfl) (Keeps zA) (yB zA) (fun a b c h h'=>xD h h') (zAp [some (.pointer (some ⟨g,i*3,none⟩)),some (.pointer (some ⟨g,i*3,none⟩)),some (.pointer (some ⟨g,i*3+1,none⟩)),some (.slice (some ⟨gr,0,none⟩) zr rc),some (.pointer (some ⟨ba,1,none⟩)),some (.int .i64 a.reg),some (.pointer (some ⟨ba,3,none⟩)),some (.agg #[.int .i64 a.ex.kind, .int .i64 a.ex.num, .string a.ex.nm, .slice xa a.ex.args.length xc]),some (.pointer (some ⟨g,i*3,none⟩)),some (.pointer (some ⟨g,i*3,none⟩)),some (.pointer (some ⟨g,i*3+1,none⟩)),some (.slice (some ⟨gr,0,none⟩) zr rc),some (.int .i64 val),some (.pointer (some ⟨gr,a.reg.toNat,none⟩))] (fun _ _ _=>False)) (vO (fun _ _ _ _ h _=>h)) ?_ ?_
        ·intro q oo hq ho vs W Q' hR hd hK
         have HRW:Keeps zA wa W:=((zI wa).drew).zB hR;have k5W:=k5.zB HRW;rcases (show q=0 \/ q=1 \/ q=2 \/ q=3 \/ q=4 \/ q=5 \/ q=6 \/ q=7 \/ q=8 \/ q=9 \/ q=10 \/ q=11 \/ q=12 \/ q=13 by omega) with rfl | rfl | rfl | rfl | rfl | rfl | rfl | rfl | rfl | rfl | rfl | rfl | rfl | rfl
         all_goals (simp only [yC,yD,yP] at ho;subst ho;simp only [zJ,yC,yD,yN,Option.bind,Act.put,yE,yK,yF] at hK ⊢;clear hq)
         ·exact J3 _
         ·exact J115 _
         ·exact J120 _
         ·exact J118 _
         ·exact J3 _
         ·exact J119 _
         ·exact J3 _
         ·exact J141 _
         ·exact J3 _
         ·exact J128 _
         ·exact J126 _
         ·have e10:vs 10=_:=hd 10 (by kernel_rfl)
          rw [e10] at hK ⊢;exact J3 _
         ·have e7:vs 7=_:=hd 7 (by kernel_rfl)
          have e11:vs 11=_:=hd 11 (by kernel_rfl);rw [e7,e11] at hK ⊢;exact J106 _
         ·have e3:vs 3=_:=hd 3 (by kernel_rfl)
          have e5:vs 5=_:=hd 5 (by kernel_rfl);rw [e3,e5] at hK ⊢;exact J3 _
        ·intro vs W hR hFF
         have HRW:Keeps zA wa W:=((zI wa).drew).zB hR;have k5W:=k5.zB HRW;have e12:vs 12=_:=hFF 12 (by decide);have e13:vs 13=_:=hFF 13 (by decide);simp only [zJ,yC,yD,yN,Option.bind,Act.put,yE,yK,yF,yT,yQ];rw [e12,e13];clear hFF e12 e13 tc1;go_upto_region 8 with fail
         have hfs:=(HL.out.G.each i _ _ HL.out.h HL.out.th).2.2;have hh7:=HL.out.h;rw [HRR.out.1] at hh7 hfs;have hw7:=(zI7 zR (t:=⟨t.st,regs,fs0++[f]⟩) (zAc.keeps zR HL.out.G k5W (fun _ _ h=>h)) hh7 HRR.out.2.1 (HRR.out.2.2.1.keeps k5W (fun h=>h)) (zBd.keeps zR hfs k5W (fun _ _ h=>h) (fun _ _ h=>h)) HRR.out.2.2.2 val).before k5W;generalize W.setCell ⟨gr,a.reg.toNat,none⟩ (.int .i64 val)=w7 at hw7 ⊢;obtain ⟨T7,H7,G7,x7,k7⟩:=hw7;have hi7:((zL.set i ⟨t.st,regs,fs0++[f]⟩).set i ⟨t.st,regs.set a.reg.toNat val,fs0++[f]⟩)[i]?=some (⟨t.st,regs.set a.reg.toNat val,fs0++[f]⟩:WTh):=yX (J209 _);obtain ⟨rv7,gp7,cap7,css7,pv7,hL7⟩:=G7.last hi7 rfl;have HP7:=yA (zEH hL7 hr hdep);have HX7:Hid (zAQ T' T7 id wr /\ Keeps (zDt T' id) wr w7):=⟨x7,k7⟩;clear hfs hh7 G7 x7 k7 hi7 hL7;go_wp2_with (go_at_call 51;refine HP7.out.mono ?_;rintro e w8 ⟨rfl,g8⟩;have HW8:=yA g8;clear g8)
         go_roundg (zBF (fs0++[⟨r,f.all,f.left⟩]))
         case measure=>rw [HX.out.2.2.1];exact zAd HST.out
         case rel=>exact ⟨regs.set a.reg.toNat val,fs0++[⟨r,f.all,f.left⟩],rfl,zAu.trans HX.out.1 HX.out.2.1 (zAu.trans HX7.out.1 HX7.out.2 HW8.out),HOK.out.step HST.out,by rw [xA];exact HX.out.2.2.2.1,by rw [<- HX.out.2.2.2.2,zCC HST.out,HVAL.out]⟩
       by_cases n10:a.kind=10
       ·have HST:Hid (∀ b,(b=if a.ex.val regs ≠ 0 then a.thn else a.els) -> zA3 regs (fs0++[f])=some (regs,(fs0++[⟨r,f.all,f.left⟩])++[⟨b,b,1⟩])):=fun b hb=>zNC hr n10 hb
        have HFR:Hid (T' ba=none /\ ¬ F ba):=HL.out.G.sep.free NB.out;obtain ⟨ra,rc,hrv,_⟩:=HL.out.regs
        have HV:Ret wr 78 #[.agg #[.int .i64 a.ex.kind, .int .i64 a.ex.num, .string a.ex.nm, .slice xa a.ex.args.length xc], .slice ra regs.length rc] (.int .i64 (a.ex.val regs)):=fun W hk=>by
         have hs:=(HL.out.regs.keeps hk (fun _ _ h=>h)).src;rw [hrv] at hs;exact zDo regs n _ HX.out.2.2.2.1 a.ex W F xa xc (vK HXS.out hk (fun _ _ h=>h)) hs (Ac.zEv HMAY.out (.inr (.inr (.inr (.inr n10)))))
        have tc1:=zT (zAF HL.out.G.row HL.out.h).2.1;rw [show (⟨t.st,rv, .slice (some ⟨gp,0,none⟩) (fs0.length+1) cap⟩:HTh).rv=.slice ra regs.length rc from hrv] at tc1;generalize hval:a.ex.val regs=val at HV HST;have HVAL:=yA hval;clear hval;generalize hzr:regs.length=zr at HV tc1;have HZR:=yA hzr;clear hzr hrv;simp only [n10] at y;rw [n10];have N10:=yA n10;clear n10 n1;go_upto_region 11 with fail
        try rw [show ((r.length:Int)+1==0)=false from xG (by omega)]
        refine zP 7 (by kernel_rfl) (by kernel_rfl) (Keeps zA) (yB zA) (fun a b c h h'=>xD h h') (zAp [some (.pointer (some ⟨ba,3,none⟩)),some (.agg #[.int .i64 a.ex.kind, .int .i64 a.ex.num, .string a.ex.nm, .slice xa a.ex.args.length xc]),some (.pointer (some ⟨g,i*3,none⟩)),some (.pointer (some ⟨g,i*3,none⟩)),some (.pointer (some ⟨g,i*3+1,none⟩)),some (.slice ra zr rc),some (.int .i64 val)] (fun _ _ _=>False)) (vO (fun _ _ _ _ h _=>h)) ?_ ?_
        ·intro q oo hq ho vs W Q' hR hd hK
         have HRW:Keeps zA wa W:=((zI wa).drew).zB hR;have k5W:=k5.zB HRW;rcases (show q=0 \/ q=1 \/ q=2 \/ q=3 \/ q=4 \/ q=5 \/ q=6 by omega) with rfl | rfl | rfl | rfl | rfl | rfl | rfl
         all_goals (simp only [yC,yD,yP] at ho;subst ho;simp only [zJ,yC,yD,yN,Option.bind,Act.put,yE,yK,yF] at hK ⊢;clear hq)
         ·exact J3 _
         ·exact J115 _
         ·exact J3 _
         ·exact J118 _
         ·exact J121 _
         ·exact J119 _
         ·have e1:vs 1=_:=hd 1 (by kernel_rfl)
          have e5:vs 5=_:=hd 5 (by kernel_rfl);rw [e1,e5] at hK ⊢;exact J106 _
        ·intro vs W hR hFF
         have HRW:Keeps zA wa W:=((zI wa).drew).zB hR;have k5W:=k5.zB HRW;have e6:vs 6=_:=hFF 6 (by decide);simp only [zJ,yC,yD,yN,Option.bind,Act.put,yE,yK,yF,yT,yQ];rw [e6];have yW:=fun W2 (q:Keeps zA W W2)=>y W2 (HRW.zB q)
         clear hFF e6 tc1 y ka;have y:=yW;clear yW;have kW:=zI W;by_cases hz:val=0
         ·have hst2:=HST.out a.els (by rw [if_neg (fun h=>h hz)])
          have HST2:=yA hst2;clear hst2;have hzb:(val != 0)=false:=by rw [hz];rfl
          go_upto_region 13 with fail
          go_upto_region 14 with (go_at_call 51;refine (HP.out _ k5W).mono ?_;rintro e w5 ⟨rfl,g5⟩;have HW5:=yA g5;clear g5)
          have HWr:=yA (HW5.out.before k5W);clear y kW;obtain ⟨T5,H5,G5,x5,K5⟩:=HWr.out;have hi5:((zL.set i ⟨t.st,regs,fs0++[f]⟩).set i ⟨t.st,regs,fs0++[⟨r,f.all,f.left⟩]⟩)[i]?=some (⟨t.st,regs,fs0++[⟨r,f.all,f.left⟩]⟩:WTh):=yX (J209 _);obtain ⟨rv5,fv5,hH5,hr5,css5,q1,q2,q3,⟨ad5,cap5,rfl⟩,q5⟩:=G5.get hi5;have hn5:(fs0++[(⟨r,f.all,f.left⟩:zx)]).length=fs0.length+1:=by rw [xE];rfl
          have HPV:Hid (zBS w5 F ⟨a.els,a.els,1⟩ (.iface 135 (.agg #[.slice ea a.els.length ec]))):=by
           have hF5:∀ k,F k -> ¬ zDt T' id k:=fun k hk e=>by
            exact J68 _
           exact .inl ⟨yV _,_,rfl,HEV.out.keeps K5 hF5⟩
          have cf:=zT (zAF G5.row hH5).2.2;obtain ⟨n5,hn5'⟩:∃ z,z=(fs0++[(⟨r,f.all,f.left⟩:zx)]).length:=⟨_,rfl⟩
          rw [<- hn5'] at q1 q2 q3 cf hH5;have hn5b:n5 < 1000001:=by rw [hn5',hn5];omega
          have H5A:=yA G5;have H5B:=yA hH5;have H5C:=yA hr5;have H5D:Hid (css5.length=n5 /\ w5.ownsRow 0 103 1 (.slice ad5 n5 cap5) n5 css5.flatten /\ (∀ kb,(Value.slice ad5 n5 cap5).ownBlock=some kb -> T5 kb=some (id, .fs i)) /\ n5=(fs0++[(⟨r,f.all,f.left⟩:zx)]).length):=⟨q1,q2,q3,hn5'⟩;have H5E:=yA q5;have HX5:Hid (zAQ T' T5 id wr /\ Keeps (zDt T' id) wr w5):=⟨x5,K5⟩;obtain ⟨j0,hj0,hz0,hz1,hz2⟩:=info_parts zGw;clear G5 hH5 hr5 q1 q2 q3 q5 x5 K5 hi5 hn5 hn5' j1 j2 hz;have k5':=zI w5;obtain ⟨gb,wb,eb1,eb2,RB,KB,_⟩:=newRow w5 [.iface 135 (.agg #[.slice ea a.els.length ec])] 103;have HGB:=yA RB;have HKB:=yA KB;have HEB:Hid (w5.heap.size=gb /\ w5.alloc (.cells [Value.iface 135 (.agg #[.slice ea a.els.length ec])].toArray 103)=wb):=⟨eb1,eb2⟩;have HGW:=yA (zAc.keeps zR H5A.out KB (fun _ _ h=>h));clear eb1 eb2 RB KB;go_wp2_with (at_builtin;rw [HEB.out.1,HEB.out.2];refine zH _ (by rfl) _ _ 84 (by rfl) 0 103 j0 _ 1 16 Tryz.underlying84 hj0 hz0 hz1 hz2 rfl (by decide) (.slice ad5 n5 cap5) n5 css5.flatten (by rfl) (zF H5D.out.2.1 HKB.out (fun _ _ h=>h)) (.slice (some ⟨gb,0,none⟩) 1 1) 1 [.iface 135 (.agg #[.slice ea a.els.length ec])] (by rfl) (xN HGB.out) rfl (J150 _) (by unfold maxLen;omega) (by omega) (yH _) ?_;intro ad6 cap6 w6 ha;have HA6:=yA ha;obtain ⟨_,_,c6,f6⟩:=zAc.app HGW.out H5B.out H5D.out.2.2.1 ha;clear ha cf)
          have HWN:Hid (zAu zi 1 103 wb T5 F id g i ((zL.set i ⟨t.st,regs,fs0++[f]⟩).set i ⟨t.st,regs,fs0++[⟨r,f.all,f.left⟩]⟩) ⟨t.st,regs,(fs0++[⟨r,f.all,f.left⟩])++[⟨a.els,a.els,1⟩]⟩ (w6.setCell ⟨g,i*3+2,none⟩ (.slice ad6 (n5+1) cap6))):=by
           obtain ⟨d1,d2,d3,d4⟩:=H5D.out;have h6:=HA6.out;have hb:=H5B.out;have hg:=HGW.out;have hr:=H5C.out.keeps HKB.out (fun _ _ h=>h);have hq:=H5E.out;have hp:=HPV.out.keeps HKB.out (fun _ _ h=>h);have hkb:=HKB.out;clear HGW H5D H5B HA6 H5C H5E HPV;subst d4;exact zAc.zK1 (t:=⟨t.st,regs,fs0++[⟨r,f.all,f.left⟩]⟩) (f:=⟨a.els,a.els,1⟩) zR hg hb hr d1 d3 (fun j y ds e1 e2=>zR.keeps (hq j y ds e1 e2) hkb (fun _ _ h=>h)) ⟨_,rfl,hp⟩ h6
          generalize w6.setCell ⟨g,i*3+2,none⟩ (.slice ad6 (n5+1) cap6)=w7 at HWN ⊢;go_roundg (zBF ((fs0++[⟨r,f.all,f.left⟩])++[⟨a.els,a.els,1⟩]))
          case measure=>rw [HX.out.2.2.1];exact zAd HST2.out
          case rel=>exact ⟨regs,(fs0++[⟨r,f.all,f.left⟩])++[⟨a.els,a.els,1⟩],rfl,zAu.trans HX.out.1 HX.out.2.1 (zAu.trans HX5.out.1 HX5.out.2 (HWN.out.before HKB.out)),HOK.out.step HST2.out,HX.out.2.2.2.1,by exact J199 _⟩
         ·have hst2:=HST.out a.thn (by rw [if_pos hz])
          have HST2:=yA hst2;clear hst2;have hzb:(val != 0)=true:=bne_iff_ne.2 hz;go_upto_region 13 with fail
          go_upto_region 14 with (go_at_call 51;refine (HP.out _ k5W).mono ?_;rintro e w5 ⟨rfl,g5⟩;have HW5:=yA g5;clear g5)
          have HWr:=yA (HW5.out.before k5W);clear y kW;obtain ⟨T5,H5,G5,x5,K5⟩:=HWr.out;have hi5:((zL.set i ⟨t.st,regs,fs0++[f]⟩).set i ⟨t.st,regs,fs0++[⟨r,f.all,f.left⟩]⟩)[i]?=some (⟨t.st,regs,fs0++[⟨r,f.all,f.left⟩]⟩:WTh):=yX (J209 _);obtain ⟨rv5,fv5,hH5,hr5,css5,q1,q2,q3,⟨ad5,cap5,rfl⟩,q5⟩:=G5.get hi5;have hn5:(fs0++[(⟨r,f.all,f.left⟩:zx)]).length=fs0.length+1:=by rw [xE];rfl
          have HPV:Hid (zBS w5 F ⟨a.thn,a.thn,1⟩ (.iface 135 (.agg #[.slice ta a.thn.length tc]))):=by
           have hF5:∀ k,F k -> ¬ zDt T' id k:=fun k hk e=>by
            exact J68 _
           exact .inl ⟨yV _,_,rfl,HTV.out.keeps K5 hF5⟩
          have cf:=zT (zAF G5.row hH5).2.2;obtain ⟨n5,hn5'⟩:∃ z,z=(fs0++[(⟨r,f.all,f.left⟩:zx)]).length:=⟨_,rfl⟩
          rw [<- hn5'] at q1 q2 q3 cf hH5;have hn5b:n5 < 1000001:=by rw [hn5',hn5];omega
          have H5A:=yA G5;have H5B:=yA hH5;have H5C:=yA hr5;have H5D:Hid (css5.length=n5 /\ w5.ownsRow 0 103 1 (.slice ad5 n5 cap5) n5 css5.flatten /\ (∀ kb,(Value.slice ad5 n5 cap5).ownBlock=some kb -> T5 kb=some (id, .fs i)) /\ n5=(fs0++[(⟨r,f.all,f.left⟩:zx)]).length):=⟨q1,q2,q3,hn5'⟩;have H5E:=yA q5;have HX5:Hid (zAQ T' T5 id wr /\ Keeps (zDt T' id) wr w5):=⟨x5,K5⟩;obtain ⟨j0,hj0,hz0,hz1,hz2⟩:=info_parts zGw;clear G5 hH5 hr5 q1 q2 q3 q5 x5 K5 hi5 hn5 hn5' j1 j2 hz;have k5':=zI w5;obtain ⟨gb,wb,eb1,eb2,RB,KB,_⟩:=newRow w5 [.iface 135 (.agg #[.slice ta a.thn.length tc])] 103;have HGB:=yA RB;have HKB:=yA KB;have HEB:Hid (w5.heap.size=gb /\ w5.alloc (.cells [Value.iface 135 (.agg #[.slice ta a.thn.length tc])].toArray 103)=wb):=⟨eb1,eb2⟩;have HGW:=yA (zAc.keeps zR H5A.out KB (fun _ _ h=>h));clear eb1 eb2 RB KB;go_wp2_with (at_builtin;rw [HEB.out.1,HEB.out.2];refine zH _ (by rfl) _ _ 84 (by rfl) 0 103 j0 _ 1 16 Tryz.underlying84 hj0 hz0 hz1 hz2 rfl (by decide) (.slice ad5 n5 cap5) n5 css5.flatten (by rfl) (zF H5D.out.2.1 HKB.out (fun _ _ h=>h)) (.slice (some ⟨gb,0,none⟩) 1 1) 1 [.iface 135 (.agg #[.slice ta a.thn.length tc])] (by rfl) (xN HGB.out) rfl (J150 _) (by unfold maxLen;omega) (by omega) (yH _) ?_;intro ad6 cap6 w6 ha;have HA6:=yA ha;obtain ⟨_,_,c6,f6⟩:=zAc.app HGW.out H5B.out H5D.out.2.2.1 ha;clear ha cf)
          have HWN:Hid (zAu zi 1 103 wb T5 F id g i ((zL.set i ⟨t.st,regs,fs0++[f]⟩).set i ⟨t.st,regs,fs0++[⟨r,f.all,f.left⟩]⟩) ⟨t.st,regs,(fs0++[⟨r,f.all,f.left⟩])++[⟨a.thn,a.thn,1⟩]⟩ (w6.setCell ⟨g,i*3+2,none⟩ (.slice ad6 (n5+1) cap6))):=by
           obtain ⟨d1,d2,d3,d4⟩:=H5D.out;have h6:=HA6.out;have hb:=H5B.out;have hg:=HGW.out;have hr:=H5C.out.keeps HKB.out (fun _ _ h=>h);have hq:=H5E.out;have hp:=HPV.out.keeps HKB.out (fun _ _ h=>h);have hkb:=HKB.out;clear HGW H5D H5B HA6 H5C H5E HPV;subst d4;exact zAc.zK1 (t:=⟨t.st,regs,fs0++[⟨r,f.all,f.left⟩]⟩) (f:=⟨a.thn,a.thn,1⟩) zR hg hb hr d1 d3 (fun j y ds e1 e2=>zR.keeps (hq j y ds e1 e2) hkb (fun _ _ h=>h)) ⟨_,rfl,hp⟩ h6
          generalize w6.setCell ⟨g,i*3+2,none⟩ (.slice ad6 (n5+1) cap6)=w7 at HWN ⊢;go_roundg (zBF ((fs0++[⟨r,f.all,f.left⟩])++[⟨a.thn,a.thn,1⟩]))
          case measure=>rw [HX.out.2.2.1];exact zAd HST2.out
          case rel=>exact ⟨regs,(fs0++[⟨r,f.all,f.left⟩])++[⟨a.thn,a.thn,1⟩],rfl,zAu.trans HX.out.1 HX.out.2.1 (zAu.trans HX5.out.1 HX5.out.2 (HWN.out.before HKB.out)),HOK.out.step HST2.out,HX.out.2.2.2.1,by exact J199 _⟩
       by_cases n11:a.kind=11
       ·have hst:=zL3 (rg:=regs) (fs:=fs0) hr n11
        have HST:=yA hst;have HFR:Hid (T' ba=none /\ ¬ F ba):=HL.out.G.sep.free NB.out;clear hst;simp only [n11] at y;rw [n11];have N11:=yA n11;clear n11 n1 n10;go_upto_region 17 with (go_at_call 51;refine (HP.out _ k5).mono ?_;rintro e w5 ⟨rfl,g5⟩;have HW5:=yA g5;clear g5)
        obtain ⟨_,_,_,_,hk5a⟩:=HW5.out;have R5:=RA.keeps hk5a (by rintro (h | ⟨j,h | h⟩) <;> (rw [HFR.out.1] at h;cases h));clear hk5a y ka;have y:=R5.zAx;have kw5:=zI w5;have HWr:=yA (HW5.out.before k5);by_cases hc:0 < a.count
        ·have hst2:=HST.out
         rw [if_pos hc] at hst2;have HST2:=yA hst2;clear hst2;obtain ⟨T5,H5,G5,x5,K5⟩:=HWr.out;have hi5:((zL.set i ⟨t.st,regs,fs0++[f]⟩).set i ⟨t.st,regs,fs0++[⟨r,f.all,f.left⟩]⟩)[i]?=some (⟨t.st,regs,fs0++[⟨r,f.all,f.left⟩]⟩:WTh):=yX (J209 _);obtain ⟨rv5,fv5,hH5,hr5,css5,q1,q2,q3,⟨ad5,cap5,rfl⟩,q5⟩:=G5.get hi5;have hn5:(fs0++[(⟨r,f.all,f.left⟩:zx)]).length=fs0.length+1:=by rw [xE];rfl
         have hcn:((a.count.toNat:Nat):Int)=a.count:=by omega
         have HPV:Hid (zBS w5 F ⟨a.thn,a.thn,a.count.toNat⟩ (.iface 142 (.agg #[.slice ta a.thn.length tc, .slice ta a.thn.length tc, .int .i64 a.count]))):=by
          have hF5:∀ k,F k -> ¬ zDt T' id k:=fun k hk e=>by
           exact J68 _
          have:=HTV.out.keeps K5 hF5
          exact .inr ⟨_,_,by rw [hcn],this,this⟩
         have cf:=zT (zAF G5.row hH5).2.2;obtain ⟨n5,hn5'⟩:∃ z,z=(fs0++[(⟨r,f.all,f.left⟩:zx)]).length:=⟨_,rfl⟩
         rw [<- hn5'] at q1 q2 q3 cf hH5;have hn5b:n5 < 1000001:=by rw [hn5',hn5];omega
         have H5A:=yA G5;have H5B:=yA hH5;have H5C:=yA hr5;have H5D:Hid (css5.length=n5 /\ w5.ownsRow 0 103 1 (.slice ad5 n5 cap5) n5 css5.flatten /\ (∀ kb,(Value.slice ad5 n5 cap5).ownBlock=some kb -> T5 kb=some (id, .fs i)) /\ n5=(fs0++[(⟨r,f.all,f.left⟩:zx)]).length):=⟨q1,q2,q3,hn5'⟩;have H5E:=yA q5;have HX5:Hid (zAQ T' T5 id wr /\ Keeps (zDt T' id) wr w5):=⟨x5,K5⟩;obtain ⟨j0,hj0,hz0,hz1,hz2⟩:=info_parts zGw;clear G5 hH5 hr5 q1 q2 q3 q5 x5 K5 hi5 hn5 hn5' hcn;go_upto_region 18 with fail
         try rw [show ((r.length:Int)+1==0)=false from xG (by omega)]
         have hcd:decide (0 < a.count)=true:=xZ hc;try rw [hcd]
         clear hcd j1 j2 hc;refine zEk 14 (by kernel_rfl) (by kernel_rfl) _ (.pointer (some ⟨g,i*3,none⟩)) rfl (.inl ⟨rfl,fun _=>rfl⟩) (fun _ _ _ h=>h) (Keeps zA) (yB zA) (fun a b c h h'=>xD h h') (zAp [some (.pointer (some ⟨g,i*3,none⟩)),some (.pointer (some ⟨g,i*3,none⟩)),some (.pointer (some ⟨g,i*3,none⟩)),some (.pointer (some ⟨g,i*3+2,none⟩)),some (.slice ad5 n5 cap5),some (.pointer (some ⟨ba,8,none⟩)),some (.slice ta a.thn.length tc),some (.pointer (some ⟨ba,8,none⟩)),some (.slice ta a.thn.length tc),some (.pointer (some ⟨ba,7,none⟩)),some (.int .i64 a.count),some (.agg #[.slice ta a.thn.length tc, .slice ta a.thn.length tc, .int .i64 a.count]),some (.iface 142 (.agg #[.slice ta a.thn.length tc, .slice ta a.thn.length tc, .int .i64 a.count]))] (fun _ v W=>∃ b,v=.slice (some ⟨b,0,none⟩) 1 1 /\ zC W b [.iface 142 (.agg #[.slice ta a.thn.length tc, .slice ta a.thn.length tc, .int .i64 a.count])])) (vO (fun _ _ _ _ h hk=>by obtain ⟨b,e,hb⟩:=h;exact ⟨b,e,hb.keeps hk (fun h=>h)⟩)) (fun _=>rfl) ?_ ?_
         ·intro q oo hq1 hq ho vs W Q' hR hd hK
          have HRW:Keeps zA w5 W:=((zI w5).drew).zB hR;rcases (show q=1 \/ q=2 \/ q=3 \/ q=4 \/ q=5 \/ q=6 \/ q=7 \/ q=8 \/ q=9 \/ q=10 \/ q=11 \/ q=12 \/ q=13 by omega) with rfl | rfl | rfl | rfl | rfl | rfl | rfl | rfl | rfl | rfl | rfl | rfl | rfl
          all_goals (simp only [yC,yD,yP] at ho;subst ho;simp only [zJ,yC,yD,yN,Option.bind,Act.put,yE,yK,yF] at hK ⊢;clear hq hq1)
          ·exact J3 _
          ·exact J120 _
          ·exact J118 _
          ·exact J121 _
          ·exact J3 _
          ·exact J135 _
          ·exact J3 _
          ·exact J129 _
          ·exact J3 _
          ·exact J126 _
          ·have e6:vs 6=_:=hd 6 (by kernel_rfl)
           have e8:vs 8=_:=hd 8 (by kernel_rfl);have e10:vs 10=_:=hd 10 (by kernel_rfl);rw [e6,e8,e10] at hK ⊢;exact J3 _
          ·have e11:vs 11=_:=hd 11 (by kernel_rfl)
           rw [e11] at hK ⊢;exact J3 _
          ·have e12:vs 12=_:=hd 12 (by kernel_rfl)
           rw [e12] at hK ⊢;exact J41 _
         ·intro vs W hR hFF
          have HRW:Keeps zA w5 W:=((zI w5).drew).zB hR;have e0:vs 0=_:=hFF 0 (by decide);have e4:vs 4=_:=hFF 4 (by decide);obtain ⟨gb,e13,hgb⟩:=(hFF 13 (by decide):∃ b,vs 13=.slice (some ⟨b,0,none⟩) 1 1 /\ zC W b [.iface 142 (.agg #[.slice ta a.thn.length tc, .slice ta a.thn.length tc, .int .i64 a.count])]);have HGB:=yA hgb;simp only [zJ,yC,yD,yN,Option.bind,Act.put,yE,yK,yF,yT,yQ];rw [e0,e4,e13];clear hFF e0 e4 e13 hgb cf y R5;have HGW:=yA (zAc.keeps zR H5A.out HRW (fun _ _ h=>h));go_wp2_with (at_builtin;refine zH _ (by rfl) _ _ 84 (by rfl) 0 103 j0 _ 1 16 Tryz.underlying84 hj0 hz0 hz1 hz2 rfl (by decide) (.slice ad5 n5 cap5) n5 css5.flatten (by rfl) (zF H5D.out.2.1 HRW (fun _ _ h=>h)) (.slice (some ⟨gb,0,none⟩) 1 1) 1 [.iface 142 (.agg #[.slice ta a.thn.length tc, .slice ta a.thn.length tc, .int .i64 a.count])] (by rfl) (xN HGB.out) rfl (J150 _) (by unfold maxLen;omega) (by omega) (yH _) ?_;intro ad6 cap6 w6 ha;have HA6:=yA ha;obtain ⟨_,_,c6,f6⟩:=zAc.app HGW.out H5B.out H5D.out.2.2.1 ha;clear ha)
          have HWN:Hid (zAu zi 1 103 W T5 F id g i ((zL.set i ⟨t.st,regs,fs0++[f]⟩).set i ⟨t.st,regs,fs0++[⟨r,f.all,f.left⟩]⟩) ⟨t.st,regs,(fs0++[⟨r,f.all,f.left⟩])++[⟨a.thn,a.thn,a.count.toNat⟩]⟩ (w6.setCell ⟨g,i*3+2,none⟩ (.slice ad6 (n5+1) cap6))):=by
           obtain ⟨d1,d2,d3,d4⟩:=H5D.out;have h6:=HA6.out;have hb:=H5B.out;have hg:=HGW.out;have hr:=H5C.out.keeps HRW (fun _ _ h=>h);have hq:=H5E.out;have hp:=HPV.out.keeps HRW (fun _ _ h=>h);clear HGW H5D H5B HA6 H5C H5E HPV;subst d4;exact zAc.zK1 (t:=⟨t.st,regs,fs0++[⟨r,f.all,f.left⟩]⟩) (f:=⟨a.thn,a.thn,a.count.toNat⟩) zR hg hb hr d1 d3 (fun j y ds e1 e2=>zR.keeps (hq j y ds e1 e2) HRW (fun _ _ h=>h)) ⟨_,rfl,hp⟩ h6
          generalize w6.setCell ⟨g,i*3+2,none⟩ (.slice ad6 (n5+1) cap6)=w7 at HWN ⊢;go_roundg (zBF ((fs0++[⟨r,f.all,f.left⟩])++[⟨a.thn,a.thn,a.count.toNat⟩]))
          case measure=>rw [HX.out.2.2.1];exact zAd HST2.out
          case rel=>exact ⟨regs,(fs0++[⟨r,f.all,f.left⟩])++[⟨a.thn,a.thn,a.count.toNat⟩],rfl,zAu.trans HX.out.1 HX.out.2.1 (zAu.trans HX5.out.1 HX5.out.2 (HWN.out.before HRW)),HOK.out.step HST2.out,HX.out.2.2.2.1,by exact J199 _⟩
        ·have hst2:=HST.out
         rw [if_neg hc] at hst2;have HST2:=yA hst2;clear hst2;go_wp2_with fail
         go_roundg (zBF (fs0++[⟨r,f.all,f.left⟩]))
         case measure=>rw [HX.out.2.2.1];exact zAd HST2.out
         case rel=>exact ⟨regs,fs0++[⟨r,f.all,f.left⟩],rfl,zAu.trans HX.out.1 HX.out.2.1 HWr.out,HOK.out.step HST2.out,HX.out.2.2.2.1,by exact J199 _⟩
       have HG:Hid (zAu zi 1 103 w T F id g i zL t.local wr):=by
        have e:t.local=⟨t.st,regs,fs0++[f]⟩:=by
         unfold WTh.local;rw [<- HX.out.2.2.2.2,zEN (zL9 hr n1 n10 n11)]
        rw [e];exact ⟨T',H',HL.out.G,HX.out.1,HX.out.2.1⟩
       have b1:(a.kind==1)=false:=xG n1;have b10:(a.kind==10)=false:=xG n10;have b11:(a.kind==11)=false:=xG n11;go_wp2_with fail
       go_returns
       exact ⟨rfl,HG.out.after zR k5⟩)
end Go.Proofs.YtfokdllgnblamaaGreatDoor
