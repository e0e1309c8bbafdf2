/- Layer S: texts joined. -/
import Derived.Test.YtfjgcedkfnmdkaaGreatDoorS30
set_option linter.all false
set_option maxHeartbeats 8000000
set_option maxRecDepth 8000
namespace Go.Proofs.YtfjgcedkfnmdkaaGreatDoor
open Go.RowKit
abbrev kE:=@List.set_set
theorem J39 (P:Prop) (h:P:=by
 go_wp2_with (go_at_call 91;refine (HO.out _ (by assumption)).mono ?_;rintro e w5 ⟨rfl,g5⟩;have HN5:=yA (HN.out _ _ k4 g5);clear g5)
 go_roundg (zBG (zEf fs0 f))
 case measure=>rw [HX.out.2.2.1];exact zAd HST.out
 case rel=>exact ⟨regs,zEf fs0 f,rfl,HN5.out,HOK.out.step HST.out,HX.out.2.2.2.1,by rw [<- zCB HST.out];exact HX.out.2.2.2.2⟩):P:=h
theorem J67 (P:Prop) (h:P:=by
 have:=HL.out.G.sep.sep k hk
 rcases e with e | ⟨j,e | e⟩ <;> (rw [this] at e;cases e)):P:=h
theorem J103 (P:Prop) (h:P:=by
 clear hd;go_wp2_with (go_at_call 90;refine HV.call (k5.zB HRW) ?_;intro w6 _ g6)
 exact hK _ _ g6 rfl):P:=h
theorem J128 (P:Prop) (h:P:=by
 have e7:vs 7=_:=hd 7 (by kernel_rfl);rw [e7] at hK ⊢;exact J3 _):P:=h
theorem J140 (P:Prop) (h:P:=by
 have e6:vs 6=_:=hd 6 (by kernel_rfl);rw [e6] at hK ⊢;exact J3 _):P:=h
theorem J198 (P:Prop) (h:P:=by rw [<- HX.out.2.2.2.2,zCB HST2.out]):P:=h
theorem J207 (P:Prop) (h:P:=by rw [uG];exact HI.out):P:=h
theorem zAt.trans {R:zAz zx} {sz:Nat} {ty:TypeId} {w wr w2:World} {T T':zT} {F:Nat -> Prop} {id g i:Nat} {zL:List WTh} {t1 t2:WTh} (hx:zAR T T' id w) (hk:Keeps (zDn T id) w wr) (h:zAt R sz ty wr T' F id g i (zL.set i t1) t2 w2):zAt R sz ty w T F id g i zL t2 w2:=by
 obtain ⟨T2,H2,h1,h2,h3⟩:=h;rw [kE] at h1;refine ⟨T2,H2,h1,hx.trans h2 hk.size,hk.trans h3 (fun k hlt hs=>?_)⟩
 have back:∀ y,T' k=some (id,y) -> T k=some (id,y):=fun y e=>by
  rcases hx.2 k _ e with h | h
  ·exact h
  ·omega
 rcases hs with hs | ⟨j,hs | hs⟩
 ·exact .inl (back _ hs)
 ·exact .inr ⟨j, .inl (back _ hs)⟩
 ·exact .inr ⟨j, .inr (back _ hs)⟩
theorem zAt.start {R:zAz zx} {sz:Nat} {ty:TypeId} {w:World} {T:zT} {F:Nat -> Prop} {id g i:Nat} {H:List HTh} {zL:List WTh} {t:WTh} (h:zAb R sz ty w T F id g H zL) (ht:zL[i]?=some t):zAt R sz ty w T F id g i zL t w:=by
 have e:zL.set i t=zL:=by
  obtain ⟨q1,q2⟩:=yI.1 ht;rw [<- q2,List.set_getElem_self]
 exact ⟨T,H,by rw [e];exact h,vX T id w,(yB _ _)⟩
theorem zLZ {r:List Int} {fs:List zx} {f:zx} (hf:f.rest=[]):zA0 r (fs++[f])=some (r,zEf fs f):=by
 unfold zA0 zEf;simp [hf]
theorem zLt {rg:List Int} {fs:List zx} {f:zx} {a:Ac} {r:List Ac} (hr:f.rest=a :: r) (h1:¬ a.kind=1) (h2:¬ a.kind=10) (h3:¬ a.kind=11):zA0 rg (fs++[f])=none:=by
 unfold zA0;simp [hr,h1,h2,h3]
theorem zL3 {rg:List Int} {fs:List zx} {f:zx} {a:Ac} {r:List Ac} (hr:f.rest=a :: r) (h1:a.kind=1):zA0 rg (fs++[f])=some (rg.set a.reg.toNat (a.ex.val rg),fs++[⟨r,f.all,f.left⟩]):=by
 unfold zA0;simp [hr,h1]
theorem zNB {rg:List Int} {fs:List zx} {f:zx} {a:Ac} {r:List Ac} (hr:f.rest=a :: r) (h1:a.kind=10) {b:List Ac} (hb:b=if a.ex.val rg ≠ 0 then a.thn else a.els):zA0 rg (fs++[f])=some (rg,(fs++[⟨r,f.all,f.left⟩])++[⟨b,b,1⟩]):=by
 unfold zA0;simp [hr,h1,hb]
theorem zMK {rg:List Int} {fs:List zx} {f:zx} {a:Ac} {r:List Ac} (hr:f.rest=a :: r) (h1:a.kind=11):zA0 rg (fs++[f])=some (rg,if 0 < a.count then (fs++[⟨r,f.all,f.left⟩])++[⟨a.thn,a.thn,a.count.toNat⟩] else fs++[⟨r,f.all,f.left⟩]):=by
 unfold zA0;simp [hr,h1]
theorem zDl.step {u:Un} {n:Int} {r r':List Int} {fs fs':List zx} (h:zDl u n fs) (h1:zA0 r fs=some (r',fs')):zDl u n fs':=⟨(zGx h1 h.each).2,zHS h1 h.low⟩
theorem zDl.split {u:Un} {n:Int} {fs:List zx} {f:zx} (h:zDl u n (fs++[f])):f.ok u n /\ fs.length < 1000000:=by
 refine ⟨h.each f (by simp),?_⟩
 have:=h.low.1
 simp at this
 omega
theorem zJX {R:zAz zx} {sz:Nat} {ty:TypeId} (LR:zAQ R sz) {w:World} {T:zT} {F:Nat -> Prop} {id g i gr rc:Nat} {H:List HTh} {zL:List WTh} {t:WTh} {fv:Value} (h:zAb R sz ty w T F id g H zL) (hH:H[i]?=some ⟨t.st, .slice (some ⟨gr,0,none⟩) t.regs.length rc,fv⟩) (hT:T gr=some (id, .regs i))
 (hr:zC w gr (ints t.regs)) (hfs:zBi R sz ty w T F id i fv t.fs) {k:Nat} (hk:k < t.regs.length) (u:Int):zAt R sz ty w T F id g i zL { t with regs:=t.regs.set k u } (w.setCell ⟨gr,k,none⟩ (.int .i64 u)):=by
 have hkp:Keeps (fun q=>q=gr) w (w.setCell ⟨gr,k,none⟩ (.int .i64 u)):=(yB (fun q=>q=gr) w).setCell (p:=⟨gr,k,none⟩) (fun _=>rfl) _;have hF:∀ q,F q -> ¬ q=gr:=fun q hq e=>by have:=h.sep.sep q hq;rw [e,hT] at this;cases this
 have hg:¬ g=gr:=fun e=>by have:=h.tag;rw [e,hT] at this;cases this
 have hI:=zBM.set (id:=id) (t:=.regs i) (cap:=rc) hT hr k hk u
 have hHH:H.set i ⟨t.st, .slice (some ⟨gr,0,none⟩) t.regs.length rc,fv⟩=H:=by
  obtain ⟨q1,q2⟩:=yI.1 hH;rw [<- q2,List.set_getElem_self]
 have hu:=zAb.upd (i:=i) (t':={ t with regs:=t.regs.set k u }) LR h (vX T id w) (h.sep.keeps hkp) (hkp.mono (fun q _ e=>.inr (.inl (by rw [e];exact hT)))) (a':=⟨t.st, .slice (some ⟨gr,0,none⟩) t.regs.length rc,fv⟩) (by rw [hHH];exact h.row.keeps hkp hg) rfl hI
  (zBi.keeps LR hfs hkp (fun q e1 e2=>by rw [e2,hT] at e1;cases e1) hF)
 exact ⟨T,_,hu,vX T id w,hkp.mono (fun q _ e=>by rw [e];exact .inr ⟨i, .inl hT⟩)⟩
theorem zGV {w:World} {T:zT} {F:Nat -> Prop} {id g i:Nat} {H:List HTh} {zL:List WTh} {t:WTh} {u:Un} {n:Int} (h:zAb zk 1 109 w T F id g H zL) (ht:zL[i]?=some t) (hf:zDl u n t.fs) (hn:t.regs.length=n.toNat) :
 Calls Tryz.prog 61 #[.pointer (some ⟨g,i*3,none⟩)] w fun e w'=>e=.returned (.tuple #[]) /\ zAt zk 1 109 w T F id g i zL t.local w':=by
 have HW:Hid (zAt zk 1 109 w T F id g i zL ⟨t.st,t.regs,t.fs⟩ w /\ zDl u n t.fs /\ t.regs.length=n.toNat):=⟨zAt.start h ht,hf,hn⟩;have hi:i < zL.length:=(yI.1 ht).1;have HI:=yA hi;clear h ht hf hn hi;go_enter Tryz.func61,Tryz.ntmps61
 go_wp2_with fail
 go_loopg [] (zBG t.fs) (fun k wr=>∃ regs fs,Hid (k=zBG fs /\ zAt zk 1 109 w T F id g i zL ⟨t.st,regs,fs⟩ wr /\ zDl u n fs /\ regs.length=n.toNat /\ loc regs fs=loc t.regs t.fs))
 case atStart=>exact ⟨t.regs,t.fs,rfl,HW.out.1,HW.out.2.1,HW.out.2.2,rfl⟩
 case round =>
  obtain ⟨regs,fs,HR⟩:=hrel;obtain ⟨hk,⟨T',H',hG,hx,hkw⟩,hok,hrl,hloc⟩:=HR.out;have hti:(zL.set i ⟨t.st,regs,fs⟩)[i]?=some (⟨t.st,regs,fs⟩:WTh):=yY HI.out;have HX:Hid (zAR T T' id w /\ Keeps (zDn T id) w wr /\ gk=zBG fs /\ regs.length=n.toNat /\ loc regs fs=loc t.regs t.fs):=⟨hx,hkw,hk,hrl,hloc⟩;clear HR hk hx hkw hrl hloc;cases hl:fs.getLast? with
  | none =>
    have hfs:fs=[]:=by simpa using hl
    subst hfs;obtain ⟨rv,fv,hH,_,hfs⟩:=hG.get hti;obtain ⟨css,_,_,_,⟨ad,cap,rfl⟩,_⟩:=hfs;have c:=(zAF hG.row hH).2.2;have HT:Ret wr 59 #[.pointer (some ⟨g,i*3,none⟩)] .nilIface:=fun W hk=>zJM W g (i*3) ad cap (hk.cell (fun h=>h) c)
    have HG:Hid (zAt zk 1 109 w T F id g i zL t.local wr):=by
     have e:t.local=⟨t.st,regs,[]⟩:=by
      unfold WTh.local;rw [<- HX.out.2.2.2.2,zEa (by simp [zA0])]
     rw [e];exact ⟨T',H',hG,HX.out.1,HX.out.2.1⟩
    clear hl c hH hti hG hok;have k0:=zJ wr;go_wp2_with (go_at_call 59;refine HT.call k0 ?_;intro w3 k3 _)
    go_returns
    exact ⟨rfl,HG.out.after zS k3⟩
  | some f =>
    have hs:=zAZ hl;obtain ⟨fs0,hfs0⟩:∃ z,z=fs.dropLast:=⟨_,rfl⟩
    rw [<- hfs0] at hs;subst hs;clear hl hfs0;obtain ⟨rv,gp,cap,css,pv,hL⟩:=hG.last hti rfl;obtain ⟨hfo,hdep⟩:=hok.split;have HL:=yA hL;have HOK:=yA hok;have HT:Ret wr 59 #[.pointer (some ⟨g,i*3,none⟩)] pv:=fun W hk=>zFo W g (i*3) gp fs0.length cap pv (hk.cell (fun h=>h) hL.fv) (hk.cell (fun h=>h) hL.cell) (by omega) hL.pl.one
    have hpl:=hL.pl;have k0:=zJ wr;clear hL hG hti hok;have HLE:f.left < 1000000:=by have:=hfo.2.2;omega
    cases hr:f.rest with
    | nil =>
      have hst:=zLZ (r:=regs) (fs:=fs0) hr;have HST:=yA hst;clear hst;have HN:Hid (∀ W w5,Keeps zA wr W -> zAt zk 1 109 W T' F id g i (zL.set i ⟨t.st,regs,fs0++[f]⟩) ⟨t.st,regs,zEf fs0 f⟩ w5 -> zAt zk 1 109 w T F id g i zL ⟨t.st,regs,zEf fs0 f⟩ w5):=fun W w5 hk hw=>zAt.trans HX.out.1 HX.out.2.1 (hw.before hk)
      have HOUT:∀ W,Keeps zA wr W -> Calls Tryz.prog 91 #[.pointer (some ⟨g,i*3,none⟩)] W fun e w'=>e=.returned (.tuple #[]) /\ zAt zk 1 109 W T' F id g i (zL.set i ⟨t.st,regs,fs0++[f]⟩) ⟨t.st,regs,zEf fs0 f⟩ w':=fun W hk=>zNS (HL.out.zF hk) hdep HLE
      have HO:=yA HOUT;clear HOUT;unfold zBT at hpl;rw [hr] at hpl;rcases hpl with ⟨h0,v,rfl,hv⟩ | ⟨v,v2,rfl,hv,hv2⟩
      ·obtain ⟨sa,sc,rfl⟩:=hv.slice
       clear h0;clear hv;go_upto_region 2 with (first | (go_at_call 59;refine HT.call (by assumption) ?_;intro w3 k3 _) | (go_at_call 241;refine (zCS _ _ ⟨_,_,_,rfl⟩).mono ?_;rintro e w4 ⟨rfl,g4⟩;have k4:=k3.zB g4;clear g4))
       exact J39 _
      ·obtain ⟨sa,sc,rfl⟩:=hv.slice
       obtain ⟨sg,sh,rfl⟩:=hv2.slice;clear hv hv2;go_upto_region 2 with (first | (go_at_call 59;refine HT.call (by assumption) ?_;intro w3 k3 _) | (go_at_call 242;refine (zDc _ _ _ _ ⟨_,_,_,rfl⟩ ⟨_,_,_,rfl⟩).mono ?_;rintro e w4 ⟨rfl,g4⟩;have k4:=k3.zB g4;clear g4))
       exact J39 _
    | cons a r =>
      have hmay:Ac.may u n a=true:=by have:=hfo.1;rw [hr] at this;exact (Ac.zCp this).1
      have HMAY:=yA hmay;have hpass:∀ W,Keeps zA wr W -> Calls Tryz.prog 60 #[.pointer (some ⟨g,i*3,none⟩)] W fun e w'=>e=.returned (.tuple #[]) /\ zAt zk 1 109 W T' F id g i (zL.set i ⟨t.st,regs,fs0++[f]⟩) ⟨t.st,regs,fs0++[⟨r,f.all,f.left⟩]⟩ w':=fun W hk=>zDx (HL.out.zF hk) hr hdep
      have HP:=yA hpass;clear hmay hpass;unfold zBT at hpl;rw [hr] at hpl;rcases hpl with hp | hp
      all_goals (first | (obtain ⟨h0,v,rfl,hv⟩:=hp;clear h0) | (obtain ⟨v,v2,rfl,hv,hv2⟩:=hp;obtain ⟨sg,sh,rfl⟩:=hv2.slice;clear hv2))
      all_goals (
       obtain ⟨ga,oa,sc,xa,xc,tv,ev,rfl,hga,hxs,htv,hev,q⟩:=hv.head;obtain ⟨ta,tc,rfl⟩:=htv.slice;obtain ⟨ea,ec,rfl⟩:=hev.slice;have HXS:=yA hxs;have HTV:=yA htv;have HEV:=yA hev
       have d:∀ W,Keeps zA wr W -> W.cell? ⟨ga,oa,none⟩=some (.int .i64 a.kind) /\ W.cell? ⟨ga,oa+1,none⟩=some (.int .i64 a.reg) /\ W.cell? ⟨ga,oa+2,none⟩=some (.int .i64 a.obj) /\ W.cell? ⟨ga,oa+3,none⟩=some (.int .i64 a.ex.kind) /\ W.cell? ⟨ga,oa+4,none⟩=some (.int .i64 a.ex.num) ∧
        W.cell? ⟨ga,oa+5,none⟩=some (.string a.ex.nm) /\ W.cell? ⟨ga,oa+6,none⟩=some (.slice xa a.ex.args.length xc) /\ W.cell? ⟨ga,oa+7,none⟩=some (.int .i64 a.count) /\ W.cell? ⟨ga,oa+8,none⟩=some (.slice ta a.thn.length tc) /\ W.cell? ⟨ga,oa+9,none⟩=some (.slice ea a.els.length ec) :=
        fun W hk=>⟨hk.cell (fun h=>h) q.1,hk.cell (fun h=>h) q.2.1,hk.cell (fun h=>h) q.2.2.1,hk.cell (fun h=>h) q.2.2.2.1,hk.cell (fun h=>h) q.2.2.2.2.1,hk.cell (fun h=>h) q.2.2.2.2.2.1,hk.cell (fun h=>h) q.2.2.2.2.2.2.1,hk.cell (fun h=>h) q.2.2.2.2.2.2.2.1,hk.cell (fun h=>h) q.2.2.2.2.2.2.2.2.1,hk.cell (fun h=>h) q.2.2.2.2.2.2.2.2.2⟩
       clear hv q hxs htv hev hga;have j1:¬ ((r.length+1:Nat):Int)=0:=by omega
       have j2:(((r.length+1:Nat):Int)==0)=false:=xE j1;go_upto_region 4 with (first | (go_at_call 59;refine HT.call (by assumption) ?_;intro w3 k3 _) | (go_at_call 241;refine (zCS _ _ ⟨_,_,_,rfl⟩).mono ?_;rintro e w4 ⟨rfl,g4⟩;have k4:=k3.zB g4;clear g4) | (go_at_call 242;refine (zDc _ _ _ _ ⟨_,_,_,rfl⟩ ⟨_,_,_,rfl⟩).mono ?_;rintro e w4 ⟨rfl,g4⟩;have k4:=k3.zB g4;clear g4))
       go_upto_region 5 with fail
       obtain ⟨ba,wa,e3,e4,RA,KA,_⟩:=newRow w4 [.int .i64 a.kind, .int .i64 a.reg, .int .i64 a.obj, .int .i64 a.ex.kind, .int .i64 a.ex.num, .string a.ex.nm, .slice xa a.ex.args.length xc, .int .i64 a.count, .slice ta a.thn.length tc, .slice ea a.els.length ec] 75;rw [e3,e4];have k5:=k4.zB KA;have y:=RA.zAw;have ka:=zJ wa;have NB:Hid (wr.heap.size <= ba):=by show _ <= _;rw [<- e3];exact k4.size
       clear e3 e4 KA k3 k4 d;by_cases n1:a.kind=1
       ·have hst:=zL3 (rg:=regs) (fs:=fs0) hr n1
        have HST:=yA hst;clear hst;obtain ⟨r0,r1⟩:=Ac.zG7 HMAY.out (.inl n1);have hlt:a.reg.toNat < regs.length:=by have:=HX.out.2.2.2.1;omega
        obtain ⟨gr,rc,hrv,hTg,hRr⟩:=HL.out.regs.at hlt;have hrv:rv=.slice (some ⟨gr,0,none⟩) regs.length rc:=hrv
        have HV:Ret wr 90 #[.agg #[.int .i64 a.ex.kind, .int .i64 a.ex.num, .string a.ex.nm, .slice xa a.ex.args.length xc], .slice (some ⟨gr,0,none⟩) regs.length rc] (.int .i64 (a.ex.val regs)):=fun W hk=>by
         have hs:=(HL.out.regs.keeps hk (fun _ _ h=>h)).src;rw [hrv] at hs;exact zDf regs n _ HX.out.2.2.2.1 a.ex W F xa xc (vP HXS.out hk (fun _ _ h=>h)) hs (Ac.zEw HMAY.out (.inl n1))
        have tc1:=zM (zAF HL.out.G.row HL.out.h).2.1;rw [show (⟨t.st,rv, .slice (some ⟨gp,0,none⟩) (fs0.length+1) cap⟩:HTh).rv=.slice (some ⟨gr,0,none⟩) regs.length rc from hrv] at tc1;have rcell:=zM (hRr.cell (zAD regs _ hlt));have rfree:=zK (hRr.free (k:=a.reg.toNat) (by rw [zA9];exact hlt)) ⟨_,hRr.cell (zAD regs _ hlt)⟩;have HRR:Hid (rv=.slice (some ⟨gr,0,none⟩) regs.length rc /\ T' gr=some (id, .regs i) /\ zC wr gr (ints regs) /\ a.reg.toNat < regs.length):=⟨hrv,hTg,hRr,hlt⟩;have i1:a.reg < (regs.length:Int):=by omega
        have i2:((a.reg.toNat:Nat):Int)=a.reg:=by omega
        generalize hval:a.ex.val regs=val at HV;have HVAL:=yA hval;clear hval;generalize hzr:regs.length=zr at HV tc1 i1;have HZR:=yA hzr;clear hzr hrv hTg hRr hlt r1;simp only [n1] at y;rw [n1];have N1:=yA n1;clear n1;go_upto_region 7 with fail
        have z13:((r.length:Int)+1==0)=false:=xE (by omega);try rw [z13]
        refine zQ 14 (by kernel_rfl) (by kernel_rfl) (Keeps zA) (yB zA) (fun a b c h h'=>xJ h h') (zAo [some (.pointer (some ⟨g,i*3,none⟩)),some (.pointer (some ⟨g,i*3,none⟩)),some (.pointer (some ⟨g,i*3+1,none⟩)),some (.slice (some ⟨gr,0,none⟩) zr rc),some (.pointer (some ⟨ba,1,none⟩)),some (.int .i64 a.reg),some (.pointer (some ⟨ba,3,none⟩)),some (.agg #[.int .i64 a.ex.kind, .int .i64 a.ex.num, .string a.ex.nm, .slice xa a.ex.args.length xc]),some (.pointer (some ⟨g,i*3,none⟩)),some (.pointer (some ⟨g,i*3,none⟩)),some (.pointer (some ⟨g,i*3+1,none⟩)),some (.slice (some ⟨gr,0,none⟩) zr rc),some (.int .i64 val),some (.pointer (some ⟨gr,a.reg.toNat,none⟩))] (fun _ _ _=>False)) (vU (fun _ _ _ _ h _=>h)) ?_ ?_
        ·intro q oo hq ho vs W Q' hR hd hK
         have HRW:Keeps zA wa W:=((zJ wa).drew).zB hR;have k5W:=k5.zB HRW;rcases (show q=0 \/ q=1 \/ q=2 \/ q=3 \/ q=4 \/ q=5 \/ q=6 \/ q=7 \/ q=8 \/ q=9 \/ q=10 \/ q=11 \/ q=12 \/ q=13 by omega) with rfl | rfl | rfl | rfl | rfl | rfl | rfl | rfl | rfl | rfl | rfl | rfl | rfl | rfl
         all_goals (simp only [yC,yD,yP] at ho;subst ho;simp only [zI,yC,yD,yO,Option.bind,Act.put,yE,yK,yL] at hK ⊢;clear hq)
         ·exact J3 _
         ·exact J114 _
         ·exact J119 _
         ·exact J117 _
         ·exact J3 _
         ·exact J118 _
         ·exact J3 _
         ·exact J140 _
         ·exact J3 _
         ·exact J127 _
         ·exact J125 _
         ·have e10:vs 10=_:=hd 10 (by kernel_rfl)
          rw [e10] at hK ⊢;exact J3 _
         ·have e7:vs 7=_:=hd 7 (by kernel_rfl)
          have e11:vs 11=_:=hd 11 (by kernel_rfl);rw [e7,e11] at hK ⊢;exact J103 _
         ·have e3:vs 3=_:=hd 3 (by kernel_rfl)
          have e5:vs 5=_:=hd 5 (by kernel_rfl);rw [e3,e5] at hK ⊢;exact J3 _
        ·intro vs W hR hFF
         have HRW:Keeps zA wa W:=((zJ wa).drew).zB hR;have k5W:=k5.zB HRW;have e12:vs 12=_:=hFF 12 (by decide);have e13:vs 13=_:=hFF 13 (by decide);simp only [zI,yC,yD,yO,Option.bind,Act.put,yE,yK,yL,yU,yQ];rw [e12,e13];clear hFF e12 e13 tc1;go_upto_region 8 with fail
         have hfs:=(HL.out.G.each i _ _ HL.out.h HL.out.th).2.2;have hh7:=HL.out.h;rw [HRR.out.1] at hh7 hfs;have hw7:=(zJX zS (t:=⟨t.st,regs,fs0++[f]⟩) (kY zS HL.out.G k5W (fun _ _ h=>h)) hh7 HRR.out.2.1 (HRR.out.2.2.1.keeps k5W (fun h=>h)) (zBi.keeps zS hfs k5W (fun _ _ h=>h) (fun _ _ h=>h)) HRR.out.2.2.2 val).before k5W;generalize W.setCell ⟨gr,a.reg.toNat,none⟩ (.int .i64 val)=w7 at hw7 ⊢;obtain ⟨T7,H7,G7,x7,k7⟩:=hw7;have hi7:((zL.set i ⟨t.st,regs,fs0++[f]⟩).set i ⟨t.st,regs.set a.reg.toNat val,fs0++[f]⟩)[i]?=some (⟨t.st,regs.set a.reg.toNat val,fs0++[f]⟩:WTh):=yY (J207 _);obtain ⟨rv7,gp7,cap7,css7,pv7,hL7⟩:=G7.last hi7 rfl;have HP7:=yA (zDx hL7 hr hdep);have HX7:Hid (zAR T' T7 id wr /\ Keeps (zDn T' id) wr w7):=⟨x7,k7⟩;clear hfs hh7 G7 x7 k7 hi7 hL7;go_wp2_with (go_at_call 60;refine HP7.out.mono ?_;rintro e w8 ⟨rfl,g8⟩;have HW8:=yA g8;clear g8)
         go_roundg (zBG (fs0++[⟨r,f.all,f.left⟩]))
         case measure=>rw [HX.out.2.2.1];exact zAd HST.out
         case rel=>exact ⟨regs.set a.reg.toNat val,fs0++[⟨r,f.all,f.left⟩],rfl,zAt.trans HX.out.1 HX.out.2.1 (zAt.trans HX7.out.1 HX7.out.2 HW8.out),HOK.out.step HST.out,by rw [uG];exact HX.out.2.2.2.1,by rw [<- HX.out.2.2.2.2,zCB HST.out,HVAL.out]⟩
       by_cases n10:a.kind=10
       ·have HST:Hid (∀ b,(b=if a.ex.val regs ≠ 0 then a.thn else a.els) -> zA0 regs (fs0++[f])=some (regs,(fs0++[⟨r,f.all,f.left⟩])++[⟨b,b,1⟩])):=fun b hb=>zNB hr n10 hb
        have HFR:Hid (T' ba=none /\ ¬ F ba):=HL.out.G.sep.free NB.out;obtain ⟨ra,rc,hrv,_⟩:=HL.out.regs
        have HV:Ret wr 90 #[.agg #[.int .i64 a.ex.kind, .int .i64 a.ex.num, .string a.ex.nm, .slice xa a.ex.args.length xc], .slice ra regs.length rc] (.int .i64 (a.ex.val regs)):=fun W hk=>by
         have hs:=(HL.out.regs.keeps hk (fun _ _ h=>h)).src;rw [hrv] at hs;exact zDf regs n _ HX.out.2.2.2.1 a.ex W F xa xc (vP HXS.out hk (fun _ _ h=>h)) hs (Ac.zEw HMAY.out (.inr (.inr (.inr (.inr n10)))))
        have tc1:=zM (zAF HL.out.G.row HL.out.h).2.1;rw [show (⟨t.st,rv, .slice (some ⟨gp,0,none⟩) (fs0.length+1) cap⟩:HTh).rv=.slice ra regs.length rc from hrv] at tc1;generalize hval:a.ex.val regs=val at HV HST;have HVAL:=yA hval;clear hval;generalize hzr:regs.length=zr at HV tc1;have HZR:=yA hzr;clear hzr hrv;simp only [n10] at y;rw [n10];have N10:=yA n10;clear n10 n1;go_upto_region 11 with fail
        try rw [show ((r.length:Int)+1==0)=false from xE (by omega)]
        refine zQ 7 (by kernel_rfl) (by kernel_rfl) (Keeps zA) (yB zA) (fun a b c h h'=>xJ h h') (zAo [some (.pointer (some ⟨ba,3,none⟩)),some (.agg #[.int .i64 a.ex.kind, .int .i64 a.ex.num, .string a.ex.nm, .slice xa a.ex.args.length xc]),some (.pointer (some ⟨g,i*3,none⟩)),some (.pointer (some ⟨g,i*3,none⟩)),some (.pointer (some ⟨g,i*3+1,none⟩)),some (.slice ra zr rc),some (.int .i64 val)] (fun _ _ _=>False)) (vU (fun _ _ _ _ h _=>h)) ?_ ?_
        ·intro q oo hq ho vs W Q' hR hd hK
         have HRW:Keeps zA wa W:=((zJ wa).drew).zB hR;have k5W:=k5.zB HRW;rcases (show q=0 \/ q=1 \/ q=2 \/ q=3 \/ q=4 \/ q=5 \/ q=6 by omega) with rfl | rfl | rfl | rfl | rfl | rfl | rfl
         all_goals (simp only [yC,yD,yP] at ho;subst ho;simp only [zI,yC,yD,yO,Option.bind,Act.put,yE,yK,yL] at hK ⊢;clear hq)
         ·exact J3 _
         ·exact J114 _
         ·exact J3 _
         ·exact J117 _
         ·exact J120 _
         ·exact J118 _
         ·have e1:vs 1=_:=hd 1 (by kernel_rfl)
          have e5:vs 5=_:=hd 5 (by kernel_rfl);rw [e1,e5] at hK ⊢;exact J103 _
        ·intro vs W hR hFF
         have HRW:Keeps zA wa W:=((zJ wa).drew).zB hR;have k5W:=k5.zB HRW;have e6:vs 6=_:=hFF 6 (by decide);simp only [zI,yC,yD,yO,Option.bind,Act.put,yE,yK,yL,yU,yQ];rw [e6];have yW:=fun W2 (q:Keeps zA W W2)=>y W2 (HRW.zB q)
         clear hFF e6 tc1 y ka;have y:=yW;clear yW;have kW:=zJ W;by_cases hz:val=0
         ·have hst2:=HST.out a.els (by rw [if_neg (fun h=>h hz)])
          have HST2:=yA hst2;clear hst2;have hzb:(val != 0)=false:=by rw [hz];rfl
          go_upto_region 13 with fail
          go_upto_region 14 with (go_at_call 60;refine (HP.out _ k5W).mono ?_;rintro e w5 ⟨rfl,g5⟩;have HW5:=yA g5;clear g5)
          have HWr:=yA (HW5.out.before k5W);clear y kW;obtain ⟨T5,H5,G5,x5,K5⟩:=HWr.out;have hi5:((zL.set i ⟨t.st,regs,fs0++[f]⟩).set i ⟨t.st,regs,fs0++[⟨r,f.all,f.left⟩]⟩)[i]?=some (⟨t.st,regs,fs0++[⟨r,f.all,f.left⟩]⟩:WTh):=yY (J207 _);obtain ⟨rv5,fv5,hH5,hr5,css5,q1,q2,q3,⟨ad5,cap5,rfl⟩,q5⟩:=G5.get hi5;have hn5:(fs0++[(⟨r,f.all,f.left⟩:zx)]).length=fs0.length+1:=by rw [xI];rfl
          have HPV:Hid (zBT w5 F ⟨a.els,a.els,1⟩ (.iface 146 (.agg #[.slice ea a.els.length ec]))):=by
           have hF5:∀ k,F k -> ¬ zDn T' id k:=fun k hk e=>by
            exact J67 _
           exact .inl ⟨yV _,_,rfl,HEV.out.keeps K5 hF5⟩
          have cf:=zM (zAF G5.row hH5).2.2;obtain ⟨n5,hn5'⟩:∃ z,z=(fs0++[(⟨r,f.all,f.left⟩:zx)]).length:=⟨_,rfl⟩
          rw [<- hn5'] at q1 q2 q3 cf hH5;have hn5b:n5 < 1000001:=by rw [hn5',hn5];omega
          have H5A:=yA G5;have H5B:=yA hH5;have H5C:=yA hr5;have H5D:Hid (css5.length=n5 /\ w5.ownsRow 0 109 1 (.slice ad5 n5 cap5) n5 css5.flatten /\ (∀ kb,(Value.slice ad5 n5 cap5).ownBlock=some kb -> T5 kb=some (id, .fs i)) /\ n5=(fs0++[(⟨r,f.all,f.left⟩:zx)]).length):=⟨q1,q2,q3,hn5'⟩;have H5E:=yA q5;have HX5:Hid (zAR T' T5 id wr /\ Keeps (zDn T' id) wr w5):=⟨x5,K5⟩;obtain ⟨j0,hj0,hz0,hz1,hz2⟩:=info_parts zG5;clear G5 hH5 hr5 q1 q2 q3 q5 x5 K5 hi5 hn5 hn5' j1 j2 hz;have k5':=zJ w5;obtain ⟨gb,wb,eb1,eb2,RB,KB,_⟩:=newRow w5 [.iface 146 (.agg #[.slice ea a.els.length ec])] 109;have HGB:=yA RB;have HKB:=yA KB;have HEB:Hid (w5.heap.size=gb /\ w5.alloc (.cells [Value.iface 146 (.agg #[.slice ea a.els.length ec])].toArray 109)=wb):=⟨eb1,eb2⟩;have HGW:=yA (kY zS H5A.out KB (fun _ _ h=>h));clear eb1 eb2 RB KB;go_wp2_with (at_builtin;rw [HEB.out.1,HEB.out.2];refine zH _ (by rfl) _ _ 91 (by rfl) 0 109 j0 _ 1 16 Tryz.underlying91 hj0 hz0 hz1 hz2 rfl (by decide) (.slice ad5 n5 cap5) n5 css5.flatten (by rfl) (zG H5D.out.2.1 HKB.out (fun _ _ h=>h)) (.slice (some ⟨gb,0,none⟩) 1 1) 1 [.iface 146 (.agg #[.slice ea a.els.length ec])] (by rfl) (xQ HGB.out) rfl (J149 _) (by unfold maxLen;omega) (by omega) (yG _) ?_;intro ad6 cap6 w6 ha;have HA6:=yA ha;obtain ⟨_,_,c6,f6⟩:=zAb.app HGW.out H5B.out H5D.out.2.2.1 ha;clear ha cf)
          have HWN:Hid (zAt zk 1 109 wb T5 F id g i ((zL.set i ⟨t.st,regs,fs0++[f]⟩).set i ⟨t.st,regs,fs0++[⟨r,f.all,f.left⟩]⟩) ⟨t.st,regs,(fs0++[⟨r,f.all,f.left⟩])++[⟨a.els,a.els,1⟩]⟩ (w6.setCell ⟨g,i*3+2,none⟩ (.slice ad6 (n5+1) cap6))):=by
           obtain ⟨d1,d2,d3,d4⟩:=H5D.out;have h6:=HA6.out;have hb:=H5B.out;have hg:=HGW.out;have hr:=H5C.out.keeps HKB.out (fun _ _ h=>h);have hq:=H5E.out;have hp:=HPV.out.keeps HKB.out (fun _ _ h=>h);have hkb:=HKB.out;clear HGW H5D H5B HA6 H5C H5E HPV;subst d4;exact zAb.zMU (t:=⟨t.st,regs,fs0++[⟨r,f.all,f.left⟩]⟩) (f:=⟨a.els,a.els,1⟩) zS hg hb hr d1 d3 (fun j y ds e1 e2=>zS.keeps (hq j y ds e1 e2) hkb (fun _ _ h=>h)) ⟨_,rfl,hp⟩ h6
          generalize w6.setCell ⟨g,i*3+2,none⟩ (.slice ad6 (n5+1) cap6)=w7 at HWN ⊢;go_roundg (zBG ((fs0++[⟨r,f.all,f.left⟩])++[⟨a.els,a.els,1⟩]))
          case measure=>rw [HX.out.2.2.1];exact zAd HST2.out
          case rel=>exact ⟨regs,(fs0++[⟨r,f.all,f.left⟩])++[⟨a.els,a.els,1⟩],rfl,zAt.trans HX.out.1 HX.out.2.1 (zAt.trans HX5.out.1 HX5.out.2 (HWN.out.before HKB.out)),HOK.out.step HST2.out,HX.out.2.2.2.1,by exact J198 _⟩
         ·have hst2:=HST.out a.thn (by rw [if_pos hz])
          have HST2:=yA hst2;clear hst2;have hzb:(val != 0)=true:=uW.2 hz;go_upto_region 13 with fail
          go_upto_region 14 with (go_at_call 60;refine (HP.out _ k5W).mono ?_;rintro e w5 ⟨rfl,g5⟩;have HW5:=yA g5;clear g5)
          have HWr:=yA (HW5.out.before k5W);clear y kW;obtain ⟨T5,H5,G5,x5,K5⟩:=HWr.out;have hi5:((zL.set i ⟨t.st,regs,fs0++[f]⟩).set i ⟨t.st,regs,fs0++[⟨r,f.all,f.left⟩]⟩)[i]?=some (⟨t.st,regs,fs0++[⟨r,f.all,f.left⟩]⟩:WTh):=yY (J207 _);obtain ⟨rv5,fv5,hH5,hr5,css5,q1,q2,q3,⟨ad5,cap5,rfl⟩,q5⟩:=G5.get hi5;have hn5:(fs0++[(⟨r,f.all,f.left⟩:zx)]).length=fs0.length+1:=by rw [xI];rfl
          have HPV:Hid (zBT w5 F ⟨a.thn,a.thn,1⟩ (.iface 146 (.agg #[.slice ta a.thn.length tc]))):=by
           have hF5:∀ k,F k -> ¬ zDn T' id k:=fun k hk e=>by
            exact J67 _
           exact .inl ⟨yV _,_,rfl,HTV.out.keeps K5 hF5⟩
          have cf:=zM (zAF G5.row hH5).2.2;obtain ⟨n5,hn5'⟩:∃ z,z=(fs0++[(⟨r,f.all,f.left⟩:zx)]).length:=⟨_,rfl⟩
          rw [<- hn5'] at q1 q2 q3 cf hH5;have hn5b:n5 < 1000001:=by rw [hn5',hn5];omega
          have H5A:=yA G5;have H5B:=yA hH5;have H5C:=yA hr5;have H5D:Hid (css5.length=n5 /\ w5.ownsRow 0 109 1 (.slice ad5 n5 cap5) n5 css5.flatten /\ (∀ kb,(Value.slice ad5 n5 cap5).ownBlock=some kb -> T5 kb=some (id, .fs i)) /\ n5=(fs0++[(⟨r,f.all,f.left⟩:zx)]).length):=⟨q1,q2,q3,hn5'⟩;have H5E:=yA q5;have HX5:Hid (zAR T' T5 id wr /\ Keeps (zDn T' id) wr w5):=⟨x5,K5⟩;obtain ⟨j0,hj0,hz0,hz1,hz2⟩:=info_parts zG5;clear G5 hH5 hr5 q1 q2 q3 q5 x5 K5 hi5 hn5 hn5' j1 j2 hz;have k5':=zJ w5;obtain ⟨gb,wb,eb1,eb2,RB,KB,_⟩:=newRow w5 [.iface 146 (.agg #[.slice ta a.thn.length tc])] 109;have HGB:=yA RB;have HKB:=yA KB;have HEB:Hid (w5.heap.size=gb /\ w5.alloc (.cells [Value.iface 146 (.agg #[.slice ta a.thn.length tc])].toArray 109)=wb):=⟨eb1,eb2⟩;have HGW:=yA (kY zS H5A.out KB (fun _ _ h=>h));clear eb1 eb2 RB KB;go_wp2_with (at_builtin;rw [HEB.out.1,HEB.out.2];refine zH _ (by rfl) _ _ 91 (by rfl) 0 109 j0 _ 1 16 Tryz.underlying91 hj0 hz0 hz1 hz2 rfl (by decide) (.slice ad5 n5 cap5) n5 css5.flatten (by rfl) (zG H5D.out.2.1 HKB.out (fun _ _ h=>h)) (.slice (some ⟨gb,0,none⟩) 1 1) 1 [.iface 146 (.agg #[.slice ta a.thn.length tc])] (by rfl) (xQ HGB.out) rfl (J149 _) (by unfold maxLen;omega) (by omega) (yG _) ?_;intro ad6 cap6 w6 ha;have HA6:=yA ha;obtain ⟨_,_,c6,f6⟩:=zAb.app HGW.out H5B.out H5D.out.2.2.1 ha;clear ha cf)
          have HWN:Hid (zAt zk 1 109 wb T5 F id g i ((zL.set i ⟨t.st,regs,fs0++[f]⟩).set i ⟨t.st,regs,fs0++[⟨r,f.all,f.left⟩]⟩) ⟨t.st,regs,(fs0++[⟨r,f.all,f.left⟩])++[⟨a.thn,a.thn,1⟩]⟩ (w6.setCell ⟨g,i*3+2,none⟩ (.slice ad6 (n5+1) cap6))):=by
           obtain ⟨d1,d2,d3,d4⟩:=H5D.out;have h6:=HA6.out;have hb:=H5B.out;have hg:=HGW.out;have hr:=H5C.out.keeps HKB.out (fun _ _ h=>h);have hq:=H5E.out;have hp:=HPV.out.keeps HKB.out (fun _ _ h=>h);have hkb:=HKB.out;clear HGW H5D H5B HA6 H5C H5E HPV;subst d4;exact zAb.zMU (t:=⟨t.st,regs,fs0++[⟨r,f.all,f.left⟩]⟩) (f:=⟨a.thn,a.thn,1⟩) zS hg hb hr d1 d3 (fun j y ds e1 e2=>zS.keeps (hq j y ds e1 e2) hkb (fun _ _ h=>h)) ⟨_,rfl,hp⟩ h6
          generalize w6.setCell ⟨g,i*3+2,none⟩ (.slice ad6 (n5+1) cap6)=w7 at HWN ⊢;go_roundg (zBG ((fs0++[⟨r,f.all,f.left⟩])++[⟨a.thn,a.thn,1⟩]))
          case measure=>rw [HX.out.2.2.1];exact zAd HST2.out
          case rel=>exact ⟨regs,(fs0++[⟨r,f.all,f.left⟩])++[⟨a.thn,a.thn,1⟩],rfl,zAt.trans HX.out.1 HX.out.2.1 (zAt.trans HX5.out.1 HX5.out.2 (HWN.out.before HKB.out)),HOK.out.step HST2.out,HX.out.2.2.2.1,by exact J198 _⟩
       by_cases n11:a.kind=11
       ·have hst:=zMK (rg:=regs) (fs:=fs0) hr n11
        have HST:=yA hst;have HFR:Hid (T' ba=none /\ ¬ F ba):=HL.out.G.sep.free NB.out;clear hst;simp only [n11] at y;rw [n11];have N11:=yA n11;clear n11 n1 n10;go_upto_region 17 with (go_at_call 60;refine (HP.out _ k5).mono ?_;rintro e w5 ⟨rfl,g5⟩;have HW5:=yA g5;clear g5)
        obtain ⟨_,_,_,_,hk5a⟩:=HW5.out;have R5:=RA.keeps hk5a (by rintro (h | ⟨j,h | h⟩) <;> (rw [HFR.out.1] at h;cases h));clear hk5a y ka;have y:=R5.zAw;have kw5:=zJ w5;have HWr:=yA (HW5.out.before k5);by_cases hc:0 < a.count
        ·have hst2:=HST.out
         rw [if_pos hc] at hst2;have HST2:=yA hst2;clear hst2;obtain ⟨T5,H5,G5,x5,K5⟩:=HWr.out;have hi5:((zL.set i ⟨t.st,regs,fs0++[f]⟩).set i ⟨t.st,regs,fs0++[⟨r,f.all,f.left⟩]⟩)[i]?=some (⟨t.st,regs,fs0++[⟨r,f.all,f.left⟩]⟩:WTh):=yY (J207 _);obtain ⟨rv5,fv5,hH5,hr5,css5,q1,q2,q3,⟨ad5,cap5,rfl⟩,q5⟩:=G5.get hi5;have hn5:(fs0++[(⟨r,f.all,f.left⟩:zx)]).length=fs0.length+1:=by rw [xI];rfl
         have hcn:((a.count.toNat:Nat):Int)=a.count:=by omega
         have HPV:Hid (zBT w5 F ⟨a.thn,a.thn,a.count.toNat⟩ (.iface 153 (.agg #[.slice ta a.thn.length tc, .slice ta a.thn.length tc, .int .i64 a.count]))):=by
          have hF5:∀ k,F k -> ¬ zDn T' id k:=fun k hk e=>by
           exact J67 _
          have:=HTV.out.keeps K5 hF5
          exact .inr ⟨_,_,by rw [hcn],this,this⟩
         have cf:=zM (zAF G5.row hH5).2.2;obtain ⟨n5,hn5'⟩:∃ z,z=(fs0++[(⟨r,f.all,f.left⟩:zx)]).length:=⟨_,rfl⟩
         rw [<- hn5'] at q1 q2 q3 cf hH5;have hn5b:n5 < 1000001:=by rw [hn5',hn5];omega
         have H5A:=yA G5;have H5B:=yA hH5;have H5C:=yA hr5;have H5D:Hid (css5.length=n5 /\ w5.ownsRow 0 109 1 (.slice ad5 n5 cap5) n5 css5.flatten /\ (∀ kb,(Value.slice ad5 n5 cap5).ownBlock=some kb -> T5 kb=some (id, .fs i)) /\ n5=(fs0++[(⟨r,f.all,f.left⟩:zx)]).length):=⟨q1,q2,q3,hn5'⟩;have H5E:=yA q5;have HX5:Hid (zAR T' T5 id wr /\ Keeps (zDn T' id) wr w5):=⟨x5,K5⟩;obtain ⟨j0,hj0,hz0,hz1,hz2⟩:=info_parts zG5;clear G5 hH5 hr5 q1 q2 q3 q5 x5 K5 hi5 hn5 hn5' hcn;go_upto_region 18 with fail
         try rw [show ((r.length:Int)+1==0)=false from xE (by omega)]
         have hcd:decide (0 < a.count)=true:=xV hc;try rw [hcd]
         clear hcd j1 j2 hc;refine zEh 14 (by kernel_rfl) (by kernel_rfl) _ (.pointer (some ⟨g,i*3,none⟩)) rfl (.inl ⟨rfl,fun _=>rfl⟩) (fun _ _ _ h=>h) (Keeps zA) (yB zA) (fun a b c h h'=>xJ h h') (zAo [some (.pointer (some ⟨g,i*3,none⟩)),some (.pointer (some ⟨g,i*3,none⟩)),some (.pointer (some ⟨g,i*3,none⟩)),some (.pointer (some ⟨g,i*3+2,none⟩)),some (.slice ad5 n5 cap5),some (.pointer (some ⟨ba,8,none⟩)),some (.slice ta a.thn.length tc),some (.pointer (some ⟨ba,8,none⟩)),some (.slice ta a.thn.length tc),some (.pointer (some ⟨ba,7,none⟩)),some (.int .i64 a.count),some (.agg #[.slice ta a.thn.length tc, .slice ta a.thn.length tc, .int .i64 a.count]),some (.iface 153 (.agg #[.slice ta a.thn.length tc, .slice ta a.thn.length tc, .int .i64 a.count]))] (fun _ v W=>∃ b,v=.slice (some ⟨b,0,none⟩) 1 1 /\ zC W b [.iface 153 (.agg #[.slice ta a.thn.length tc, .slice ta a.thn.length tc, .int .i64 a.count])])) (vU (fun _ _ _ _ h hk=>by obtain ⟨b,e,hb⟩:=h;exact ⟨b,e,hb.keeps hk (fun h=>h)⟩)) (fun _=>rfl) ?_ ?_
         ·intro q oo hq1 hq ho vs W Q' hR hd hK
          have HRW:Keeps zA w5 W:=((zJ w5).drew).zB hR;rcases (show q=1 \/ q=2 \/ q=3 \/ q=4 \/ q=5 \/ q=6 \/ q=7 \/ q=8 \/ q=9 \/ q=10 \/ q=11 \/ q=12 \/ q=13 by omega) with rfl | rfl | rfl | rfl | rfl | rfl | rfl | rfl | rfl | rfl | rfl | rfl | rfl
          all_goals (simp only [yC,yD,yP] at ho;subst ho;simp only [zI,yC,yD,yO,Option.bind,Act.put,yE,yK,yL] at hK ⊢;clear hq hq1)
          ·exact J3 _
          ·exact J119 _
          ·exact J117 _
          ·exact J120 _
          ·exact J3 _
          ·exact J134 _
          ·exact J3 _
          ·exact J128 _
          ·exact J3 _
          ·exact J125 _
          ·have e6:vs 6=_:=hd 6 (by kernel_rfl)
           have e8:vs 8=_:=hd 8 (by kernel_rfl);have e10:vs 10=_:=hd 10 (by kernel_rfl);rw [e6,e8,e10] at hK ⊢;exact J3 _
          ·have e11:vs 11=_:=hd 11 (by kernel_rfl)
           rw [e11] at hK ⊢;exact J3 _
          ·have e12:vs 12=_:=hd 12 (by kernel_rfl)
           rw [e12] at hK ⊢;exact J41 _
         ·intro vs W hR hFF
          have HRW:Keeps zA w5 W:=((zJ w5).drew).zB hR;have e0:vs 0=_:=hFF 0 (by decide);have e4:vs 4=_:=hFF 4 (by decide);obtain ⟨gb,e13,hgb⟩:=(hFF 13 (by decide):∃ b,vs 13=.slice (some ⟨b,0,none⟩) 1 1 /\ zC W b [.iface 153 (.agg #[.slice ta a.thn.length tc, .slice ta a.thn.length tc, .int .i64 a.count])]);have HGB:=yA hgb;simp only [zI,yC,yD,yO,Option.bind,Act.put,yE,yK,yL,yU,yQ];rw [e0,e4,e13];clear hFF e0 e4 e13 hgb cf y R5;have HGW:=yA (kY zS H5A.out HRW (fun _ _ h=>h));go_wp2_with (at_builtin;refine zH _ (by rfl) _ _ 91 (by rfl) 0 109 j0 _ 1 16 Tryz.underlying91 hj0 hz0 hz1 hz2 rfl (by decide) (.slice ad5 n5 cap5) n5 css5.flatten (by rfl) (zG H5D.out.2.1 HRW (fun _ _ h=>h)) (.slice (some ⟨gb,0,none⟩) 1 1) 1 [.iface 153 (.agg #[.slice ta a.thn.length tc, .slice ta a.thn.length tc, .int .i64 a.count])] (by rfl) (xQ HGB.out) rfl (J149 _) (by unfold maxLen;omega) (by omega) (yG _) ?_;intro ad6 cap6 w6 ha;have HA6:=yA ha;obtain ⟨_,_,c6,f6⟩:=zAb.app HGW.out H5B.out H5D.out.2.2.1 ha;clear ha)
          have HWN:Hid (zAt zk 1 109 W T5 F id g i ((zL.set i ⟨t.st,regs,fs0++[f]⟩).set i ⟨t.st,regs,fs0++[⟨r,f.all,f.left⟩]⟩) ⟨t.st,regs,(fs0++[⟨r,f.all,f.left⟩])++[⟨a.thn,a.thn,a.count.toNat⟩]⟩ (w6.setCell ⟨g,i*3+2,none⟩ (.slice ad6 (n5+1) cap6))):=by
           obtain ⟨d1,d2,d3,d4⟩:=H5D.out;have h6:=HA6.out;have hb:=H5B.out;have hg:=HGW.out;have hr:=H5C.out.keeps HRW (fun _ _ h=>h);have hq:=H5E.out;have hp:=HPV.out.keeps HRW (fun _ _ h=>h);clear HGW H5D H5B HA6 H5C H5E HPV;subst d4;exact zAb.zMU (t:=⟨t.st,regs,fs0++[⟨r,f.all,f.left⟩]⟩) (f:=⟨a.thn,a.thn,a.count.toNat⟩) zS hg hb hr d1 d3 (fun j y ds e1 e2=>zS.keeps (hq j y ds e1 e2) HRW (fun _ _ h=>h)) ⟨_,rfl,hp⟩ h6
          generalize w6.setCell ⟨g,i*3+2,none⟩ (.slice ad6 (n5+1) cap6)=w7 at HWN ⊢;go_roundg (zBG ((fs0++[⟨r,f.all,f.left⟩])++[⟨a.thn,a.thn,a.count.toNat⟩]))
          case measure=>rw [HX.out.2.2.1];exact zAd HST2.out
          case rel=>exact ⟨regs,(fs0++[⟨r,f.all,f.left⟩])++[⟨a.thn,a.thn,a.count.toNat⟩],rfl,zAt.trans HX.out.1 HX.out.2.1 (zAt.trans HX5.out.1 HX5.out.2 (HWN.out.before HRW)),HOK.out.step HST2.out,HX.out.2.2.2.1,by exact J198 _⟩
        ·have hst2:=HST.out
         rw [if_neg hc] at hst2;have HST2:=yA hst2;clear hst2;go_wp2_with fail
         go_roundg (zBG (fs0++[⟨r,f.all,f.left⟩]))
         case measure=>rw [HX.out.2.2.1];exact zAd HST2.out
         case rel=>exact ⟨regs,fs0++[⟨r,f.all,f.left⟩],rfl,zAt.trans HX.out.1 HX.out.2.1 HWr.out,HOK.out.step HST2.out,HX.out.2.2.2.1,by exact J198 _⟩
       have HG:Hid (zAt zk 1 109 w T F id g i zL t.local wr):=by
        have e:t.local=⟨t.st,regs,fs0++[f]⟩:=by
         unfold WTh.local;rw [<- HX.out.2.2.2.2,zEa (zLt hr n1 n10 n11)]
        rw [e];exact ⟨T',H',HL.out.G,HX.out.1,HX.out.2.1⟩
       have b1:(a.kind==1)=false:=xE n1;have b10:(a.kind==10)=false:=xE n10;have b11:(a.kind==11)=false:=xE n11;go_wp2_with fail
       go_returns
       exact ⟨rfl,HG.out.after zS k5⟩)
end Go.Proofs.YtfjgcedkfnmdkaaGreatDoor
