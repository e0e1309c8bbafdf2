/- Layer D: texts joined. -/
import Derived.Test.YtoapgjjepiopbaaGreatDoorD29
set_option linter.all false
set_option maxHeartbeats 8000000
set_option maxRecDepth 8000
namespace Go.Proofs.YtoapgjjepiopbaaGreatDoor
open Go.RowKit
theorem J44(P:Prop) (h:P:=by
 go_wp2_with (go_at_call 108;refine(HO.out _ (by assumption)).mono ?_;rintro e w5 ⟨rfl,g5⟩;have HN5:=yA (HN.out _ _ k4 g5);clear g5)
 go_roundg (zBR (zFG fs0 f))
 case measure=>rw[HX.out.2.2.1];exact zAd HST.out
 case rel=>exact⟨regs,zFG fs0 f,rfl,HN5.out,HOK.out.step HST.out,HX.out.2.2.2.1,by rw[<-zCQ HST.out];exact HX.out.2.2.2.2⟩):P:=h
theorem J83(P:Prop) (h:P:=by
 have:=HL.out.G.sep.sep k hk
 rcases e with e|⟨j,e|e⟩ <;> (rw[this] at e;cases e)):P:=h
theorem J118(P:Prop) (h:P:=by
 clear hd;go_wp2_with (go_at_call 107;refine HV.call (k5.zC HRW) ?_;intro w6 _ g6)
 exact hK _ _ g6 rfl):P:=h
theorem J217(P:Prop)(h:P:=by rw[<-HX.out.2.2.2.2,zCQ HST2.out]):P:=h
theorem J233(P:Prop)(h:P:=by rw[xQ];exact HI.out):P:=h
theorem zAu.trans{R:zA5 WFr}{sz:Nat}{ty:TypeId}{w wr w2:World}{T T':zZ}{F:Nat->Prop}{id g i:Nat}{zP:List WTh}{t1 t2:WTh}(hx:zAT T T' id w)(hk:Keeps (zD3 T id) w wr)(h:zAu R sz ty wr T' F id g i (zP.set i t1) t2 w2):zAu R sz ty w T F id g i zP t2 w2:=by
 obtain⟨T2,H2,h1,h2,h3⟩:=h;rw[List.set_set] at h1;refine⟨T2,H2,h1,hx.trans h2 hk.size,hk.trans h3 (λk hlt hs=>?_)⟩
 have back:∀y,T' k=some (id,y)->T k=some (id,y):=λy e=>by
  rcases hx.2 k _ e with h|h
  ·exact h
  ·omega
 rcases hs with hs|⟨j,hs|hs⟩
 ·exact .inl (back _ hs)
 ·exact .inr ⟨j,.inl (back _ hs)⟩
 ·exact .inr ⟨j,.inr (back _ hs)⟩
theorem zAu.start{R:zA5 WFr}{sz:Nat}{ty:TypeId}{w:World}{T:zZ}{F:Nat->Prop}{id g i:Nat}{H:List HTh}{zP:List WTh}{t:WTh}(h:zAm R sz ty w T F id g H zP)(ht:zP[i]?=some t):zAu R sz ty w T F id g i zP t w:=by
 have e:zP.set i t=zP:=by
  obtain⟨q1,q2⟩:=yP.1 ht;rw[<-q2,List.set_getElem_self]
 exact⟨T,H,by rw[e];exact h,vL T id w,(yB _ _)⟩
theorem zNV{r:List Int}{fs:List WFr}{f:WFr}(hf:f.rest=[]):zA4 r (fs++[f])=some (r,zFG fs f):=by
 unfold zA4 zFG;simp[hf]
theorem zMW{rg:List Int}{fs:List WFr}{f:WFr}{a:Ac}{r:List Ac}(hr:f.rest=a :: r)(h1:¬a.kind=1)(h2:¬a.kind=10)(h3:¬a.kind=11):zA4 rg (fs++[f])=none:=by
 unfold zA4;simp[hr,h1,h2,h3]
theorem zNW{rg:List Int}{fs:List WFr}{f:WFr}{a:Ac}{r:List Ac}(hr:f.rest=a :: r)(h1:a.kind=1):zA4 rg (fs++[f])=some (rg.set a.reg.toNat (a.ex.val rg),fs++[⟨r,f.all,f.left⟩]):=by
 unfold zA4;simp[hr,h1]
theorem zPK{rg:List Int}{fs:List WFr}{f:WFr}{a:Ac}{r:List Ac}(hr:f.rest=a :: r)(h1:a.kind=10){b:List Ac}(hb:b=if a.ex.val rg≠0 then a.thn else a.els):zA4 rg (fs++[f])=some (rg,(fs++[⟨r,f.all,f.left⟩])++[⟨b,b,1⟩]):=by
 unfold zA4;simp[hr,h1,hb]
theorem zMX{rg:List Int}{fs:List WFr}{f:WFr}{a:Ac}{r:List Ac}(hr:f.rest=a :: r)(h1:a.kind=11):zA4 rg (fs++[f])=some (rg,if 0<a.count then (fs++[⟨r,f.all,f.left⟩])++[⟨a.thn,a.thn,a.count.toNat⟩] else fs++[⟨r,f.all,f.left⟩]):=by
 unfold zA4;simp[hr,h1]
theorem zD5.step{u:Un}{n:Int}{r r':List Int}{fs fs':List WFr}(h:zD5 u n fs)(h1:zA4 r fs=some (r',fs')):zD5 u n fs':=⟨(zH6 h1 h.each).2,zIp h1 h.low⟩
theorem zD5.split{u:Un}{n:Int}{fs:List WFr}{f:WFr}(h:zD5 u n (fs++[f])):f.ok u n/\fs.length<1000000:=by
 refine⟨h.each f (by simp),?_⟩
 have:=h.low.1
 simp at this
 omega
theorem zLK{R:zA5 WFr}{sz:Nat}{ty:TypeId}(LR:zAU R sz){w:World}{T:zZ}{F:Nat->Prop}{id g i gr rc:Nat}{H:List HTh}{zP:List WTh}{t:WTh}{fv:Value}(h:zAm R sz ty w T F id g H zP)(hH:H[i]?=some ⟨t.st,.slice (some ⟨gr,0,none⟩) t.regs.length rc,fv⟩)(hT:T gr=some (id,.regs i))
 (hr:zB w gr (ints t.regs)) (hfs:zCK R sz ty w T F id i fv t.fs) {k:Nat} (hk:k<t.regs.length) (u:Int):zAu R sz ty w T F id g i zP { t with regs:=t.regs.set k u } (w.setCell ⟨gr,k,none⟩ (.int .i64 u)):=by
 have hkp:Keeps (λq=>q=gr) w (w.setCell ⟨gr,k,none⟩ (.int .i64 u)):=(yB (λq=>q=gr) w).setCell (p:=⟨gr,k,none⟩) (λ_=>rfl) _;have hF:∀q,F q->¬q=gr:=λq hq e=>by have:=h.sep.sep q hq;rw[e,hT] at this;cases this
 have hg:¬g=gr:=λe=>by have:=h.tag;rw[e,hT] at this;cases this
 have hI:=zBX.set (id:=id) (t:=.regs i) (cap:=rc) hT hr k hk u
 have hHH:H.set i ⟨t.st,.slice (some ⟨gr,0,none⟩) t.regs.length rc,fv⟩=H:=by
  obtain⟨q1,q2⟩:=yP.1 hH;rw[<-q2,List.set_getElem_self]
 have hu:=zAm.upd (i:=i) (t':={ t with regs:=t.regs.set k u }) LR h (vL T id w) (h.sep.keeps hkp) (hkp.mono (λq _ e=>.inr (.inl (by rw[e];exact hT)))) (a':=⟨t.st,.slice (some ⟨gr,0,none⟩) t.regs.length rc,fv⟩) (by rw[hHH];exact h.row.keeps hkp hg) rfl hI
  (zCK.keeps LR hfs hkp (λq e1 e2=>by rw[e2,hT] at e1;cases e1) hF)
 exact⟨T,_,hu,vL T id w,hkp.mono (λq _ e=>by rw[e];exact .inr ⟨i,.inl hT⟩)⟩
theorem zHX{w:World}{T:zZ}{F:Nat->Prop}{id g i:Nat}{H:List HTh}{zP:List WTh}{t:WTh}{u:Un}{n:Int}(h:zAm zm 1 148 w T F id g H zP)(ht:zP[i]?=some t)(hf:zD5 u n t.fs)(hn:t.regs.length=n.toNat):
 Calls Tryz.prog 68 #[.pointer (some ⟨g,i*3,none⟩)] w λe w'=>e=.returned (.tuple #[])/\zAu zm 1 148 w T F id g i zP t.local w':=by
 have HW:Hid (zAu zm 1 148 w T F id g i zP ⟨t.st,t.regs,t.fs⟩ w/\zD5 u n t.fs/\t.regs.length=n.toNat):=⟨zAu.start h ht,hf,hn⟩;have hi:i<zP.length:=(yP.1 ht).1;have HI:=yA hi;clear h ht hf hn hi;go_enter Tryz.func68,Tryz.ntmps68
 go_wp2_with fail
 go_loopg [] (zBR t.fs) (λk wr=>∃regs fs,Hid (k=zBR fs/\zAu zm 1 148 w T F id g i zP ⟨t.st,regs,fs⟩ wr/\zD5 u n fs/\regs.length=n.toNat/\loc regs fs=loc t.regs t.fs))
 case atStart=>exact⟨t.regs,t.fs,rfl,HW.out.1,HW.out.2.1,HW.out.2.2,rfl⟩
 case round =>
  obtain⟨regs,fs,HR⟩:=hrel;obtain⟨hk,⟨T',H',hG,hx,hkw⟩,hok,hrl,hloc⟩:=HR.out;have hti:(zP.set i ⟨t.st,regs,fs⟩)[i]?=some (⟨t.st,regs,fs⟩:WTh):=xV HI.out;have HX:Hid (zAT T T' id w/\Keeps (zD3 T id) w wr/\gk=zBR fs/\regs.length=n.toNat/\loc regs fs=loc t.regs t.fs):=⟨hx,hkw,hk,hrl,hloc⟩;clear HR hk hx hkw hrl hloc;cases hl:fs.getLast? with
  | none =>
    have hfs:fs=[]:=by simpa using hl
    subst hfs;obtain⟨rv,fv,hH,_,hfs⟩:=hG.get hti;obtain⟨css,_,_,_,⟨ad,cap,rfl⟩,_⟩:=hfs;have c:=(zAP hG.row hH).2.2;have HT:Ret wr 66 #[.pointer (some ⟨g,i*3,none⟩)] .nilIface:=λW hk=>zKt W g (i*3) ad cap (hk.cell (λh=>h) c)
    have HG:Hid (zAu zm 1 148 w T F id g i zP t.local wr):=by
     have e:t.local=⟨t.st,regs,[]⟩:=by
      unfold WTh.local;rw[<-HX.out.2.2.2.2,zEm (by simp[zA4])]
     rw[e];exact⟨T',H',hG,HX.out.1,HX.out.2.1⟩
    clear hl c hH hti hG hok;have k0:=zF wr;go_wp2_with (go_at_call 66;refine HT.call k0 ?_;intro w3 k3 _)
    go_returns
    exact⟨rfl,HG.out.after zU k3⟩
  | some f =>
    have hs:=zAg hl;obtain⟨fs0,hfs0⟩:=eX fs.dropLast;rw[<-hfs0] at hs;subst hs;clear hl hfs0;obtain⟨rv,gp,cap,css,pv,hL⟩:=hG.last hti rfl;obtain⟨hfo,hdep⟩:=hok.split;have HL:=yA hL;have HOK:=yA hok;have HT:Ret wr 66 #[.pointer (some ⟨g,i*3,none⟩)] pv:=λW hk=>zGY W g (i*3) gp fs0.length cap pv (hk.cell (λh=>h) hL.fv) (hk.cell (λh=>h) hL.cell) (by omega) hL.pl.one
    have hpl:=hL.pl;have k0:=zF wr;clear hL hG hti hok;have HLE:f.left<1000000:=by have:=hfo.2.2;omega
    cases hr:f.rest with
    | nil =>
      have hst:=zNV (r:=regs) (fs:=fs0) hr;have HST:=yA hst;clear hst;have HN:Hid (∀W w5,Keeps zA wr W->zAu zm 1 148 W T' F id g i (zP.set i ⟨t.st,regs,fs0++[f]⟩) ⟨t.st,regs,zFG fs0 f⟩ w5->zAu zm 1 148 w T F id g i zP ⟨t.st,regs,zFG fs0 f⟩ w5):=λW w5 hk hw=>zAu.trans HX.out.1 HX.out.2.1 (hw.before hk)
      have HOUT:∀W,Keeps zA wr W->Calls Tryz.prog 108 #[.pointer (some ⟨g,i*3,none⟩)] W λe w'=>e=.returned (.tuple #[])/\zAu zm 1 148 W T' F id g i (zP.set i ⟨t.st,regs,fs0++[f]⟩) ⟨t.st,regs,zFG fs0 f⟩ w':=λW hk=>zOl (HL.out.zG hk) hdep HLE
      have HO:=yA HOUT;clear HOUT;unfold zBc at hpl;rw[hr] at hpl;rcases hpl with⟨h0,v,rfl,hv⟩|⟨v,v2,rfl,hv,hv2⟩
      ·obtain⟨sa,sc,rfl⟩:=hv.slice
       clear h0;clear hv;go_upto_region 2 with(first|(go_at_call 66;refine HT.call (by assumption) ?_;intro w3 k3 _)|(go_at_call 366;refine(zCm _ _ ⟨_,_,_,rfl⟩).mono ?_;rintro e w4 ⟨rfl,g4⟩;have k4:=k3.zC g4;clear g4))
       exact J44 _
      ·obtain⟨sa,sc,rfl⟩:=hv.slice
       obtain⟨sg,sh,rfl⟩:=hv2.slice;clear hv hv2;go_upto_region 2 with(first|(go_at_call 66;refine HT.call (by assumption) ?_;intro w3 k3 _)|(go_at_call 367;refine(zDz _ _ _ _ ⟨_,_,_,rfl⟩ ⟨_,_,_,rfl⟩).mono ?_;rintro e w4 ⟨rfl,g4⟩;have k4:=k3.zC g4;clear g4))
       exact J44 _
    | cons a r =>
      have hmay:Ac.may u n a=true:=by have:=hfo.1;rw[hr] at this;exact(Ac.zDD this).1
      have HMAY:=yA hmay;have hpass:∀W,Keeps zA wr W->Calls Tryz.prog 67 #[.pointer (some ⟨g,i*3,none⟩)] W λe w'=>e=.returned (.tuple #[])/\zAu zm 1 148 W T' F id g i (zP.set i ⟨t.st,regs,fs0++[f]⟩) ⟨t.st,regs,fs0++[⟨r,f.all,f.left⟩]⟩ w':=λW hk=>zER (HL.out.zG hk) hr hdep
      have HP:=yA hpass;clear hmay hpass;unfold zBc at hpl;rw[hr] at hpl;rcases hpl with hp|hp
      all_goals (first|(obtain⟨h0,v,rfl,hv⟩:=hp;clear h0)|(obtain⟨v,v2,rfl,hv,hv2⟩:=hp;obtain⟨sg,sh,rfl⟩:=hv2.slice;clear hv2))
      all_goals (
       obtain⟨ga,oa,sc,xa,xc,tv,ev,rfl,hga,hxs,htv,hev,q⟩:=hv.head;obtain⟨ta,tc,rfl⟩:=htv.slice;obtain⟨ea,ec,rfl⟩:=hev.slice;have HXS:=yA hxs;have HTV:=yA htv;have HEV:=yA hev
       have d:∀W,Keeps zA wr W->W.cell? ⟨ga,oa,none⟩=some (.int .i64 a.kind)/\W.cell? ⟨ga,oa+1,none⟩=some (.int .i64 a.reg)/\W.cell? ⟨ga,oa+2,none⟩=some (.int .i64 a.obj)/\W.cell? ⟨ga,oa+3,none⟩=some (.int .i64 a.ex.kind)/\W.cell? ⟨ga,oa+4,none⟩=some (.int .i64 a.ex.num) ∧
        W.cell? ⟨ga,oa+5,none⟩=some (.string a.ex.nm)/\W.cell? ⟨ga,oa+6,none⟩=some (.slice xa a.ex.args.length xc)/\W.cell? ⟨ga,oa+7,none⟩=some (.int .i64 a.count)/\W.cell? ⟨ga,oa+8,none⟩=some (.slice ta a.thn.length tc)/\W.cell? ⟨ga,oa+9,none⟩=some (.slice ea a.els.length ec):=
        λW hk=>⟨hk.cell (λh=>h) q.1,hk.cell (λh=>h) q.2.1,hk.cell (λh=>h) q.2.2.1,hk.cell (λh=>h) q.2.2.2.1,hk.cell (λh=>h) q.2.2.2.2.1,hk.cell (λh=>h) q.2.2.2.2.2.1,hk.cell (λh=>h) q.2.2.2.2.2.2.1,hk.cell (λh=>h) q.2.2.2.2.2.2.2.1,hk.cell (λh=>h) q.2.2.2.2.2.2.2.2.1,hk.cell (λh=>h) q.2.2.2.2.2.2.2.2.2⟩
       clear hv q hxs htv hev hga;have j1:¬((r.length+1:Nat):Int)=0:=by omega
       have j2:(((r.length+1:Nat):Int)==0)=false:=xN j1;go_upto_region 4 with(first|(go_at_call 66;refine HT.call (by assumption) ?_;intro w3 k3 _)|(go_at_call 366;refine(zCm _ _ ⟨_,_,_,rfl⟩).mono ?_;rintro e w4 ⟨rfl,g4⟩;have k4:=k3.zC g4;clear g4)|(go_at_call 367;refine(zDz _ _ _ _ ⟨_,_,_,rfl⟩ ⟨_,_,_,rfl⟩).mono ?_;rintro e w4 ⟨rfl,g4⟩;have k4:=k3.zC g4;clear g4))
       go_upto_region 5 with fail
       obtain⟨ba,wa,e3,e4,RA,KA,_⟩:=newRow w4 [a.kind,a.reg,a.obj,a.ex.kind,a.ex.num,a.ex.nm,.slice xa a.ex.args.length xc,a.count,.slice ta a.thn.length tc,.slice ea a.els.length ec] 146;rw[e3,e4];have k5:=k4.zC KA;have y:=RA.zq;have ka:=zF wa;have NB:Hid (wr.heap.size<=ba):=by show _<=_;rw[<-e3];exact k4.size
       clear e3 e4 KA k3 k4 d;by_cases n1:a.kind=1
       ·have hst:=zNW (rg:=regs) (fs:=fs0) hr n1
        have HST:=yA hst;clear hst;obtain⟨r0,r1⟩:=Ac.zHt HMAY.out (.inl n1);have hlt:a.reg.toNat<regs.length:=by have:=HX.out.2.2.2.1;omega
        obtain⟨gr,rc,hrv,hTg,hRr⟩:=HL.out.regs.at hlt;have hrv:rv=.slice (some ⟨gr,0,none⟩) regs.length rc:=hrv
        have HV:Ret wr 107 #[.agg #[a.ex.kind,a.ex.num,a.ex.nm,.slice xa a.ex.args.length xc],.slice (some ⟨gr,0,none⟩) regs.length rc] (.int .i64 (a.ex.val regs)):=λW hk=>by
         have hs:=(HL.out.regs.keeps hk (λ_ _ h=>h)).src;rw[hrv] at hs;exact zE1 regs n _ HX.out.2.2.2.1 a.ex W F xa xc (vS HXS.out hk (λ_ _ h=>h)) hs (Ac.zGa HMAY.out (.inl n1))
        have tc1:=zL (zAP HL.out.G.row HL.out.h).2.1;rw[show(⟨t.st,rv,.slice (some ⟨gp,0,none⟩) (fs0.length+1) cap⟩:HTh).rv=.slice (some ⟨gr,0,none⟩) regs.length rc from hrv] at tc1;have rcell:=zL (hRr.cell (zAB regs _ hlt));have rfree:=zK (hRr.free (k:=a.reg.toNat) (by rw[zAf];exact hlt)) ⟨_,hRr.cell (zAB regs _ hlt)⟩;have HRR:Hid (rv=.slice (some ⟨gr,0,none⟩) regs.length rc/\T' gr=some (id,.regs i)/\zB wr gr (ints regs)/\a.reg.toNat<regs.length):=⟨hrv,hTg,hRr,hlt⟩;have i1:a.reg<(regs.length:Int):=by omega
        have i2:((a.reg.toNat:Nat):Int)=a.reg:=by omega
        generalize hval:a.ex.val regs=val at HV;have HVAL:=yA hval;clear hval;generalize hzr:regs.length=zr at HV tc1 i1;have HZR:=yA hzr;clear hzr hrv hTg hRr hlt r1;simp only[n1] at y;rw[n1];have N1:=yA n1;clear n1;go_upto_region 7 with fail
        have z13:((r.length:Int)+1==0)=false:=xN (by omega);try rw[z13]
        refine zW 14 (by kernel_rfl) (by kernel_rfl) (Keeps zA) (yB zA) (λa b c h h'=>xJ h h') (zAz [some (.pointer (some ⟨g,i*3,none⟩)),some (.pointer (some ⟨g,i*3,none⟩)),some (.pointer (some ⟨g,i*3+1,none⟩)),some (.slice (some ⟨gr,0,none⟩) zr rc),some (.pointer (some ⟨ba,1,none⟩)),some (.int .i64 a.reg),some (.pointer (some ⟨ba,3,none⟩)),some (.agg #[.int .i64 a.ex.kind,.int .i64 a.ex.num,.string a.ex.nm,.slice xa a.ex.args.length xc]),some (.pointer (some ⟨g,i*3,none⟩)),some (.pointer (some ⟨g,i*3,none⟩)),some (.pointer (some ⟨g,i*3+1,none⟩)),some (.slice (some ⟨gr,0,none⟩) zr rc),some (.int .i64 val),some (.pointer (some ⟨gr,a.reg.toNat,none⟩))] (λ_ _ _=>False)) (vQ (λ_ _ _ _ h _=>h)) ?_ ?_
        ·intro q oo hq ho vs W Q' hR hd hK
         have HRW:Keeps zA wa W:=((zF wa).drew).zC hR;have k5W:=k5.zC HRW;rcases (show q=0\/q=1\/q=2\/q=3\/q=4\/q=5\/q=6\/q=7\/q=8\/q=9\/q=10\/q=11\/q=12\/q=13 by omega) with rfl|rfl|rfl|rfl|rfl|rfl|rfl|rfl|rfl|rfl|rfl|rfl|rfl|rfl
         all_goals (simp only[yC,yD,yN] at ho;subst ho;simp only[zJ,yC,yD,yO,Option.bind,Act.put,yE,yM,yJ] at hK ⊢;clear hq)
         ·exact J2 _
         ·exact J132 _
         ·exact J137 _
         ·exact J135 _
         ·exact J2 _
         ·exact J136 _
         ·exact J2 _
         ·exact J160 _
         ·exact J2 _
         ·exact J146 _
         ·exact J143 _
         ·have e10:vs 10=_:=hd 10 (by kernel_rfl)
          rw[e10] at hK ⊢;exact J2 _
         ·have e7:vs 7=_:=hd 7 (by kernel_rfl)
          have e11:vs 11=_:=hd 11 (by kernel_rfl);rw[e7,e11] at hK ⊢;exact J118 _
         ·have e3:vs 3=_:=hd 3 (by kernel_rfl)
          have e5:vs 5=_:=hd 5 (by kernel_rfl);rw[e3,e5] at hK ⊢;exact J2 _
        ·intro vs W hR hFF
         have HRW:Keeps zA wa W:=((zF wa).drew).zC hR;have k5W:=k5.zC HRW;have e12:vs 12=_:=hFF 12 (by decide);have e13:vs 13=_:=hFF 13 (by decide);simp only[zJ,yC,yD,yO,Option.bind,Act.put,yE,yM,yJ,yZ,yU];rw[e12,e13];clear hFF e12 e13 tc1;go_upto_region 8 with fail
         have hfs:=(HL.out.G.each i _ _ HL.out.h HL.out.th).2.2;have hh7:=HL.out.h;rw[HRR.out.1] at hh7 hfs;have hw7:=(zLK zU (t:=⟨t.st,regs,fs0++[f]⟩) (yd zU HL.out.G k5W (λ_ _ h=>h)) hh7 HRR.out.2.1 (HRR.out.2.2.1.keeps k5W (λh=>h)) (zCK.keeps zU hfs k5W (λ_ _ h=>h) (λ_ _ h=>h)) HRR.out.2.2.2 val).before k5W;generalize W.setCell ⟨gr,a.reg.toNat,none⟩ (.int .i64 val)=w7 at hw7 ⊢;obtain⟨T7,H7,G7,x7,k7⟩:=hw7;have hi7:((zP.set i ⟨t.st,regs,fs0++[f]⟩).set i ⟨t.st,regs.set a.reg.toNat val,fs0++[f]⟩)[i]?=some (⟨t.st,regs.set a.reg.toNat val,fs0++[f]⟩:WTh):=xV (J233 _);obtain⟨rv7,gp7,cap7,css7,pv7,hL7⟩:=G7.last hi7 rfl;have HP7:=yA (zER hL7 hr hdep);have HX7:Hid (zAT T' T7 id wr/\Keeps (zD3 T' id) wr w7):=⟨x7,k7⟩;clear hfs hh7 G7 x7 k7 hi7 hL7;go_wp2_with (go_at_call 67;refine HP7.out.mono ?_;rintro e w8 ⟨rfl,g8⟩;have HW8:=yA g8;clear g8)
         go_roundg (zBR (fs0++[⟨r,f.all,f.left⟩]))
         case measure=>rw[HX.out.2.2.1];exact zAd HST.out
         case rel=>exact⟨regs.set a.reg.toNat val,fs0++[⟨r,f.all,f.left⟩],rfl,zAu.trans HX.out.1 HX.out.2.1 (zAu.trans HX7.out.1 HX7.out.2 HW8.out),HOK.out.step HST.out,by rw[xQ];exact HX.out.2.2.2.1,by rw[<-HX.out.2.2.2.2,zCQ HST.out,HVAL.out]⟩
       by_cases n10:a.kind=10
       ·have HST:Hid (∀b,(b=if a.ex.val regs≠0 then a.thn else a.els)->zA4 regs (fs0++[f])=some (regs,(fs0++[⟨r,f.all,f.left⟩])++[⟨b,b,1⟩])):=λb hb=>zPK hr n10 hb
        have HFR:Hid (T' ba=none/\¬F ba):=HL.out.G.sep.free NB.out;obtain⟨ra,rc,hrv,_⟩:=HL.out.regs
        have HV:Ret wr 107 #[.agg #[a.ex.kind,a.ex.num,a.ex.nm,.slice xa a.ex.args.length xc],.slice ra regs.length rc] (.int .i64 (a.ex.val regs)):=λW hk=>by
         have hs:=(HL.out.regs.keeps hk (λ_ _ h=>h)).src;rw[hrv] at hs;exact zE1 regs n _ HX.out.2.2.2.1 a.ex W F xa xc (vS HXS.out hk (λ_ _ h=>h)) hs (Ac.zGa HMAY.out (.inr (.inr (.inr (.inr n10)))))
        have tc1:=zL (zAP HL.out.G.row HL.out.h).2.1;rw[show(⟨t.st,rv,.slice (some ⟨gp,0,none⟩) (fs0.length+1) cap⟩:HTh).rv=.slice ra regs.length rc from hrv] at tc1;generalize hval:a.ex.val regs=val at HV HST;have HVAL:=yA hval;clear hval;generalize hzr:regs.length=zr at HV tc1;have HZR:=yA hzr;clear hzr hrv;simp only[n10] at y;rw[n10];have N10:=yA n10;clear n10 n1;go_upto_region 11 with fail
        try rw[show((r.length:Int)+1==0)=false from xN (by omega)]
        refine zW 7 (by kernel_rfl) (by kernel_rfl) (Keeps zA) (yB zA) (λa b c h h'=>xJ h h') (zAz [some (.pointer (some ⟨ba,3,none⟩)),some (.agg #[.int .i64 a.ex.kind,.int .i64 a.ex.num,.string a.ex.nm,.slice xa a.ex.args.length xc]),some (.pointer (some ⟨g,i*3,none⟩)),some (.pointer (some ⟨g,i*3,none⟩)),some (.pointer (some ⟨g,i*3+1,none⟩)),some (.slice ra zr rc),some (.int .i64 val)] (λ_ _ _=>False)) (vQ (λ_ _ _ _ h _=>h)) ?_ ?_
        ·intro q oo hq ho vs W Q' hR hd hK
         have HRW:Keeps zA wa W:=((zF wa).drew).zC hR;have k5W:=k5.zC HRW;rcases (show q=0\/q=1\/q=2\/q=3\/q=4\/q=5\/q=6 by omega) with rfl|rfl|rfl|rfl|rfl|rfl|rfl
         all_goals (simp only[yC,yD,yN] at ho;subst ho;simp only[zJ,yC,yD,yO,Option.bind,Act.put,yE,yM,yJ] at hK ⊢;clear hq)
         ·exact J2 _
         ·exact J132 _
         ·exact J2 _
         ·exact J135 _
         ·exact J138 _
         ·exact J136 _
         ·have e1:vs 1=_:=hd 1 (by kernel_rfl)
          have e5:vs 5=_:=hd 5 (by kernel_rfl);rw[e1,e5] at hK ⊢;exact J118 _
        ·intro vs W hR hFF
         have HRW:Keeps zA wa W:=((zF wa).drew).zC hR;have k5W:=k5.zC HRW;have e6:vs 6=_:=hFF 6 (by decide);simp only[zJ,yC,yD,yO,Option.bind,Act.put,yE,yM,yJ,yZ,yU];rw[e6];have yW:=λW2 (q:Keeps zA W W2)=>y W2 (HRW.zC q)
         clear hFF e6 tc1 y ka;have y:=yW;clear yW;have kW:=zF W;by_cases hz:val=0
         ·have hst2:=HST.out a.els (by rw[if_neg (λh=>h hz)])
          have HST2:=yA hst2;clear hst2;have hzb:(val != 0)=false:=by rw[hz];rfl
          go_upto_region 13 with fail
          go_upto_region 14 with(go_at_call 67;refine(HP.out _ k5W).mono ?_;rintro e w5 ⟨rfl,g5⟩;have HW5:=yA g5;clear g5)
          have HWr:=yA (HW5.out.before k5W);clear y kW;obtain⟨T5,H5,G5,x5,K5⟩:=HWr.out;have hi5:((zP.set i ⟨t.st,regs,fs0++[f]⟩).set i ⟨t.st,regs,fs0++[⟨r,f.all,f.left⟩]⟩)[i]?=some (⟨t.st,regs,fs0++[⟨r,f.all,f.left⟩]⟩:WTh):=xV (J233 _);obtain⟨rv5,fv5,hH5,hr5,css5,q1,q2,q3,⟨ad5,cap5,rfl⟩,q5⟩:=G5.get hi5;have hn5:(fs0++[(⟨r,f.all,f.left⟩:WFr)]).length=fs0.length+1:=by rw[xC];rfl
          have HPV:Hid (zBc w5 F ⟨a.els,a.els,1⟩ (.iface 201 (.agg #[.slice ea a.els.length ec]))):=by
           have hF5:∀k,F k->¬zD3 T' id k:=λk hk e=>by
            exact J83 _
           exact .inl ⟨yT _,_,rfl,HEV.out.keeps K5 hF5⟩
          have cf:=zL (zAP G5.row hH5).2.2;obtain⟨n5,hn5'⟩:=eX ((fs0++[(⟨r,f.all,f.left⟩:WFr)]).length);rw[<-hn5'] at q1 q2 q3 cf hH5;have hn5b:n5<1000001:=by rw[hn5',hn5];omega
          have H5A:=yA G5;have H5B:=yA hH5;have H5C:=yA hr5;have H5D:Hid (css5.length=n5/\w5.ownsRow 0 148 1 (.slice ad5 n5 cap5) n5 css5.flatten/\(∀kb,(Value.slice ad5 n5 cap5).ownBlock=some kb->T5 kb=some (id,.fs i))/\n5=(fs0++[(⟨r,f.all,f.left⟩:WFr)]).length):=⟨q1,q2,q3,hn5'⟩;have H5E:=yA q5;have HX5:Hid (zAT T' T5 id wr/\Keeps (zD3 T' id) wr w5):=⟨x5,K5⟩;obtain⟨j0,hj0,hz0,hz1,hz2⟩:=info_parts zIF;clear G5 hH5 hr5 q1 q2 q3 q5 x5 K5 hi5 hn5 hn5' j1 j2 hz;have k5':=zF w5;obtain⟨gb,wb,eb1,eb2,RB,KB,_⟩:=newRow w5 [.iface 201 (.agg #[.slice ea a.els.length ec])] 148;have HGB:=yA RB;have HKB:=yA KB;have HEB:Hid (w5.heap.size=gb/\w5.alloc (.cells [Value.iface 201 (.agg #[.slice ea a.els.length ec])].toArray 148)=wb):=⟨eb1,eb2⟩;have HGW:=yA (yd zU H5A.out KB (λ_ _ h=>h));clear eb1 eb2 RB KB;go_wp2_with (at_builtin;rw[HEB.out.1,HEB.out.2];refine zI _ (by rfl) _ _ 130 (by rfl) 0 148 j0 _ 1 16 yf hj0 hz0 hz1 hz2 rfl (by decide) (.slice ad5 n5 cap5) n5 css5.flatten (by rfl) (zD H5D.out.2.1 HKB.out (λ_ _ h=>h)) (.slice (some ⟨gb,0,none⟩) 1 1) 1 [.iface 201 (.agg #[.slice ea a.els.length ec])] (by rfl) (xE HGB.out) rfl (J168 _) (by unfold maxLen;omega) (by omega) (yF _) ?_;intro ad6 cap6 w6 ha;have HA6:=yA ha;obtain⟨_,_,c6,f6⟩:=zAm.app HGW.out H5B.out H5D.out.2.2.1 ha;clear ha cf)
          have HWN:Hid (zAu zm 1 148 wb T5 F id g i ((zP.set i ⟨t.st,regs,fs0++[f]⟩).set i ⟨t.st,regs,fs0++[⟨r,f.all,f.left⟩]⟩) ⟨t.st,regs,(fs0++[⟨r,f.all,f.left⟩])++[⟨a.els,a.els,1⟩]⟩ (w6.setCell ⟨g,i*3+2,none⟩ (.slice ad6 (n5+1) cap6))):=by
           obtain⟨d1,d2,d3,d4⟩:=H5D.out;have h6:=HA6.out;have hb:=H5B.out;have hg:=HGW.out;have hr:=H5C.out.keeps HKB.out (λ_ _ h=>h);have hq:=H5E.out;have hp:=HPV.out.keeps HKB.out (λ_ _ h=>h);have hkb:=HKB.out;clear HGW H5D H5B HA6 H5C H5E HPV;subst d4;exact zAm.zNI (t:=⟨t.st,regs,fs0++[⟨r,f.all,f.left⟩]⟩) (f:=⟨a.els,a.els,1⟩) zU hg hb hr d1 d3 (λj y ds e1 e2=>zU.keeps (hq j y ds e1 e2) hkb (λ_ _ h=>h)) ⟨_,rfl,hp⟩ h6
          generalize w6.setCell ⟨g,i*3+2,none⟩ (.slice ad6 (n5+1) cap6)=w7 at HWN ⊢;go_roundg (zBR ((fs0++[⟨r,f.all,f.left⟩])++[⟨a.els,a.els,1⟩]))
          case measure=>rw[HX.out.2.2.1];exact zAd HST2.out
          case rel=>exact⟨regs,(fs0++[⟨r,f.all,f.left⟩])++[⟨a.els,a.els,1⟩],rfl,zAu.trans HX.out.1 HX.out.2.1 (zAu.trans HX5.out.1 HX5.out.2 (HWN.out.before HKB.out)),HOK.out.step HST2.out,HX.out.2.2.2.1,by exact J217 _⟩
         ·have hst2:=HST.out a.thn (by rw[if_pos hz])
          have HST2:=yA hst2;clear hst2;have hzb:(val != 0)=true:=uN.2 hz;go_upto_region 13 with fail
          go_upto_region 14 with(go_at_call 67;refine(HP.out _ k5W).mono ?_;rintro e w5 ⟨rfl,g5⟩;have HW5:=yA g5;clear g5)
          have HWr:=yA (HW5.out.before k5W);clear y kW;obtain⟨T5,H5,G5,x5,K5⟩:=HWr.out;have hi5:((zP.set i ⟨t.st,regs,fs0++[f]⟩).set i ⟨t.st,regs,fs0++[⟨r,f.all,f.left⟩]⟩)[i]?=some (⟨t.st,regs,fs0++[⟨r,f.all,f.left⟩]⟩:WTh):=xV (J233 _);obtain⟨rv5,fv5,hH5,hr5,css5,q1,q2,q3,⟨ad5,cap5,rfl⟩,q5⟩:=G5.get hi5;have hn5:(fs0++[(⟨r,f.all,f.left⟩:WFr)]).length=fs0.length+1:=by rw[xC];rfl
          have HPV:Hid (zBc w5 F ⟨a.thn,a.thn,1⟩ (.iface 201 (.agg #[.slice ta a.thn.length tc]))):=by
           have hF5:∀k,F k->¬zD3 T' id k:=λk hk e=>by
            exact J83 _
           exact .inl ⟨yT _,_,rfl,HTV.out.keeps K5 hF5⟩
          have cf:=zL (zAP G5.row hH5).2.2;obtain⟨n5,hn5'⟩:=eX ((fs0++[(⟨r,f.all,f.left⟩:WFr)]).length);rw[<-hn5'] at q1 q2 q3 cf hH5;have hn5b:n5<1000001:=by rw[hn5',hn5];omega
          have H5A:=yA G5;have H5B:=yA hH5;have H5C:=yA hr5;have H5D:Hid (css5.length=n5/\w5.ownsRow 0 148 1 (.slice ad5 n5 cap5) n5 css5.flatten/\(∀kb,(Value.slice ad5 n5 cap5).ownBlock=some kb->T5 kb=some (id,.fs i))/\n5=(fs0++[(⟨r,f.all,f.left⟩:WFr)]).length):=⟨q1,q2,q3,hn5'⟩;have H5E:=yA q5;have HX5:Hid (zAT T' T5 id wr/\Keeps (zD3 T' id) wr w5):=⟨x5,K5⟩;obtain⟨j0,hj0,hz0,hz1,hz2⟩:=info_parts zIF;clear G5 hH5 hr5 q1 q2 q3 q5 x5 K5 hi5 hn5 hn5' j1 j2 hz;have k5':=zF w5;obtain⟨gb,wb,eb1,eb2,RB,KB,_⟩:=newRow w5 [.iface 201 (.agg #[.slice ta a.thn.length tc])] 148;have HGB:=yA RB;have HKB:=yA KB;have HEB:Hid (w5.heap.size=gb/\w5.alloc (.cells [Value.iface 201 (.agg #[.slice ta a.thn.length tc])].toArray 148)=wb):=⟨eb1,eb2⟩;have HGW:=yA (yd zU H5A.out KB (λ_ _ h=>h));clear eb1 eb2 RB KB;go_wp2_with (at_builtin;rw[HEB.out.1,HEB.out.2];refine zI _ (by rfl) _ _ 130 (by rfl) 0 148 j0 _ 1 16 yf hj0 hz0 hz1 hz2 rfl (by decide) (.slice ad5 n5 cap5) n5 css5.flatten (by rfl) (zD H5D.out.2.1 HKB.out (λ_ _ h=>h)) (.slice (some ⟨gb,0,none⟩) 1 1) 1 [.iface 201 (.agg #[.slice ta a.thn.length tc])] (by rfl) (xE HGB.out) rfl (J168 _) (by unfold maxLen;omega) (by omega) (yF _) ?_;intro ad6 cap6 w6 ha;have HA6:=yA ha;obtain⟨_,_,c6,f6⟩:=zAm.app HGW.out H5B.out H5D.out.2.2.1 ha;clear ha cf)
          have HWN:Hid (zAu zm 1 148 wb T5 F id g i ((zP.set i ⟨t.st,regs,fs0++[f]⟩).set i ⟨t.st,regs,fs0++[⟨r,f.all,f.left⟩]⟩) ⟨t.st,regs,(fs0++[⟨r,f.all,f.left⟩])++[⟨a.thn,a.thn,1⟩]⟩ (w6.setCell ⟨g,i*3+2,none⟩ (.slice ad6 (n5+1) cap6))):=by
           obtain⟨d1,d2,d3,d4⟩:=H5D.out;have h6:=HA6.out;have hb:=H5B.out;have hg:=HGW.out;have hr:=H5C.out.keeps HKB.out (λ_ _ h=>h);have hq:=H5E.out;have hp:=HPV.out.keeps HKB.out (λ_ _ h=>h);have hkb:=HKB.out;clear HGW H5D H5B HA6 H5C H5E HPV;subst d4;exact zAm.zNI (t:=⟨t.st,regs,fs0++[⟨r,f.all,f.left⟩]⟩) (f:=⟨a.thn,a.thn,1⟩) zU hg hb hr d1 d3 (λj y ds e1 e2=>zU.keeps (hq j y ds e1 e2) hkb (λ_ _ h=>h)) ⟨_,rfl,hp⟩ h6
          generalize w6.setCell ⟨g,i*3+2,none⟩ (.slice ad6 (n5+1) cap6)=w7 at HWN ⊢;go_roundg (zBR ((fs0++[⟨r,f.all,f.left⟩])++[⟨a.thn,a.thn,1⟩]))
          case measure=>rw[HX.out.2.2.1];exact zAd HST2.out
          case rel=>exact⟨regs,(fs0++[⟨r,f.all,f.left⟩])++[⟨a.thn,a.thn,1⟩],rfl,zAu.trans HX.out.1 HX.out.2.1 (zAu.trans HX5.out.1 HX5.out.2 (HWN.out.before HKB.out)),HOK.out.step HST2.out,HX.out.2.2.2.1,by exact J217 _⟩
       by_cases n11:a.kind=11
       ·have hst:=zMX (rg:=regs) (fs:=fs0) hr n11
        have HST:=yA hst;have HFR:Hid (T' ba=none/\¬F ba):=HL.out.G.sep.free NB.out;clear hst;simp only[n11] at y;rw[n11];have N11:=yA n11;clear n11 n1 n10;go_upto_region 17 with(go_at_call 67;refine(HP.out _ k5).mono ?_;rintro e w5 ⟨rfl,g5⟩;have HW5:=yA g5;clear g5)
        obtain⟨_,_,_,_,hk5a⟩:=HW5.out;have R5:=RA.keeps hk5a (by rintro(h|⟨j,h|h⟩) <;> (rw[HFR.out.1] at h;cases h));clear hk5a y ka;have y:=R5.zq;have kw5:=zF w5;have HWr:=yA (HW5.out.before k5);by_cases hc:0<a.count
        ·have hst2:=HST.out
         rw[if_pos hc] at hst2;have HST2:=yA hst2;clear hst2;obtain⟨T5,H5,G5,x5,K5⟩:=HWr.out;have hi5:((zP.set i ⟨t.st,regs,fs0++[f]⟩).set i ⟨t.st,regs,fs0++[⟨r,f.all,f.left⟩]⟩)[i]?=some (⟨t.st,regs,fs0++[⟨r,f.all,f.left⟩]⟩:WTh):=xV (J233 _);obtain⟨rv5,fv5,hH5,hr5,css5,q1,q2,q3,⟨ad5,cap5,rfl⟩,q5⟩:=G5.get hi5;have hn5:(fs0++[(⟨r,f.all,f.left⟩:WFr)]).length=fs0.length+1:=by rw[xC];rfl
         have hcn:((a.count.toNat:Nat):Int)=a.count:=by omega
         have HPV:Hid (zBc w5 F ⟨a.thn,a.thn,a.count.toNat⟩ (.iface 205 (.agg #[.slice ta a.thn.length tc,.slice ta a.thn.length tc,a.count]))):=by
          have hF5:∀k,F k->¬zD3 T' id k:=λk hk e=>by
           exact J83 _
          have:=HTV.out.keeps K5 hF5
          exact .inr ⟨_,_,by rw[hcn],this,this⟩
         have cf:=zL (zAP G5.row hH5).2.2;obtain⟨n5,hn5'⟩:=eX ((fs0++[(⟨r,f.all,f.left⟩:WFr)]).length);rw[<-hn5'] at q1 q2 q3 cf hH5;have hn5b:n5<1000001:=by rw[hn5',hn5];omega
         have H5A:=yA G5;have H5B:=yA hH5;have H5C:=yA hr5;have H5D:Hid (css5.length=n5/\w5.ownsRow 0 148 1 (.slice ad5 n5 cap5) n5 css5.flatten/\(∀kb,(Value.slice ad5 n5 cap5).ownBlock=some kb->T5 kb=some (id,.fs i))/\n5=(fs0++[(⟨r,f.all,f.left⟩:WFr)]).length):=⟨q1,q2,q3,hn5'⟩;have H5E:=yA q5;have HX5:Hid (zAT T' T5 id wr/\Keeps (zD3 T' id) wr w5):=⟨x5,K5⟩;obtain⟨j0,hj0,hz0,hz1,hz2⟩:=info_parts zIF;clear G5 hH5 hr5 q1 q2 q3 q5 x5 K5 hi5 hn5 hn5' hcn;go_upto_region 18 with fail
         try rw[show((r.length:Int)+1==0)=false from xN (by omega)]
         have hcd:decide (0<a.count)=true:=uC hc;try rw[hcd]
         clear hcd j1 j2 hc;refine zFN 14 (by kernel_rfl) (by kernel_rfl) _ (.pointer (some ⟨g,i*3,none⟩)) rfl (.inl ⟨rfl,λ_=>rfl⟩) (λ_ _ _ h=>h) (Keeps zA) (yB zA) (λa b c h h'=>xJ h h') (zAz [some (.pointer (some ⟨g,i*3,none⟩)),some (.pointer (some ⟨g,i*3,none⟩)),some (.pointer (some ⟨g,i*3,none⟩)),some (.pointer (some ⟨g,i*3+2,none⟩)),some (.slice ad5 n5 cap5),some (.pointer (some ⟨ba,8,none⟩)),some (.slice ta a.thn.length tc),some (.pointer (some ⟨ba,8,none⟩)),some (.slice ta a.thn.length tc),some (.pointer (some ⟨ba,7,none⟩)),some (.int .i64 a.count),some (.agg #[.slice ta a.thn.length tc,.slice ta a.thn.length tc,.int .i64 a.count]),some (.iface 205 (.agg #[.slice ta a.thn.length tc,.slice ta a.thn.length tc,.int .i64 a.count]))] (λ_ v W=>∃b,v=.slice (some ⟨b,0,none⟩) 1 1/\zB W b [.iface 205 (.agg #[.slice ta a.thn.length tc,.slice ta a.thn.length tc,.int .i64 a.count])])) (vQ (λ_ _ _ _ h hk=>by obtain⟨b,e,hb⟩:=h;exact⟨b,e,hb.keeps hk (λh=>h)⟩)) (λ_=>rfl) ?_ ?_
         ·intro q oo hq1 hq ho vs W Q' hR hd hK
          have HRW:Keeps zA w5 W:=((zF w5).drew).zC hR;rcases (show q=1\/q=2\/q=3\/q=4\/q=5\/q=6\/q=7\/q=8\/q=9\/q=10\/q=11\/q=12\/q=13 by omega) with rfl|rfl|rfl|rfl|rfl|rfl|rfl|rfl|rfl|rfl|rfl|rfl|rfl
          all_goals (simp only[yC,yD,yN] at ho;subst ho;simp only[zJ,yC,yD,yO,Option.bind,Act.put,yE,yM,yJ] at hK ⊢;clear hq hq1)
          ·exact J2 _
          ·exact J137 _
          ·exact J135 _
          ·exact J138 _
          ·exact J2 _
          ·exact J151 _
          ·exact J2 _
          ·exact J147 _
          ·exact J2 _
          ·exact J143 _
          ·have e6:vs 6=_:=hd 6 (by kernel_rfl)
           have e8:vs 8=_:=hd 8 (by kernel_rfl);have e10:vs 10=_:=hd 10 (by kernel_rfl);rw[e6,e8,e10] at hK ⊢;exact J2 _
          ·have e11:vs 11=_:=hd 11 (by kernel_rfl)
           rw[e11] at hK ⊢;exact J2 _
          ·have e12:vs 12=_:=hd 12 (by kernel_rfl)
           rw[e12] at hK ⊢;exact J47 _
         ·intro vs W hR hFF
          have HRW:Keeps zA w5 W:=((zF w5).drew).zC hR;have e0:vs 0=_:=hFF 0 (by decide);have e4:vs 4=_:=hFF 4 (by decide);obtain⟨gb,e13,hgb⟩:=(hFF 13 (by decide):∃b,vs 13=.slice (some ⟨b,0,none⟩) 1 1/\zB W b [.iface 205 (.agg #[.slice ta a.thn.length tc,.slice ta a.thn.length tc,a.count])]);have HGB:=yA hgb;simp only[zJ,yC,yD,yO,Option.bind,Act.put,yE,yM,yJ,yZ,yU];rw[e0,e4,e13];clear hFF e0 e4 e13 hgb cf y R5;have HGW:=yA (yd zU H5A.out HRW (λ_ _ h=>h));go_wp2_with (at_builtin;refine zI _ (by rfl) _ _ 130 (by rfl) 0 148 j0 _ 1 16 yf hj0 hz0 hz1 hz2 rfl (by decide) (.slice ad5 n5 cap5) n5 css5.flatten (by rfl) (zD H5D.out.2.1 HRW (λ_ _ h=>h)) (.slice (some ⟨gb,0,none⟩) 1 1) 1 [.iface 205 (.agg #[.slice ta a.thn.length tc,.slice ta a.thn.length tc,a.count])] (by rfl) (xE HGB.out) rfl (J168 _) (by unfold maxLen;omega) (by omega) (yF _) ?_;intro ad6 cap6 w6 ha;have HA6:=yA ha;obtain⟨_,_,c6,f6⟩:=zAm.app HGW.out H5B.out H5D.out.2.2.1 ha;clear ha)
          have HWN:Hid (zAu zm 1 148 W T5 F id g i ((zP.set i ⟨t.st,regs,fs0++[f]⟩).set i ⟨t.st,regs,fs0++[⟨r,f.all,f.left⟩]⟩) ⟨t.st,regs,(fs0++[⟨r,f.all,f.left⟩])++[⟨a.thn,a.thn,a.count.toNat⟩]⟩ (w6.setCell ⟨g,i*3+2,none⟩ (.slice ad6 (n5+1) cap6))):=by
           obtain⟨d1,d2,d3,d4⟩:=H5D.out;have h6:=HA6.out;have hb:=H5B.out;have hg:=HGW.out;have hr:=H5C.out.keeps HRW (λ_ _ h=>h);have hq:=H5E.out;have hp:=HPV.out.keeps HRW (λ_ _ h=>h);clear HGW H5D H5B HA6 H5C H5E HPV;subst d4;exact zAm.zNI (t:=⟨t.st,regs,fs0++[⟨r,f.all,f.left⟩]⟩) (f:=⟨a.thn,a.thn,a.count.toNat⟩) zU hg hb hr d1 d3 (λj y ds e1 e2=>zU.keeps (hq j y ds e1 e2) HRW (λ_ _ h=>h)) ⟨_,rfl,hp⟩ h6
          generalize w6.setCell ⟨g,i*3+2,none⟩ (.slice ad6 (n5+1) cap6)=w7 at HWN ⊢;go_roundg (zBR ((fs0++[⟨r,f.all,f.left⟩])++[⟨a.thn,a.thn,a.count.toNat⟩]))
          case measure=>rw[HX.out.2.2.1];exact zAd HST2.out
          case rel=>exact⟨regs,(fs0++[⟨r,f.all,f.left⟩])++[⟨a.thn,a.thn,a.count.toNat⟩],rfl,zAu.trans HX.out.1 HX.out.2.1 (zAu.trans HX5.out.1 HX5.out.2 (HWN.out.before HRW)),HOK.out.step HST2.out,HX.out.2.2.2.1,by exact J217 _⟩
        ·have hst2:=HST.out
         rw[if_neg hc] at hst2;have HST2:=yA hst2;clear hst2;go_wp2_with fail
         go_roundg (zBR (fs0++[⟨r,f.all,f.left⟩]))
         case measure=>rw[HX.out.2.2.1];exact zAd HST2.out
         case rel=>exact⟨regs,fs0++[⟨r,f.all,f.left⟩],rfl,zAu.trans HX.out.1 HX.out.2.1 HWr.out,HOK.out.step HST2.out,HX.out.2.2.2.1,by exact J217 _⟩
       have HG:Hid (zAu zm 1 148 w T F id g i zP t.local wr):=by
        have e:t.local=⟨t.st,regs,fs0++[f]⟩:=by
         unfold WTh.local;rw[<-HX.out.2.2.2.2,zEm (zMW hr n1 n10 n11)]
        rw[e];exact⟨T',H',HL.out.G,HX.out.1,HX.out.2.1⟩
       have b1:(a.kind==1)=false:=xN n1;have b10:(a.kind==10)=false:=xN n10;have b11:(a.kind==11)=false:=xN n11;go_wp2_with fail
       go_returns
       exact⟨rfl,HG.out.after zU k5⟩)
