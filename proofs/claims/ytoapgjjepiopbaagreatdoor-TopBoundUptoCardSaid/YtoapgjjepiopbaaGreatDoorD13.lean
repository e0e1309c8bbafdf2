/- Layer D: texts joined. -/
import Derived.Test.YtoapgjjepiopbaaGreatDoorD12
set_option linter.all false
set_option maxHeartbeats 2000000
set_option maxRecDepth 8000
namespace Go.Proofs.YtoapgjjepiopbaaGreatDoor
open Go.RowKit
theorem J5(P:Prop) (h:P:=by
 have R39:Hid (zB w9 b3 [.func (.func 141) #[] #[.pointer (some ⟨c,0,none⟩)],.func (.func 142) #[] #[.pointer (some ⟨c,0,none⟩)]]):=R38.out.keeps G9.out (λe=>HNE.out e);obtain⟨y0,y1,y2,y3,y4,y5,y6,y7,y8,y9⟩:=R79.out.ten;have q0:=R39.out.cell (k:=0) (v:=.func (.func 141) #[] #[.pointer (some ⟨c,0,none⟩)]) rfl;have q1:=R39.out.cell (k:=1) (v:=.func (.func 142) #[] #[.pointer (some ⟨c,0,none⟩)]) rfl;obtain⟨v3,hv3⟩:=eX (α:=Nat) ((v2+St.zT l[i].thn));have HV3:=yA hv3;go_upto_region 8 with(go_at_call 191;refine(HT.out _ v2 (by have h1:=HV2.out;have h2:=HV1.out;have h3:=HSZ.out;omega) KR9.out R9.out).mono ?_;rintro e w10 ⟨rfl,r10,g10⟩;rw[<-hv3] at r10;have R10:=yA r10;have G10:=yA g10;clear r10 g10)
 clear hv3 y0 y1 y2 y3 y4 y5 y6 y7 y8 y9 q0 q1;have KR10:Hid (Keeps (λq=>q=c) wr w10):=KR9.out.trans G10.out (λ_ _ h=>h);obtain⟨y0,y1,y2,y3,y4,y5,y6,y7,y8,y9⟩:=(R79.out.keeps G10.out (λe=>HN7.out e)).ten;have r3:=R39.out.keeps G10.out (λe=>HNE.out e);have q0:=r3.cell (k:=0) (v:=.func (.func 141) #[] #[.pointer (some ⟨c,0,none⟩)]) rfl;have q1:=r3.cell (k:=1) (v:=.func (.func 142) #[] #[.pointer (some ⟨c,0,none⟩)]) rfl;clear r3;obtain⟨v4,hv4⟩:=eX (α:=Nat) ((v3+St.zT l[i].els));have HV4:=yA hv4;go_wp2_with (go_at_call 191;refine(HE.out _ v3 (by have h0:=HV3.out;have h1:=HV2.out;have h2:=HV1.out;have h3:=HSZ.out;omega) KR10.out R10.out).mono ?_;rintro e w11 ⟨rfl,r11,g11⟩;rw[<-hv4] at r11;have R11:=yA r11;have G11:=yA g11;clear r11 g11)
 have HDN:Hid ((v4+St.zT (l.drop (i+1)))=tot):=by
  show _=_
  have h1:=HDD.out;rw[HTHE.out] at h1;rw[HV4.out,HV3.out,HV2.out,HV1.out];simp only[Bool.false_eq_true,if_false,if_true] at h1;omega
 go_roundw
 case rel=>exact⟨i+1,v4,by omega,by go_num,R11,HDN,HK.out.trans (KR10.out.trans G11.out (λ_ _ h=>h)) (λ_ _ h=>h)⟩
 case measure=>simp[intOf];omega):P:=h
theorem J141(P:Prop) (h:P:=by
 clear hv2 y0 y1 y2 y3 y4 y5 y6 y7 y8 y9 q0 q1;have KR9:Hid (Keeps (λq=>q=c) wr w9):=KR8.out.trans G9.out (λ_ _ h=>h);have R79:Hid (zB w9 b7 [x0,x1,x2,x3,x4,x5,.slice xa x6 xc,x7,.slice ta x8 tc,.slice ea x9 ec]):=R78.out.keeps G9.out (λe=>HN7.out e);exact J5 _):P:=h
theorem zLv(nm:ByteArray)(ts:List (List St))(w:World)(F:Nat->Prop)(pca pma ta:Option Addr)(pcn pcc pmn pmc tc c:Nat)(b:Nat)(h:zAh w F nm ts ta)(hF:¬F c)(hc:zB w c [(.int .i64 b)])(hb:zBt ts<900000000)(hbb:b<1000000000):
 Calls Tryz.prog 138 #[.agg #[.func (.func 139) #[] #[.pointer (some ⟨c,0,none⟩)],.func (.func 140) #[] #[.pointer (some ⟨c,0,none⟩)]],.agg #[.slice pca pcn pcc,.slice pma pmn pmc,.slice ta ts.length tc]] w λe w'=>e=.returned (.tuple #[])/\zB w' c [(.int .i64 ((max b (zAF ts)):Nat))]/\Keeps (λq=>q=c) w w':=by
 have HL:=yA h;have HF:=yA hF;have HCR:=yA hc;have HBB:=yA hbb;have hl:ts.length<=1000000000:=by have:=h.len;omega
 have HB:=yA hb;obtain⟨tot,ht⟩:=eX (α:=Nat) ((max b (zAF ts)));have HT0:=yA ht;rw[<-ht];have hlt0:=hc.lt (by simp);have hlt:=yA hlt0;clear h hF hc hb ht hlt0 hbb;go_enter Tryz.func138,Tryz.ntmps138
 go_upto_region 1 with fail
 obtain⟨b3,hb3⟩:=eX w.heap.size;obtain⟨b4,hb4⟩:=eX (w.heap.size+1);have hr3:zB ((w.alloc (.cells #[.func (.func 139) #[] #[.pointer (some ⟨c,0,none⟩)],.func (.func 140) #[] #[.pointer (some ⟨c,0,none⟩)]] 234)).alloc (.cells #[.slice pca pcn pcc,.slice pma pmn pmc,.slice ta ts.length tc] 102)) b3 [.func (.func 139) #[] #[.pointer (some ⟨c,0,none⟩)],.func (.func 140) #[] #[.pointer (some ⟨c,0,none⟩)]]:=J178 _;have hr4:zB ((w.alloc (.cells #[.func (.func 139) #[] #[.pointer (some ⟨c,0,none⟩)],.func (.func 140) #[] #[.pointer (some ⟨c,0,none⟩)]] 234)).alloc (.cells #[.slice pca pcn pcc,.slice pma pmn pmc,.slice ta ts.length tc] 102)) b4 [.slice pca pcn pcc,.slice pma pmn pmc,.slice ta ts.length tc]:=J189 _;have hk1:Keeps zA w ((w.alloc (.cells #[.func (.func 139) #[] #[.pointer (some ⟨c,0,none⟩)],.func (.func 140) #[] #[.pointer (some ⟨c,0,none⟩)]] 234)).alloc (.cells #[.slice pca pcn pcc,.slice pma pmn pmc,.slice ta ts.length tc] 102)):=((yB _ _).alloc _).alloc _;rw[<-hb4,<-hb3];generalize (w.alloc (.cells #[.func (.func 139) #[] #[.pointer (some ⟨c,0,none⟩)],.func (.func 140) #[] #[.pointer (some ⟨c,0,none⟩)]] 234)).alloc (.cells #[.slice pca pcn pcc,.slice pma pmn pmc,.slice ta ts.length tc] 102)=w1 at hr3 hr4 hk1 ⊢;have HNE:Hid (b3≠c):=by show _≠_;have:=hlt.out;omega
 have R3:=yA hr3;have K1:=yA hk1;have RC:Hid (zB w1 c [(.int .i64 b)]):=HCR.out.keeps hk1 (λh=>h);have HLC:Hid (c<w1.heap.size):=RC.out.lt (by simp);obtain⟨d0,d1,d2⟩:=hr4.three;clear hr3 hr4 hk1 hb3 hb4 HCR;go_wp2_with fail
 clear d0 d1 d2;go_loopw [9] (λiv wr=>∃(i:Nat)(v:Nat),i<=ts.length/\iv=.int .i64 i/\Hid (zB wr c [(.int .i64 v)])/\Hid ((max v (zAF (ts.drop i)))=tot)/\Hid (Keeps (λq=>q=c) w1 wr)) (λiv _=>ts.length-(intOf iv).toNat)
 case atStart=>exact⟨0,b,yF _,rfl,RC,by show _=_;rw[yU];exact HT0.out.symm,yB _ _⟩
 case round =>
  obtain⟨i,v,hi,rfl,HV,HD,HK⟩:=hrel;by_cases hlt:i<ts.length
  ·have i1:(0:Int)<=i:=by omega
   have i2:(i:Int)<ts.length:=by omega
   have hd:=HD.out;rw[drop_at hlt] at hd;simp only[zAF] at hd;have hFc:∀q,F q->¬(λq=>q=c) q:=λq hq e=>HF.out (J187 _)
   obtain⟨g,o,ba,bc,e1,hg,d0,d1,hx⟩:=((HL.out.keeps K1.out (λ_ _ h=>h):zAh w1 F nm ts ta).keeps HK.out hFc).at hlt;subst e1;have hsz:=zDq (yI hlt);have hB:=HB.out;obtain⟨v1,hv1⟩:=eX (α:=Nat) ((max v (St.zu 1 ts[i])));have hBB:=HBB.out;have hT0:=HT0.out;have hle:=zFa ts;have hv:v<1000000000:=by have:=HD.out;omega
   have HS:Hid (∀W,Keeps zA wr W->Calls Tryz.prog 191 #[.agg #[.func (.func 139) #[] #[.pointer (some ⟨c,0,none⟩)],.func (.func 140) #[] #[.pointer (some ⟨c,0,none⟩)]],.slice ba ts[i].length bc,(1:Int)] W λe w'=>e=.returned (.tuple #[])/\zB w' c [(.int .i64 v1)]/\Keeps (λq=>q=c) W w'):=by
    rw[hv1];exact λW hk=>zP6 ts[i] W F ba bc c 1 v (hx.keeps hk (λ_ _ h=>h)) HF.out (HV.out.keeps hk (λh=>h)) (by omega) hv
   have HDN:Hid ((max v1 (zAF (ts.drop (i+1))))=tot):=by
    show _=_
    rw[hv1];omega
   clear hx hFc hd hsz hB hv1 hBB hT0 hv hle;generalize ts[i].length=x1 at d1 HS;go_upto_region 4 with fail
   obtain⟨b7,hb7⟩:=eX wr.heap.size;have hr7:zB (wr.alloc (.cells #[nm,.slice ba x1 bc] 111)) b7 [.string nm,.slice ba x1 bc]:=J174 _;have hk7:Keeps zA wr (wr.alloc (.cells #[nm,.slice ba x1 bc] 111)):=(yB _ _).alloc _;rw[<-hb7];generalize wr.alloc (.cells #[nm,.slice ba x1 bc] 111)=w7 at hr7 hk7 ⊢;have y1:=hr7.cell (k:=1) (v:=.slice ba x1 bc) rfl;have r3:=(R3.out.keeps HK.out (λe=>HNE.out e)).keeps hk7 (λh=>h);have q0:=r3.cell (k:=0) (v:=.func (.func 139) #[] #[.pointer (some ⟨c,0,none⟩)]) rfl;have q1:=r3.cell (k:=1) (v:=.func (.func 140) #[] #[.pointer (some ⟨c,0,none⟩)]) rfl;exact J25 _
  ·obtain rfl:i=ts.length:=by omega
   have hd:=HD.out;rw[xO] at hd;simp only[zAF] at hd;exact J149 _
theorem zID(nm:ByteArray)(ts:List (List St))(w:World)(F:Nat->Prop)(pca pma ta:Option Addr)(pcn pcc pmn pmc tc:Nat)(h:zAh w F nm ts ta)(hF:∀k,F k->k<w.heap.size)(hb:zBt ts<900000000):
 Calls Tryz.prog 84 #[.agg #[.slice pca pcn pcc,.slice pma pmn pmc,.slice ta ts.length tc]] w λe w'=>e=.returned (.int .i64 (zAF ts:Nat))/\Keeps zA w w':=by
 have hmf:∀(fn:Fn)(first cap:Array Value)(w:World),(Instr.makeFunc fn first cap).run Tryz.prog w=.ok (.func fn first cap) w:=λ_ _ _ _=>rfl
 have HL:=yA h;have HF:=yA hF;have HB:=yA hb;obtain⟨r,hr⟩:=eX (α:=Nat) (zAF ts);have HR:=yA hr;rw[<-hr];obtain⟨n,hn⟩:=eX ts.length;have HNL:=yA hn;rw[<-hn];clear h hF hb hr hn;go_enter Tryz.func84,Tryz.ntmps84
 go_upto_region 2 with fail
 obtain⟨b1,hb1⟩:=eX w.heap.size;obtain⟨c,hc⟩:=eX (w.heap.size+1);have hr1:zB ((w.alloc (.cells #[.slice pca pcn pcc,.slice pma pmn pmc,.slice ta n tc] 102)).alloc (.cells #[(0:Int)] 3)) b1 [.slice pca pcn pcc,.slice pma pmn pmc,.slice ta n tc]:=J218 _;have hrc:zB ((w.alloc (.cells #[.slice pca pcn pcc,.slice pma pmn pmc,.slice ta n tc] 102)).alloc (.cells #[(0:Int)] 3)) c [.int .i64 (0:Nat)]:=J237 _;have hk1:Keeps zA w ((w.alloc (.cells #[.slice pca pcn pcc,.slice pma pmn pmc,.slice ta n tc] 102)).alloc (.cells #[(0:Int)] 3)):=((yB _ _).alloc _).alloc _;have HCW:Hid (w.heap.size<=c):=by show _<=_;omega
 rw[<-hc,<-hb1];generalize (w.alloc (.cells #[.slice pca pcn pcc,.slice pma pmn pmc,.slice ta n tc] 102)).alloc (.cells #[(0:Int)] 3)=w1 at hr1 hrc hk1 ⊢;obtain⟨d0,d1,d2⟩:=hr1.three
 have HP:Hid (Calls Tryz.prog 138 #[.agg #[.func (.func 139) #[] #[.pointer (some ⟨c,0,none⟩)],.func (.func 140) #[] #[.pointer (some ⟨c,0,none⟩)]],.agg #[.slice pca pcn pcc,.slice pma pmn pmc,.slice ta n tc]] w1 λe w'=>e=.returned (.tuple #[])/\zB w' c [r]/\Keeps (λq=>q=c) w1 w'):=by
  have h1:=zLv nm ts w1 F pca pma ta pcn pcc pmn pmc tc c 0 (HL.out.keeps hk1 (λ_ _ h=>h)) (λh=>by have:=HF.out c h;have:=HCW.out;omega) hrc HB.out (by omega);rw[HNL.out,HR.out];have e:max 0 (zAF ts)=zAF ts:=by omega
  rw[e] at h1;exact h1
 have K1:=yA hk1;clear hr1 hrc hk1 hc hb1;go_upto_region 3 with(go_at_call 138;refine HP.out.mono ?_;rintro e w2 ⟨rfl,r2,g2⟩;have cc:=r2.cell (k:=0) (v:=.int .i64 r) rfl;have G2:=yA g2;clear r2 g2)
 clear d0 d1 d2;go_wp2_with fail
 go_ret
 exact⟨rfl,K1.out.trans G2.out (λq hq e=>by exact J209 _)⟩
theorem zR1(x:Ex)(ad:Option Addr)(cap:Nat)(w:World)(c d b:Nat)(hd:d<1500000000)(hb:b<1500000000)(h:zB w c [b]):
 Calls Tryz.prog 142 #[exV x ad cap,d,.pointer (some ⟨c,0,none⟩)] w λe w'=>e=.returned (.tuple #[])/\zB w' c [.int .i64 (b+1:Nat)]/\Keeps (λq=>q=c) w w':=by
 show Calls _ _ #[.agg #[x.kind,x.num,x.nm,.slice ad x.args.length cap],_,_] _ _
 have HC:=yA h;have hlt:=h.lt (by simp);clear h;have hw:IntKind.i64.wrap ((b:Int)+1)=(b:Int)+1:=vN _ (by omega) (by omega);go_enter Tryz.func142,Tryz.ntmps142
 go_upto_region 1 with fail
 have k1:Keeps zA w (w.alloc (.cells #[x.kind,x.num,x.nm,.slice ad x.args.length cap] 144)):=(yB _ _).alloc _;generalize w.alloc (.cells #[x.kind,x.num,x.nm,.slice ad x.args.length cap] 144)=w1 at k1 ⊢;have rc:=HC.out.keeps k1 (λh=>h);have cc:=rc.cell (k:=0) (v:=.int .i64 b) rfl;have fc:=rc.free (k:=0) (by simp);have RC:=yA rc;have K1:=yA k1;clear rc k1;go_wp2_with fail
 go_end0
 refine⟨rfl,?_,(K1.out.mono (S:=λq=>q=c) (λ_ _ h=>False.elim h)).setCell (p:=⟨c,0,none⟩) (λ_=>rfl) _⟩
 have e1:((b+1:Nat):Int)=(b:Int)+1:=by omega
 rw[e1];exact RC.out.set 0 (by simp) _
theorem zRn(x:St)(xa ta ea:Option Addr)(xc tc ec:Nat)(w:World)(c d b:Nat)(hd:d<1500000000)(hb:b<1500000000)(h:zB w c [b]):
 Calls Tryz.prog 141 #[stV x xa xc ta tc ea ec,d,.pointer (some ⟨c,0,none⟩)] w λe w'=>e=.returned (.tuple #[])/\zB w' c [.int .i64 (b+1:Nat)]/\Keeps (λq=>q=c) w w':=by
 show Calls _ _ #[.agg #[x.kind,x.reg,x.name,x.ex.kind,x.ex.num,x.ex.nm,.slice xa x.ex.args.length xc,x.count,.slice ta x.thn.length tc,.slice ea x.els.length ec],_,_] _ _
 have HC:=yA h;have hlt:=h.lt (by simp);clear h;have hw:IntKind.i64.wrap ((b:Int)+1)=(b:Int)+1:=vN _ (by omega) (by omega);go_enter Tryz.func141,Tryz.ntmps141
 go_upto_region 1 with fail
 have k1:Keeps zA w (w.alloc (.cells #[x.kind,x.reg,x.name,x.ex.kind,x.ex.num,x.ex.nm,.slice xa x.ex.args.length xc,x.count,.slice ta x.thn.length tc,.slice ea x.els.length ec] 191)):=(yB _ _).alloc _;generalize w.alloc (.cells #[x.kind,x.reg,x.name,x.ex.kind,x.ex.num,x.ex.nm,.slice xa x.ex.args.length xc,x.count,.slice ta x.thn.length tc,.slice ea x.els.length ec] 191)=w1 at k1 ⊢;have rc:=HC.out.keeps k1 (λh=>h);have cc:=rc.cell (k:=0) (v:=.int .i64 b) rfl;have fc:=rc.free (k:=0) (by simp);have RC:=yA rc;have K1:=yA k1;clear rc k1;go_wp2_with fail
 go_end0
 refine⟨rfl,?_,(K1.out.mono (S:=λq=>q=c) (λ_ _ h=>False.elim h)).setCell (p:=⟨c,0,none⟩) (λ_=>rfl) _⟩
 have e1:((b+1:Nat):Int)=(b:Int)+1:=by omega
 rw[e1];exact RC.out.set 0 (by simp) _
theorem zPM:∀(x:Ex)(w:World)(F:Nat->Prop)(ad:Option Addr)(cap c d:Nat)(b:Nat),zR w F x.args ad->¬F c->zB w c [(.int .i64 b)]->d+x.cnt<1000000000->b+x.cnt<1000000000 →
 Calls Tryz.prog 227 #[.agg #[.func (.func 141) #[] #[.pointer (some ⟨c,0,none⟩)],.func (.func 142) #[] #[.pointer (some ⟨c,0,none⟩)]],exV x ad cap,d] w λe w'=>e=.returned (.tuple #[])/\zB w' c [(.int .i64 ((b+Ex.cnt x):Nat))]/\Keeps (λq=>q=c) w w':=by
 refine Ex.ind (λk num nm l ih w F ad cap c d b h hF hc hb hbb=>?_)
 have HL:Hid (zR w F l ad):=h;have IH:=yA ih;have HF:=yA hF;have HCR:=yA hc;have hl:=Ex.zAe l;have hcn:Ex.cnt (.mk k num nm l)=1+Ex.zT l:=by simp[Ex.cnt]
 rw[hcn] at hb hbb;have hb2:l.length<1000000000:=by omega
 have hd2:d<1000000000:=by omega
 have HB:=yA hb;have HBB:=yA hbb;obtain⟨tot,ht⟩:=eX (α:=Nat) ((b+Ex.cnt (Ex.mk k num nm l)))
 have HT:Hid (((b+1)+Ex.zT l)=tot):=by
  show _=_
  rw[ht];simp only[Ex.cnt];omega
 rw[<-ht];have HCL:Hid (∀W,zB W c [(.int .i64 b)]->Calls Tryz.prog 142 #[.agg #[k,num,nm,.slice ad l.length cap],d,.pointer (some ⟨c,0,none⟩)] W λe w'=>e=.returned (.tuple #[])/\zB w' c [(.int .i64 (b+1:Nat))]/\Keeps (λq=>q=c) W w'):=λW h=>zR1 (.mk k num nm l) ad cap W c d b (by omega) (by omega) h
 have hlt0:=hc.lt (by simp);have hlt:=yA hlt0;clear h hF hc ih hl hcn hb ht hlt0 hbb;show Calls _ _ #[_,.agg #[k,num,nm,.slice ad l.length cap],_] _ _
 have hw:IntKind.i64.wrap ((d:Int)+1)=(d:Int)+1:=vN _ (by omega) (by omega);go_enter Tryz.func227,Tryz.ntmps227
 go_upto_region 1 with fail
 obtain⟨b3,hb3⟩:=eX w.heap.size;obtain⟨b4,hb4⟩:=eX (w.heap.size+1);have hr3:zB ((w.alloc (.cells #[.func (.func 141) #[] #[.pointer (some ⟨c,0,none⟩)],.func (.func 142) #[] #[.pointer (some ⟨c,0,none⟩)]] 234)).alloc (.cells #[k,num,nm,.slice ad l.length cap] 144)) b3 [.func (.func 141) #[] #[.pointer (some ⟨c,0,none⟩)],.func (.func 142) #[] #[.pointer (some ⟨c,0,none⟩)]]:=J178 _;have hr4:zB ((w.alloc (.cells #[.func (.func 141) #[] #[.pointer (some ⟨c,0,none⟩)],.func (.func 142) #[] #[.pointer (some ⟨c,0,none⟩)]] 234)).alloc (.cells #[k,num,nm,.slice ad l.length cap] 144)) b4 [.int .i64 k,.int .i64 num,.string nm,.slice ad l.length cap]:=J189 _;have hk1:Keeps zA w ((w.alloc (.cells #[.func (.func 141) #[] #[.pointer (some ⟨c,0,none⟩)],.func (.func 142) #[] #[.pointer (some ⟨c,0,none⟩)]] 234)).alloc (.cells #[k,num,nm,.slice ad l.length cap] 144)):=((yB _ _).alloc _).alloc _;rw[<-hb4,<-hb3];generalize (w.alloc (.cells #[.func (.func 141) #[] #[.pointer (some ⟨c,0,none⟩)],.func (.func 142) #[] #[.pointer (some ⟨c,0,none⟩)]] 234)).alloc (.cells #[k,num,nm,.slice ad l.length cap] 144)=w1 at hr3 hr4 hk1 ⊢;have HNE:Hid (b3≠c/\b4≠c):=⟨by have:=hlt.out;omega,by have:=hlt.out;omega⟩;have R3:=yA hr3;have R4:=yA hr4;have K1:=yA hk1;have RC:Hid (zB w1 c [(.int .i64 b)]):=HCR.out.keeps hk1 (λh=>h);have y0:=hr3.cell (k:=1) (v:=.func (.func 142) #[] #[.pointer (some ⟨c,0,none⟩)]) rfl;obtain⟨d0,d1,d2,d3⟩:=hr4.four;clear hr3 hr4 hk1 hb3 hb4;go_upto_region 2 with(go_at_call 142;refine(HCL.out _ RC.out).mono ?_;rintro e w2 ⟨rfl,r2,g2⟩;have R2:=yA r2;have G2:=yA g2;clear r2 g2)
 have c3:=(R4.out.keeps G2.out (λe=>HNE.out.2 e)).cell (k:=3) (v:=.slice ad l.length cap) rfl;clear d0 d1 d2 d3 y0 RC HCL HCR;go_wp2_with fail
 go_loopw [16] (λiv wr=>∃(i:Nat)(v:Nat),i<=l.length/\iv=.int .i64 i/\Hid (zB wr c [(.int .i64 v)])/\Hid ((v+Ex.zT (l.drop i))=tot)/\Hid (Keeps (λq=>q=c) w1 wr)) (λiv _=>l.length-(intOf iv).toNat)
 case atStart=>exact⟨0,(b+1),yF _,rfl,R2,by show _=_;rw[yU];exact HT.out,G2⟩
 case round =>
  obtain⟨i,v,hi,rfl,HV,HD,HK⟩:=hrel;by_cases hlt:i<l.length
  ·have i1:(0:Int)<=i:=by omega
   have i2:(i:Int)<l.length:=by omega
   have hd:=HD.out;rw[drop_at hlt] at hd;simp only[Ex.zT] at hd;have hFc:∀q,F q->¬(λq=>q=c) q:=λq hq e=>HF.out (J187 _)
   obtain⟨g,o,a,ca,e1,hg,d0,d1,d2,d3,hx⟩:=((HL.out.keeps K1.out (λ_ _ h=>h):zR w1 F l ad).keeps HK.out hFc).at hlt;subst e1
   have HC:Hid (∀W,Keeps zA wr W->Calls Tryz.prog 227 #[.agg #[.func (.func 141) #[] #[.pointer (some ⟨c,0,none⟩)],.func (.func 142) #[] #[.pointer (some ⟨c,0,none⟩)]],.agg #[.int .i64 l[i].kind,.int .i64 l[i].num,.string l[i].nm,.slice a l[i].args.length ca],.int .i64 ((d:Int)+1)] W λe w'=>e=.returned (.tuple #[])/\zB w' c [(.int .i64 ((v+Ex.cnt l[i]):Nat))]/\Keeps (λq=>q=c) W w'):=λW hk=>by
    have e:((d+1:Nat):Int)=(d:Int)+1:=by omega
    rw[<-e];have hcl:=Ex.zCP (yI hlt);have hbt:=HB.out;have hdt:=HD.out;have hbb:=HBB.out;have htt:=HT.out;exact IH.out _ (yI hlt) W F a ca c (d+1) v (hx.keeps hk (λ_ _ h=>h)) HF.out (HV.out.keeps hk (λh=>h)) (by omega) (by omega)
   obtain⟨v2,hv2⟩:=eX (α:=Nat) ((v+Ex.cnt l[i]))
   have HD2:Hid ((v2+Ex.zT (l.drop (i+1)))=tot):=by
    show _=_
    rw[hv2,<-hd];omega
   rw[<-hv2] at HC;clear hx hFc hd hv2;generalize l[i].kind=x0 at d0 HC;generalize l[i].num=x1 at d1 HC;generalize l[i].nm=x2 at d2 HC;generalize l[i].args.length=x3 at d3 HC;go_upto_region 5 with fail
   obtain⟨b7,hb7⟩:=eX wr.heap.size;have hr7:zB (wr.alloc (.cells #[x0,x1,x2,.slice a x3 ca] 144)) b7 [.int .i64 x0,.int .i64 x1,.string x2,.slice a x3 ca]:=J174 _;have hk7:Keeps zA wr (wr.alloc (.cells #[x0,x1,x2,.slice a x3 ca] 144)):=(yB _ _).alloc _;rw[<-hb7];generalize wr.alloc (.cells #[x0,x1,x2,.slice a x3 ca] 144)=w7 at hr7 hk7 ⊢;obtain⟨y0,y1,y2,y3⟩:=hr7.four;have r3:=(R3.out.keeps HK.out (λe=>HNE.out.1 e)).keeps hk7 (λh=>h);have q0:=r3.cell (k:=0) (v:=.func (.func 141) #[] #[.pointer (some ⟨c,0,none⟩)]) rfl;have q1:=r3.cell (k:=1) (v:=.func (.func 142) #[] #[.pointer (some ⟨c,0,none⟩)]) rfl;exact J23 _
  ·obtain rfl:i=l.length:=by omega
   have hd:=HD.out;rw[xO] at hd;simp only[Ex.zT] at hd;exact J149 _
def zDf(l:List St):Prop:=∀(w:World)(F:Nat->Prop)(ad:Option Addr)(cap c d:Nat)(b:Nat),zx w F l ad->¬F c->zB w c [(.int .i64 b)]->d+St.szL l<1000000000->b+St.szL l<1000000000 →
 Calls Tryz.prog 191 #[.agg #[.func (.func 141) #[] #[.pointer (some ⟨c,0,none⟩)],.func (.func 142) #[] #[.pointer (some ⟨c,0,none⟩)]],.slice ad l.length cap,d] w λe w'=>e=.returned (.tuple #[])/\zB w' c [(.int .i64 ((b+St.zT l):Nat))]/\Keeps (λq=>q=c) w w'
theorem zFJ(l:List St)(ih:∀y,y∈l->zDf y.thn/\zDf y.els):zDf l:=by
 intro w F ad cap c d b h hF hc hb hbb
 have HL:=yA h;have IH:=yA ih;have HF:=yA hF;have HCR:=yA hc;have HBB:=yA hbb;have hl:=St.zAe l;have hb2:l.length<1000000000:=by omega
 have hd2:d<1000000000:=by omega
 have HB:=yA hb;obtain⟨tot,ht⟩:=eX (α:=Nat) ((b+St.zT l));have HT0:=yA ht;rw[<-ht];have hlt0:=hc.lt (by simp);have hlt:=yA hlt0;clear h hF hc ih hl hb ht hlt0 hbb;have hw:IntKind.i64.wrap ((d:Int)+1)=(d:Int)+1:=vN _ (by omega) (by omega);go_enter Tryz.func191,Tryz.ntmps191
 go_upto_region 1 with fail
 obtain⟨b3,hb3⟩:=eX w.heap.size;have hr3:zB (w.alloc (.cells #[.func (.func 141) #[] #[.pointer (some ⟨c,0,none⟩)],.func (.func 142) #[] #[.pointer (some ⟨c,0,none⟩)]] 234)) b3 [.func (.func 141) #[] #[.pointer (some ⟨c,0,none⟩)],.func (.func 142) #[] #[.pointer (some ⟨c,0,none⟩)]]:=J186 _;have hk1:Keeps zA w (w.alloc (.cells #[.func (.func 141) #[] #[.pointer (some ⟨c,0,none⟩)],.func (.func 142) #[] #[.pointer (some ⟨c,0,none⟩)]] 234)):=(yB _ _).alloc _;rw[<-hb3];generalize w.alloc (.cells #[.func (.func 141) #[] #[.pointer (some ⟨c,0,none⟩)],.func (.func 142) #[] #[.pointer (some ⟨c,0,none⟩)]] 234)=w1 at hr3 hk1 ⊢;have HNE:Hid (b3≠c):=by show _≠_;have:=hlt.out;omega
 have R3:=yA hr3;have K1:=yA hk1;have RC:Hid (zB w1 c [(.int .i64 b)]):=HCR.out.keeps hk1 (λh=>h);have HLC:Hid (c<w1.heap.size):=RC.out.lt (by simp);clear hr3 hk1 hb3 HCR;go_wp2_with fail
 go_loopw [10] (λiv wr=>∃(i:Nat)(v:Nat),i<=l.length/\iv=.int .i64 i/\Hid (zB wr c [(.int .i64 v)])/\Hid ((v+St.zT (l.drop i))=tot)/\Hid (Keeps (λq=>q=c) w1 wr)) (λiv _=>l.length-(intOf iv).toNat)
 case atStart=>exact⟨0,b,yF _,rfl,RC,by show _=_;rw[yU];exact HT0.out.symm,yB _ _⟩
 case round =>
  obtain⟨i,v,hi,rfl,HV,HD,HK⟩:=hrel;by_cases hlt:i<l.length
  ·have i1:(0:Int)<=i:=by omega
   have i2:(i:Int)<l.length:=by omega
   have hd:=HD.out;rw[drop_at hlt] at hd;simp only[St.zT,St.zEM] at hd;have hFc:∀q,F q->¬(λq=>q=c) q:=λq hq e=>HF.out (J187 _)
   obtain⟨g,o,xa,xc,ta,tc,ea,ec,e1,hg,d0,d1,d2,d3,d4,d5,d6,d7,d8,d9,hx,hxt,hxe⟩:=((HL.out.keeps K1.out (λ_ _ h=>h):zx w1 F l ad).keeps HK.out hFc).at hlt;subst e1;have hsz:=St.zCI (yI hlt);rw[St.zCZ] at hsz;have hB:=HB.out;have hBB:=HBB.out;have hT0:=HT0.out;have hroom:=St.room i l;rw[drop_at hlt] at hroom;simp only[St.szL,St.zT] at hroom;rw[St.zCZ,St.zEM] at hroom;have hv:v+1+l[i].ex.cnt+St.szL l[i].thn+St.szL l[i].els<1000000000:=by have hdd:=HD.out;rw[drop_at hlt] at hdd;simp only[St.zT] at hdd;rw[St.zEM] at hdd;omega
   obtain⟨v1,hv1⟩:=eX (α:=Nat) ((v+1))
   have HS:Hid (∀W,zB W c [(.int .i64 v)]->Calls Tryz.prog 141 #[.agg #[.int .i64 l[i].kind,.string l[i].reg,.string l[i].name,.int .i64 l[i].ex.kind,.int .i64 l[i].ex.num,.string l[i].ex.nm,.slice xa l[i].ex.args.length xc,.int .i64 l[i].count,.slice ta l[i].thn.length tc,.slice ea l[i].els.length ec],d,.pointer (some ⟨c,0,none⟩)] W λe w'=>e=.returned (.tuple #[])/\zB w' c [(.int .i64 v1)]/\Keeps (λq=>q=c) W w'):=by
    rw[hv1];exact λW h=>zRn l[i] xa ta ea xc tc ec W c d v (by omega) (by omega) h
   have HX:Hid (∀W,Keeps (λq=>q=c) wr W->zB W c [(.int .i64 v1)]->Calls Tryz.prog 227 #[.agg #[.func (.func 141) #[] #[.pointer (some ⟨c,0,none⟩)],.func (.func 142) #[] #[.pointer (some ⟨c,0,none⟩)]],.agg #[.int .i64 l[i].ex.kind,.int .i64 l[i].ex.num,.string l[i].ex.nm,.slice xa l[i].ex.args.length xc],(1:Int)] W λe w'=>e=.returned (.tuple #[])/\zB w' c [(.int .i64 ((v1+Ex.cnt l[i].ex):Nat))]/\Keeps (λq=>q=c) W w'):=λW hk h =>
    zPM l[i].ex W F xa xc c 1 v1 (hx.keeps hk hFc) HF.out h (by omega) (by omega)
   have hth:l[i].ex.there=(l[i].ex.kind != 0 || l[i].ex.args.length != 0):=Ex.zGG _
   have HT:Hid (∀W (s:Nat),s+St.szL l[i].thn<1000000000->Keeps (λq=>q=c) wr W->zB W c [(.int .i64 s)]->Calls Tryz.prog 191 #[.agg #[.func (.func 141) #[] #[.pointer (some ⟨c,0,none⟩)],.func (.func 142) #[] #[.pointer (some ⟨c,0,none⟩)]],.slice ta l[i].thn.length tc,.int .i64 ((d:Int)+1)] W λe w'=>e=.returned (.tuple #[])/\zB w' c [(.int .i64 ((s+St.zT l[i].thn):Nat))]/\Keeps (λq=>q=c) W w'):=λW s hs hk h=>by
    exact J91 _
   have HE:Hid (∀W (s:Nat),s+St.szL l[i].els<1000000000->Keeps (λq=>q=c) wr W->zB W c [(.int .i64 s)]->Calls Tryz.prog 191 #[.agg #[.func (.func 141) #[] #[.pointer (some ⟨c,0,none⟩)],.func (.func 142) #[] #[.pointer (some ⟨c,0,none⟩)]],.slice ea l[i].els.length ec,.int .i64 ((d:Int)+1)] W λe w'=>e=.returned (.tuple #[])/\zB w' c [(.int .i64 ((s+St.zT l[i].els):Nat))]/\Keeps (λq=>q=c) W w'):=λW s hs hk h=>by
    exact J92 _
   have HDD:=yA hd;have HV1:=yA hv1;have HTH:=yA hth;have HSZ:Hid (v+1+l[i].ex.cnt+St.szL l[i].thn+St.szL l[i].els<1000000000/\St.zT l[i].thn<=St.szL l[i].thn):=⟨hv,St.zDO _⟩;have hz3:l[i].ex.kind=0/\l[i].ex.args.length=0\/l[i].ex.kind=0/\0<l[i].ex.args.length\/¬l[i].ex.kind=0:=by omega
   obtain⟨th,hthe⟩:=eX (l[i].ex.there);have HTE:=yA hthe;rw[<-hthe] at hth;clear hx hxt hxe hFc hd hv1 hsz hB hthe hBB hT0 hv hroom;generalize l[i].kind=x0 at d0 HS;generalize l[i].reg=x1 at d1 HS;generalize l[i].name=x2 at d2 HS;generalize l[i].ex.kind=x3 at d3 HS HX hth hz3;generalize l[i].ex.num=x4 at d4 HS HX;generalize l[i].ex.nm=x5 at d5 HS HX;generalize l[i].ex.args.length=x6 at d6 HS HX hth hz3;generalize l[i].count=x7 at d7 HS;generalize l[i].thn.length=x8 at d8 HS HT;generalize l[i].els.length=x9 at d9 HS HE;go_upto_region 4 with fail
   obtain⟨b7,hb7⟩:=eX wr.heap.size;have hr7:zB (wr.alloc (.cells #[x0,x1,x2,x3,x4,x5,.slice xa x6 xc,x7,.slice ta x8 tc,.slice ea x9 ec] 191)) b7 [.int .i64 x0,.string x1,.string x2,.int .i64 x3,.int .i64 x4,.string x5,.slice xa x6 xc,.int .i64 x7,.slice ta x8 tc,.slice ea x9 ec]:=J174 _;have hk7:Keeps zA wr (wr.alloc (.cells #[x0,x1,x2,x3,x4,x5,.slice xa x6 xc,x7,.slice ta x8 tc,.slice ea x9 ec] 191)):=(yB _ _).alloc _;have hn7:b7≠c:=by have:=HLC.out;have:=HK.out.size;omega
   rw[<-hb7];generalize wr.alloc (.cells #[x0,x1,x2,x3,x4,x5,.slice xa x6 xc,x7,.slice ta x8 tc,.slice ea x9 ec] 191)=w7 at hr7 hk7 ⊢;obtain⟨y0,y1,y2,y3,y4,y5,y6,y7,y8,y9⟩:=hr7.ten;have r3:=(R3.out.keeps HK.out (λe=>HNE.out e)).keeps hk7 (λh=>h);have q0:=r3.cell (k:=0) (v:=.func (.func 141) #[] #[.pointer (some ⟨c,0,none⟩)]) rfl;have q1:=r3.cell (k:=1) (v:=.func (.func 142) #[] #[.pointer (some ⟨c,0,none⟩)]) rfl;have K7:=yA hk7;have R7:=yA hr7;have R37:=yA r3;have HN7:=yA hn7;have RC7:Hid (zB w7 c [(.int .i64 v)]):=HV.out.keeps hk7 (λh=>h);clear hr7 hk7 r3 hb7 hn7 d0 d1 d2 d3 d4 d5 d6 d7 d8 d9;go_upto_region 5 with(go_at_call 141;refine(HS.out _ RC7.out).mono ?_;rintro e w8 ⟨rfl,r8,g8⟩;have R8:=yA r8;have G8:=yA g8;clear r8 g8)
   have KR8:Hid (Keeps (λq=>q=c) wr w8):=(K7.out.mono (S:=λq=>q=c) (λ_ _ h=>False.elim h)).trans G8.out (λ_ _ h=>h);have R78:Hid (zB w8 b7 [x0,x1,x2,x3,x4,x5,.slice xa x6 xc,x7,.slice ta x8 tc,.slice ea x9 ec]):=R7.out.keeps G8.out (λe=>HN7.out e);have R38:Hid (zB w8 b3 [.func (.func 141) #[] #[.pointer (some ⟨c,0,none⟩)],.func (.func 142) #[] #[.pointer (some ⟨c,0,none⟩)]]):=R37.out.keeps G8.out (λe=>HNE.out e);clear y0 y1 y2 y3 y4 y5 y6 y7 y8 y9 q0 q1;obtain⟨y0,y1,y2,y3,y4,y5,y6,y7,y8,y9⟩:=R78.out.ten;have q0:=R38.out.cell (k:=0) (v:=.func (.func 141) #[] #[.pointer (some ⟨c,0,none⟩)]) rfl;have q1:=R38.out.cell (k:=1) (v:=.func (.func 142) #[] #[.pointer (some ⟨c,0,none⟩)]) rfl;clear HS;rcases hz3 with⟨hz,hzl⟩|⟨hz,hzl⟩|hz
   ·have hzi:(x6:Int)=0:=by omega
    have hTH:l[i].ex.there=false:=by rw[<-HTE.out,hth];simp[hz,hzl]
    have HTHE:=yA hTH;clear hTH hth;obtain⟨v2,hv2⟩:=eX (α:=Nat) v1;have HV2:=yA hv2;go_upto_region 7 with fail
    obtain⟨w9,hw9⟩:=eX w8;have G9:Hid (Keeps (λq=>q=c) w8 w9):=by show Keeps _ _ _;rw[hw9];exact yB _ _
    have R9:Hid (zB w9 c [(.int .i64 v2)]):=by show zB _ _ _;rw[hw9,hv2];exact R8.out
    rw[<-hw9];clear hw9;exact J141 _
   ·have hzi:(0:Int)<x6:=by omega
    subst hz;have hTH:l[i].ex.there=true:=by rw[<-HTE.out,hth];simp;omega
    have HTHE:=yA hTH;clear hTH hth;obtain⟨v2,hv2⟩:=eX (α:=Nat) ((v1+Ex.cnt l[i].ex));have HV2:=yA hv2;go_upto_region 7 with(go_at_call 227;refine(HX.out _ KR8.out R8.out).mono ?_;rintro e w9 ⟨rfl,r9,g9⟩;rw[<-hv2] at r9;have R9:=yA r9;have G9:=yA g9;clear r9 g9)
    clear hv2 y0 y1 y2 y3 y4 y5 y6 y7 y8 y9 q0 q1;have KR9:Hid (Keeps (λq=>q=c) wr w9):=KR8.out.trans G9.out (λ_ _ h=>h);have R79:Hid (zB w9 b7 [x0,x1,x2,(0:Int),x4,x5,.slice xa x6 xc,x7,.slice ta x8 tc,.slice ea x9 ec]):=R78.out.keeps G9.out (λe=>HN7.out e);exact J5 _
   ·have hzb:(x3==0)=false:=by simpa using hz
    have hTH:l[i].ex.there=true:=by rw[<-HTE.out,hth];simp[hz]
    have HTHE:=yA hTH;clear hTH hth;obtain⟨v2,hv2⟩:=eX (α:=Nat) ((v1+Ex.cnt l[i].ex));have HV2:=yA hv2;go_upto_region 7 with(go_at_call 227;refine(HX.out _ KR8.out R8.out).mono ?_;rintro e w9 ⟨rfl,r9,g9⟩;rw[<-hv2] at r9;have R9:=yA r9;have G9:=yA g9;clear r9 g9)
    exact J141 _
  ·obtain rfl:i=l.length:=by omega
   have hd:=HD.out;rw[xO] at hd;simp only[St.zT] at hd;exact J149 _
theorem zQ0(l:List St):zDf l:=by
 have key:∀x:St,zDf x.thn/\zDf x.els:=λx=>St.ind (P:=λx=>zDf x.thn/\zDf x.els) (λk r o x c t e h1 h2=>⟨zFJ t h1,zFJ e h2⟩) x
 exact zFJ l (λy _=>key y)
