/- Layer D: texts joined. -/
import Derived.Test.YtoapgjjepiopbaaGreatDoorD07
set_option linter.all false
set_option maxHeartbeats 2000000
set_option maxRecDepth 8000
namespace Go.Proofs.YtoapgjjepiopbaaGreatDoor
open Go.RowKit
abbrev vN:=@Go.wrap_small
theorem J6(P:Prop) (h:P:=by
 have R39:Hid (zB w9 b3 [.func (.func 134) #[] #[.pointer (some ⟨c,0,none⟩)],.func (.func 136) #[] #[.pointer (some ⟨c,0,none⟩)]]):=R38.out.keeps G9.out (λe=>HNE.out e);obtain⟨y0,y1,y2,y3,y4,y5,y6,y7,y8,y9⟩:=R79.out.ten;have q0:=R39.out.cell (k:=0) (v:=.func (.func 134) #[] #[.pointer (some ⟨c,0,none⟩)]) rfl;have q1:=R39.out.cell (k:=1) (v:=.func (.func 136) #[] #[.pointer (some ⟨c,0,none⟩)]) rfl;obtain⟨v3,hv3⟩:=eX (α:=Bool) ((v2&&St.zA9 l[i].thn));have HV3:=yA hv3;go_upto_region 8 with(go_at_call 191;refine(HT.out _ v2 trivial KR9.out R9.out).mono ?_;rintro e w10 ⟨rfl,r10,g10⟩;rw[<-hv3] at r10;have R10:=yA r10;have G10:=yA g10;clear r10 g10)
 clear hv3 y0 y1 y2 y3 y4 y5 y6 y7 y8 y9 q0 q1;have KR10:Hid (Keeps (λq=>q=c) wr w10):=KR9.out.trans G10.out (λ_ _ h=>h);obtain⟨y0,y1,y2,y3,y4,y5,y6,y7,y8,y9⟩:=(R79.out.keeps G10.out (λe=>HN7.out e)).ten;have r3:=R39.out.keeps G10.out (λe=>HNE.out e);have q0:=r3.cell (k:=0) (v:=.func (.func 134) #[] #[.pointer (some ⟨c,0,none⟩)]) rfl;have q1:=r3.cell (k:=1) (v:=.func (.func 136) #[] #[.pointer (some ⟨c,0,none⟩)]) rfl;clear r3;obtain⟨v4,hv4⟩:=eX (α:=Bool) ((v3&&St.zA9 l[i].els));have HV4:=yA hv4;go_wp2_with (go_at_call 191;refine(HE.out _ v3 trivial KR10.out R10.out).mono ?_;rintro e w11 ⟨rfl,r11,g11⟩;rw[<-hv4] at r11;have R11:=yA r11;have G11:=yA g11;clear r11 g11)
 have HDN:Hid ((v4&&St.zA9 (l.drop (i+1)))=tot):=by
  show _=_
  have h1:=HDD.out;rw[HTHE.out] at h1;rw[HV4.out,HV3.out,HV2.out,HV1.out];rw[<-h1];simp[Bool.and_assoc]
 go_roundw
 case rel=>exact⟨i+1,v4,by omega,by go_num,R11,HDN,HK.out.trans (KR10.out.trans G11.out (λ_ _ h=>h)) (λ_ _ h=>h)⟩
 case measure=>simp[intOf];omega):P:=h
theorem J14(P:Prop) (h:P:=by
 subst hd2;go_wp2_with fail
 go_end0
 exact⟨rfl,HV.out,(K1.out.mono (S:=λq=>q=c) (λ_ _ h=>False.elim h)).trans HK.out (λ_ _ h=>h)⟩):P:=h
theorem J23(P:Prop) (h:P:=by
 have K7:=yA hk7;clear hr7 hk7 r3 hb7 d0 d1 d2 d3 c3;go_wp2_with (go_at_call 227;refine(HC.out _ K7.out).mono ?_;rintro e w8 ⟨rfl,r8,g8⟩;have R8:=yA r8;have G8:=yA g8;clear r8 g8)
 go_roundw
 case rel=>exact⟨i+1,v2,by omega,by go_num,R8,HD2,(HK.out.trans K7.out (λ_ _ h=>False.elim h)).trans G8.out (λ_ _ h=>h)⟩
 case measure=>simp[intOf];omega):P:=h
theorem J25(P:Prop) (h:P:=by
 have K7:=yA hk7;clear hr7 hk7 r3 hb7 d0 d1;go_wp2_with (go_at_call 191;refine(HS.out _ K7.out).mono ?_;rintro e w8 ⟨rfl,r8,g8⟩;have R8:=yA r8;have G8:=yA g8;clear r8 g8)
 go_roundw
 case rel=>exact⟨i+1,v1,by omega,by go_num,R8,HDN,(HK.out.trans K7.out (λ_ _ h=>False.elim h)).trans G8.out (λ_ _ h=>h)⟩
 case measure=>simp[intOf];omega):P:=h
theorem J87(P:Prop) (h:P:=by
 go_wp2_with fail
 go_end0
 exact⟨rfl,RC.out.set 0 (by simp) _,(K1.out.mono (S:=λq=>q=c) (λ_ _ h=>False.elim h)).setCell (p:=⟨c,0,none⟩) (λ_=>rfl) _⟩):P:=h
theorem J88(P:Prop) (h:P:=by
 go_end0
 exact⟨rfl,R2.out.set 0 (by simp) _,((K1.out.zC G1.out).mono (S:=λq=>q=c) (λ_ _ h=>False.elim h)).setCell (p:=⟨c,0,none⟩) (λ_=>rfl) _⟩):P:=h
theorem J139(P:Prop) (h:P:=by
 clear hv2 y0 y1 y2 y3 y4 y5 y6 y7 y8 y9 q0 q1;have KR9:Hid (Keeps (λq=>q=c) wr w9):=KR8.out.trans G9.out (λ_ _ h=>h);have R79:Hid (zB w9 b7 [x0,x1,x2,x3,x4,x5,.slice xa x6 xc,x7,.slice ta x8 tc,.slice ea x9 ec]):=R78.out.keeps G9.out (λe=>HN7.out e);exact J6 _):P:=h
theorem J174(P:Prop)(h:P:=by rw[hb7];exact yK (yG wr _)):P:=h
theorem J187(P:Prop)(h:P:=by have e':q=c:=e;rw[<-e'];exact hq):P:=h
theorem J189(P:Prop)(h:P:=by rw[hb4];exact yK (zAH w _ _)):P:=h
def zL7(s:ByteArray):Prop:=s=xNm\/s=zw
def kOk(k:Int):Prop:=-9223372036854775808<=k/\k<9223372036854775808
mutual
def Ex.nice:Ex->Prop
 | .mk k _ nm l=>(k=2->zL7 nm)/\Ex.zBg l
def Ex.zBg:List Ex->Prop
 | []=>True
 | x :: r=>Ex.nice x/\Ex.zBg r
end
mutual
def St.nice:St->Prop
 | .mk k r n x _ t e=>kOk k/\zL7 r/\zL7 n/\x.nice/\St.zBg t/\St.zBg e
def St.zBg:List St->Prop
 | []=>True
 | x :: r=>St.nice x/\St.zBg r
end
mutual
def Ac.kinds:Ac->Prop
 | .mk k _ _ _ _ t e=>kOk k/\Ac.zBe t/\Ac.zBe e
def Ac.zBe:List Ac->Prop
 | []=>True
 | x :: r=>Ac.kinds x/\Ac.zBe r
end
theorem Ex.nice.kind{x:Ex}(h:x.nice):x.kind=2->x.nm=xNm\/x.nm=zw:=by
 cases x;simp only[Ex.nice] at h;exact h.1
theorem Ex.nice.args{x:Ex}(h:x.nice):Ex.zBg x.args:=by
 cases x;simp only[Ex.nice] at h;exact h.2
theorem Ex.zDv{l:List Ex}(h:Ex.zBg l){y:Ex}(hy:y∈l):y.nice:=by
 induction l with
 | nil=>cases hy
 | cons x r ih =>
   simp only[Ex.zBg] at h;rcases xU.1 hy with e|e
   ·subst e;exact h.1
   ·exact ih h.2 e
theorem St.zDv{l:List St}(h:St.zBg l){y:St}(hy:y∈l):y.nice:=by
 induction l with
 | nil=>cases hy
 | cons x r ih =>
   simp only[St.zBg] at h;rcases xU.1 hy with e|e
   ·subst e;exact h.1
   ·exact ih h.2 e
theorem St.zLG{x:St}(h:x.nice):kOk x.kind/\zL7 x.reg/\zL7 x.name/\x.ex.nice/\St.zBg x.thn/\St.zBg x.els:=by
 cases x;simp only[St.nice] at h;exact h
theorem zFc(n i:Int):zL7 (nameAt n i):=by
 unfold nameAt;split
 ·exact .inl rfl
 ·exact .inr rfl
mutual
theorem Ex.zDR(regs:Int):(x:Ex)->(x.named regs).nice
 | .mk k num nm l=>by
   have h:=Ex.zBP regs l;simp only[Ex.named,Ex.nice];refine⟨λhk=>?_,h⟩
   rw[if_pos hk];split
   ·exact zFc _ _
   ·exact .inr rfl
theorem Ex.zBP(regs:Int):(l:List Ex)->Ex.zBg (Ex.zS regs l)
 | []=>trivial
 | x :: r=>by
   have h1:=Ex.zDR regs x;have h2:=Ex.zBP regs r;simp only[Ex.zS,Ex.zBg];exact⟨h1,h2⟩
end
mutual
theorem Ac.zDR(u:Un)(regs:Int):(x:Ac)->x.kinds->(x.named u regs).nice
 | .mk k reg obj ex c t e,h=>by
   simp only[Ac.kinds] at h;have h1:=Ac.zBP u regs t h.2.1;have h2:=Ac.zBP u regs e h.2.2;simp only[Ac.named,St.nice];refine⟨?_,?_,?_,Ex.zDR regs ex,h1,h2⟩
   ·unfold zCY
    split
    ·exact⟨by decide,by decide⟩
    ·exact h.1
   ·split
    ·exact zFc _ _
    ·exact .inr rfl
   ·unfold stName
    split
    ·exact zFc _ _
    ·exact .inr rfl
theorem Ac.zBP(u:Un)(regs:Int):(l:List Ac)->Ac.zBe l->St.zBg (Ac.zS u regs l)
 | [],_=>trivial
 | x :: r,h=>by
   simp only[Ac.zBe] at h;have h1:=Ac.zDR u regs x h.1;have h2:=Ac.zBP u regs r h.2;simp only[Ac.zS,St.zBg];exact⟨h1,h2⟩
end
theorem zKj(x:St)(hn:x.nice)(w:World)(xa ta ea:Option Addr)(xc tc ec:Nat):
 Calls Tryz.prog 135 #[stV x xa xc ta tc ea ec] w λe w'=>e=.returned (.bool (zG5 x.kind x.reg x.name x.ex x.count x.thn.length x.els.length))/\Keeps zA w w':=by
 obtain⟨h1,h2,h3,_⟩:=St.zLG hn
 have e1:(x.ex.kind==0&&x.ex.num==0&&ze x.ex.nm&&x.ex.args.length==0)=x.ex.none:=by
  obtain⟨k,r,o,⟨a,b,c,l⟩,cn,t,e⟩:=x;show(a==0&&b==0&&ze c&&l.length==0)=(a==0&&b==0&&ze c&&l.isEmpty)
  cases l <;> simp
 exact zJW x.kind x.ex.kind x.ex.num x.count x.reg x.name x.ex.nm xa ta ea x.ex.args.length xc x.thn.length tc x.els.length ec (decide (1<=x.kind/\x.kind<=11)) (fields x.kind).reg (fields x.kind).name (fields x.kind).ex (fields x.kind).count (fields x.kind).thn (fields x.kind).els
  (zCV x.reg (fields x.kind).reg) (zCV x.name (fields x.kind).name) x.ex.none (x.count==0 || (fields x.kind).count&&decide (0<x.count)&&decide (x.count<=1000)) _ w
  (λW g h=>zKX x.kind h1 W g h) (λW=>zNG _ h2 _ W) (λW=>zNG _ h3 _ W) e1.symm rfl rfl
theorem zRy(x:Ex)(hn:x.nice)(w:World)(ad:Option Addr)(cap c:Nat)(d:Int)(b:Bool)(h:zB w c [b]):
 Calls Tryz.prog 136 #[exV x ad cap,d,.pointer (some ⟨c,0,none⟩)] w λe w'=>e=.returned (.tuple #[])/\zB w' c [.bool (b&&zAv x.kind x.num x.nm x.args.length)]/\Keeps (λq=>q=c) w w':=by
 have HX:Hid (∀W,Calls Tryz.prog 137 #[.agg #[x.kind,x.num,x.nm,.slice ad x.args.length cap]] W λe w'=>e=.returned (.bool (zAv x.kind x.num x.nm x.args.length))/\Keeps zA W w'):=λW=>zKf x hn.kind W ad cap
 show Calls _ _ #[.agg #[x.kind,x.num,x.nm,.slice ad x.args.length cap],_,_] _ _
 obtain⟨q,hq⟩:=eX (zAv x.kind x.num x.nm x.args.length);rw[<-hq] at HX ⊢;generalize x.kind=x0 at HX ⊢;generalize x.num=x1 at HX ⊢;generalize x.nm=x2 at HX ⊢;generalize x.args.length=x3 at HX ⊢;clear hq;have HC:=yA h;have hlt:=h.lt (by simp);clear h;go_enter Tryz.func136,Tryz.ntmps136
 go_upto_region 1 with fail
 obtain⟨b1,hb1⟩:=eX w.heap.size;have hr1:zB (w.alloc (.cells #[x0,x1,x2,.slice ad x3 cap] 144)) b1 [.int .i64 x0,.int .i64 x1,.string x2,.slice ad x3 cap]:=J169 _;have hk1:Keeps zA w (w.alloc (.cells #[x0,x1,x2,.slice ad x3 cap] 144)):=(yB _ _).alloc _;rw[<-hb1];generalize w.alloc (.cells #[x0,x1,x2,.slice ad x3 cap] 144)=w1 at hr1 hk1 ⊢;have rc:=HC.out.keeps hk1 (λh=>h);have cc:=rc.cell (k:=0) (v:=.bool b) rfl;have fc:=rc.free (k:=0) (by simp);obtain⟨d0,d1,d2,d3⟩:=hr1.four;have RC:=yA rc;have K1:=yA hk1;clear hr1 hk1 hb1 rc;cases b
 ·exact J87 _
 ·go_wp2_with (go_at_call 137;refine(HX.out _).mono ?_;rintro e w2 ⟨rfl,g1⟩;have r2:=RC.out.keeps g1 (λh=>h);have cc2:=r2.cell (k:=0) (v:=.bool true) rfl;have fc2:=r2.free (k:=0) (by simp);have R2:=yA r2;have G1:=yA g1;clear g1 r2 cc fc)
  exact J88 _
theorem zRP(x:St)(hn:x.nice)(w:World)(xa ta ea:Option Addr)(xc tc ec c:Nat)(d:Int)(b:Bool)(h:zB w c [b]):
 Calls Tryz.prog 134 #[stV x xa xc ta tc ea ec,d,.pointer (some ⟨c,0,none⟩)] w λe w'=>e=.returned (.tuple #[])/\zB w' c [.bool (b&&zG5 x.kind x.reg x.name x.ex x.count x.thn.length x.els.length)]/\Keeps (λq=>q=c) w w':=by
 have HX:=yA (λW=>zKj x hn W xa ta ea xc tc ec);obtain⟨q,hq⟩:=eX (zG5 x.kind x.reg x.name x.ex x.count x.thn.length x.els.length);rw[<-hq] at HX ⊢;unfold stV at HX ⊢;generalize x.kind=x0 at HX ⊢;generalize x.reg=x1 at HX ⊢;generalize x.name=x2 at HX ⊢;generalize x.ex.kind=x3 at HX ⊢;generalize x.ex.num=x4 at HX ⊢;generalize x.ex.nm=x5 at HX ⊢;generalize x.ex.args.length=x6 at HX ⊢;generalize x.count=x7 at HX ⊢;generalize x.thn.length=x8 at HX ⊢;generalize x.els.length=x9 at HX ⊢;clear hq;have HC:=yA h;have hlt:=h.lt (by simp);clear h;go_enter Tryz.func134,Tryz.ntmps134
 go_upto_region 1 with fail
 obtain⟨b1,hb1⟩:=eX w.heap.size;have hr1:zB (w.alloc (.cells #[x0,x1,x2,x3,x4,x5,.slice xa x6 xc,x7,.slice ta x8 tc,.slice ea x9 ec] 191)) b1 [.int .i64 x0,.string x1,.string x2,.int .i64 x3,.int .i64 x4,.string x5,.slice xa x6 xc,.int .i64 x7,.slice ta x8 tc,.slice ea x9 ec]:=J169 _;have hk1:Keeps zA w (w.alloc (.cells #[x0,x1,x2,x3,x4,x5,.slice xa x6 xc,x7,.slice ta x8 tc,.slice ea x9 ec] 191)):=(yB _ _).alloc _;rw[<-hb1];generalize w.alloc (.cells #[x0,x1,x2,x3,x4,x5,.slice xa x6 xc,x7,.slice ta x8 tc,.slice ea x9 ec] 191)=w1 at hr1 hk1 ⊢;have rc:=HC.out.keeps hk1 (λh=>h);have cc:=rc.cell (k:=0) (v:=.bool b) rfl;have fc:=rc.free (k:=0) (by simp);obtain⟨d0,d1,d2,d3,d4,d5,d6,d7,d8,d9⟩:=hr1.ten;have RC:=yA rc;have K1:=yA hk1;clear hr1 hk1 hb1 rc;cases b
 ·exact J87 _
 ·go_wp2_with (go_at_call 135;refine(HX.out _).mono ?_;rintro e w2 ⟨rfl,g1⟩;have r2:=RC.out.keeps g1 (λh=>h);have cc2:=r2.cell (k:=0) (v:=.bool true) rfl;have fc2:=r2.free (k:=0) (by simp);have R2:=yA r2;have G1:=yA g1;clear g1 r2 cc fc)
  exact J88 _
theorem zOf:∀(x:Ex),x.nice->∀(w:World)(F:Nat->Prop)(ad:Option Addr)(cap c d:Nat)(b:Bool),zR w F x.args ad->¬F c->zB w c [(.bool b)]->d+x.cnt<1000000000 →
 Calls Tryz.prog 227 #[.agg #[.func (.func 134) #[] #[.pointer (some ⟨c,0,none⟩)],.func (.func 136) #[] #[.pointer (some ⟨c,0,none⟩)]],exV x ad cap,d] w λe w'=>e=.returned (.tuple #[])/\zB w' c [(.bool ((b&&Ex.zDG x)))]/\Keeps (λq=>q=c) w w':=by
 refine Ex.ind (λk num nm l ih hn w F ad cap c d b h hF hc hb=>?_)
 have HL:Hid (zR w F l ad):=h;have IH:=yA ih;have HF:=yA hF;have HCR:=yA hc;have HN:Hid (Ex.zBg l):=hn.args;have hl:=Ex.zAe l;have hcn:Ex.cnt (.mk k num nm l)=1+Ex.zT l:=by simp[Ex.cnt]
 rw[hcn] at hb;have hb2:l.length<1000000000:=by omega
 have hd2:d<1000000000:=by omega
 have HB:=yA hb;obtain⟨tot,ht⟩:=eX (α:=Bool) ((b&&Ex.zDG (Ex.mk k num nm l)))
 have HT:Hid (((b&&zAv k num nm l.length)&&Ex.zDL l)=tot):=by
  show _=_
  rw[ht];simp only[Ex.zDG,Bool.and_assoc]
 rw[<-ht];have HCL:Hid (∀W,zB W c [(.bool b)]->Calls Tryz.prog 136 #[.agg #[k,num,nm,.slice ad l.length cap],d,.pointer (some ⟨c,0,none⟩)] W λe w'=>e=.returned (.tuple #[])/\zB w' c [(.bool (b&&zAv k num nm l.length))]/\Keeps (λq=>q=c) W w'):=λW h=>zRy (.mk k num nm l) hn W ad cap c d b h
 have hlt0:=hc.lt (by simp);have hlt:=yA hlt0;clear h hF hc ih hl hcn hb ht hlt0 hn;show Calls _ _ #[_,.agg #[k,num,nm,.slice ad l.length cap],_] _ _
 have hw:IntKind.i64.wrap ((d:Int)+1)=(d:Int)+1:=vN _ (by omega) (by omega);go_enter Tryz.func227,Tryz.ntmps227
 go_upto_region 1 with fail
 obtain⟨b3,hb3⟩:=eX w.heap.size;obtain⟨b4,hb4⟩:=eX (w.heap.size+1);have hr3:zB ((w.alloc (.cells #[.func (.func 134) #[] #[.pointer (some ⟨c,0,none⟩)],.func (.func 136) #[] #[.pointer (some ⟨c,0,none⟩)]] 234)).alloc (.cells #[k,num,nm,.slice ad l.length cap] 144)) b3 [.func (.func 134) #[] #[.pointer (some ⟨c,0,none⟩)],.func (.func 136) #[] #[.pointer (some ⟨c,0,none⟩)]]:=J178 _;have hr4:zB ((w.alloc (.cells #[.func (.func 134) #[] #[.pointer (some ⟨c,0,none⟩)],.func (.func 136) #[] #[.pointer (some ⟨c,0,none⟩)]] 234)).alloc (.cells #[k,num,nm,.slice ad l.length cap] 144)) b4 [.int .i64 k,.int .i64 num,.string nm,.slice ad l.length cap]:=J189 _;have hk1:Keeps zA w ((w.alloc (.cells #[.func (.func 134) #[] #[.pointer (some ⟨c,0,none⟩)],.func (.func 136) #[] #[.pointer (some ⟨c,0,none⟩)]] 234)).alloc (.cells #[k,num,nm,.slice ad l.length cap] 144)):=((yB _ _).alloc _).alloc _;rw[<-hb4,<-hb3];generalize (w.alloc (.cells #[.func (.func 134) #[] #[.pointer (some ⟨c,0,none⟩)],.func (.func 136) #[] #[.pointer (some ⟨c,0,none⟩)]] 234)).alloc (.cells #[k,num,nm,.slice ad l.length cap] 144)=w1 at hr3 hr4 hk1 ⊢;have HNE:Hid (b3≠c/\b4≠c):=⟨by have:=hlt.out;omega,by have:=hlt.out;omega⟩;have R3:=yA hr3;have R4:=yA hr4;have K1:=yA hk1;have RC:Hid (zB w1 c [(.bool b)]):=HCR.out.keeps hk1 (λh=>h);have y0:=hr3.cell (k:=1) (v:=.func (.func 136) #[] #[.pointer (some ⟨c,0,none⟩)]) rfl;obtain⟨d0,d1,d2,d3⟩:=hr4.four;clear hr3 hr4 hk1 hb3 hb4;go_upto_region 2 with(go_at_call 136;refine(HCL.out _ RC.out).mono ?_;rintro e w2 ⟨rfl,r2,g2⟩;have R2:=yA r2;have G2:=yA g2;clear r2 g2)
 have c3:=(R4.out.keeps G2.out (λe=>HNE.out.2 e)).cell (k:=3) (v:=.slice ad l.length cap) rfl;clear d0 d1 d2 d3 y0 RC HCL HCR;go_wp2_with fail
 go_loopw [16] (λiv wr=>∃(i:Nat)(v:Bool),i<=l.length/\iv=.int .i64 i/\Hid (zB wr c [(.bool v)])/\Hid ((v&&Ex.zDL (l.drop i))=tot)/\Hid (Keeps (λq=>q=c) w1 wr)) (λiv _=>l.length-(intOf iv).toNat)
 case atStart=>exact⟨0,(b&&zAv k num nm l.length),yF _,rfl,R2,by show _=_;rw[yU];exact HT.out,G2⟩
 case round =>
  obtain⟨i,v,hi,rfl,HV,HD,HK⟩:=hrel;by_cases hlt:i<l.length
  ·have i1:(0:Int)<=i:=by omega
   have i2:(i:Int)<l.length:=by omega
   have hd:=HD.out;rw[drop_at hlt] at hd;simp only[Ex.zDL] at hd;have hFc:∀q,F q->¬(λq=>q=c) q:=λq hq e=>HF.out (J187 _)
   obtain⟨g,o,a,ca,e1,hg,d0,d1,d2,d3,hx⟩:=((HL.out.keeps K1.out (λ_ _ h=>h):zR w1 F l ad).keeps HK.out hFc).at hlt;subst e1
   have HC:Hid (∀W,Keeps zA wr W->Calls Tryz.prog 227 #[.agg #[.func (.func 134) #[] #[.pointer (some ⟨c,0,none⟩)],.func (.func 136) #[] #[.pointer (some ⟨c,0,none⟩)]],.agg #[.int .i64 l[i].kind,.int .i64 l[i].num,.string l[i].nm,.slice a l[i].args.length ca],.int .i64 ((d:Int)+1)] W λe w'=>e=.returned (.tuple #[])/\zB w' c [(.bool ((v&&Ex.zDG l[i])))]/\Keeps (λq=>q=c) W w'):=λW hk=>by
    have e:((d+1:Nat):Int)=(d:Int)+1:=by omega
    rw[<-e];have hcl:=Ex.zCP (yI hlt);have hbt:=HB.out;exact IH.out _ (yI hlt) (Ex.zDv HN.out (yI hlt)) W F a ca c (d+1) v (hx.keeps hk (λ_ _ h=>h)) HF.out (HV.out.keeps hk (λh=>h)) (by omega)
   obtain⟨v2,hv2⟩:=eX (α:=Bool) ((v&&Ex.zDG l[i]))
   have HD2:Hid ((v2&&Ex.zDL (l.drop (i+1)))=tot):=by
    show _=_
    rw[hv2,<-hd];rw[Bool.and_assoc]
   rw[<-hv2] at HC;clear hx hFc hd hv2;generalize l[i].kind=x0 at d0 HC;generalize l[i].num=x1 at d1 HC;generalize l[i].nm=x2 at d2 HC;generalize l[i].args.length=x3 at d3 HC;go_upto_region 5 with fail
   obtain⟨b7,hb7⟩:=eX wr.heap.size;have hr7:zB (wr.alloc (.cells #[x0,x1,x2,.slice a x3 ca] 144)) b7 [.int .i64 x0,.int .i64 x1,.string x2,.slice a x3 ca]:=J174 _;have hk7:Keeps zA wr (wr.alloc (.cells #[x0,x1,x2,.slice a x3 ca] 144)):=(yB _ _).alloc _;rw[<-hb7];generalize wr.alloc (.cells #[x0,x1,x2,.slice a x3 ca] 144)=w7 at hr7 hk7 ⊢;obtain⟨y0,y1,y2,y3⟩:=hr7.four;have r3:=(R3.out.keeps HK.out (λe=>HNE.out.1 e)).keeps hk7 (λh=>h);have q0:=r3.cell (k:=0) (v:=.func (.func 134) #[] #[.pointer (some ⟨c,0,none⟩)]) rfl;have q1:=r3.cell (k:=1) (v:=.func (.func 136) #[] #[.pointer (some ⟨c,0,none⟩)]) rfl;exact J23 _
  ·obtain rfl:i=l.length:=by omega
   have hd:=HD.out;rw[xO] at hd;simp only[Ex.zDL] at hd;have hd2:v=tot:=by rw[<-hd];simp
   exact J14 _
end Go.Proofs.YtoapgjjepiopbaaGreatDoor
namespace Go.Proofs.YtoapgjjepiopbaaGreatDoor
theorem Ex.zGG(x:Ex):x.there=(x.kind != 0 || x.args.length != 0):=by
 obtain⟨k,n,s,l⟩:=x;show(k != 0 || !l.isEmpty)=(k != 0 || l.length != 0)
 cases l <;> simp
theorem St.zOi(x:St):x.form=(zG5 x.kind x.reg x.name x.ex x.count x.thn.length x.els.length&&(!x.ex.there || x.ex.zDG)&&St.zA9 x.thn&&St.zA9 x.els):=by
 cases x;simp only[St.form,St.kind,St.reg,St.name,St.ex,St.count,St.thn,St.els]
theorem St.zEM(x:St):x.cnt=1+(if x.ex.there then x.ex.cnt else 0)+St.zT x.thn+St.zT x.els:=by
 cases x;simp only[St.cnt];rfl
theorem St.zK0(d:Nat)(x:St):x.deep d=max (max d (if x.ex.there then x.ex.dep else 0)) (max (St.zu (d+1) x.thn) (St.zu (d+1) x.els)):=by
 cases x;simp only[St.deep];rfl
mutual
theorem St.zN3:(x:St)->x.cnt<=x.sz
 | .mk k r n x c t e=>by
   have h1:=St.zDO t;have h2:=St.zDO e;simp only[St.cnt,St.sz];split <;> omega
theorem St.zDO:(l:List St)->St.zT l<=St.szL l
 | []=>yT _
 | x :: r=>by
   have h1:=St.zN3 x;have h2:=St.zDO r;simp only[St.zT,St.szL];omega
end
mutual
theorem St.zPc(d:Nat):(x:St)->x.deep d<=d+x.sz
 | .mk k r n x c t e=>by
   have h1:=St.zCn (d+1) t;have h2:=St.zCn (d+1) e;have h3:=Ex.zH8 x;simp only[St.deep,St.sz];split <;> omega
theorem St.zCn(d:Nat):(l:List St)->St.zu d l<=d+St.szL l
 | []=>by simp only[St.zu];omega
 | x :: r=>by
   have h1:=St.zPc d x;have h2:=St.zCn d r;simp only[St.zu,St.szL];omega
end
theorem St.room:∀(i:Nat)(l:List St),St.zT l+St.szL (l.drop i)<=St.szL l+St.zT (l.drop i)
 | 0,l=>by rw[yU];omega
 | i+1,[]=>by simp[St.zT,St.szL]
 | i+1,x :: r=>by
   have h1:=St.room i r;have h2:=St.zN3 x;rw[yZ];simp only[St.zT,St.szL];omega
end Go.Proofs.YtoapgjjepiopbaaGreatDoor
namespace Go.Proofs.YtoapgjjepiopbaaGreatDoor
open Go.RowKit
def zDh(l:List St):Prop:=∀(w:World)(F:Nat->Prop)(ad:Option Addr)(cap c d:Nat)(b:Bool),zx w F l ad->St.zBg l->¬F c->zB w c [(.bool b)]->d+St.szL l<1000000000 →
 Calls Tryz.prog 191 #[.agg #[.func (.func 134) #[] #[.pointer (some ⟨c,0,none⟩)],.func (.func 136) #[] #[.pointer (some ⟨c,0,none⟩)]],.slice ad l.length cap,d] w λe w'=>e=.returned (.tuple #[])/\zB w' c [(.bool (b&&St.zA9 l))]/\Keeps (λq=>q=c) w w'
theorem zFK(l:List St)(ih:∀y,y∈l->zDh y.thn/\zDh y.els):zDh l:=by
 intro w F ad cap c d b h hnn hF hc hb
 have HL:=yA h;have IH:=yA ih;have HF:=yA hF;have HCR:=yA hc;have HN:=yA hnn;have hl:=St.zAe l;have hb2:l.length<1000000000:=by omega
 have hd2:d<1000000000:=by omega
 have HB:=yA hb;obtain⟨tot,ht⟩:=eX (α:=Bool) ((b&&St.zA9 l));have HT0:=yA ht;rw[<-ht];have hlt0:=hc.lt (by simp);have hlt:=yA hlt0;clear h hF hc ih hl hb ht hlt0 hnn;have hw:IntKind.i64.wrap ((d:Int)+1)=(d:Int)+1:=vN _ (by omega) (by omega);go_enter Tryz.func191,Tryz.ntmps191
 go_upto_region 1 with fail
 obtain⟨b3,hb3⟩:=eX w.heap.size;have hr3:zB (w.alloc (.cells #[.func (.func 134) #[] #[.pointer (some ⟨c,0,none⟩)],.func (.func 136) #[] #[.pointer (some ⟨c,0,none⟩)]] 234)) b3 [.func (.func 134) #[] #[.pointer (some ⟨c,0,none⟩)],.func (.func 136) #[] #[.pointer (some ⟨c,0,none⟩)]]:=J186 _;have hk1:Keeps zA w (w.alloc (.cells #[.func (.func 134) #[] #[.pointer (some ⟨c,0,none⟩)],.func (.func 136) #[] #[.pointer (some ⟨c,0,none⟩)]] 234)):=(yB _ _).alloc _;rw[<-hb3];generalize w.alloc (.cells #[.func (.func 134) #[] #[.pointer (some ⟨c,0,none⟩)],.func (.func 136) #[] #[.pointer (some ⟨c,0,none⟩)]] 234)=w1 at hr3 hk1 ⊢;have HNE:Hid (b3≠c):=by show _≠_;have:=hlt.out;omega
 have R3:=yA hr3;have K1:=yA hk1;have RC:Hid (zB w1 c [(.bool b)]):=HCR.out.keeps hk1 (λh=>h);have HLC:Hid (c<w1.heap.size):=RC.out.lt (by simp);clear hr3 hk1 hb3 HCR;go_wp2_with fail
 go_loopw [10] (λiv wr=>∃(i:Nat)(v:Bool),i<=l.length/\iv=.int .i64 i/\Hid (zB wr c [(.bool v)])/\Hid ((v&&St.zA9 (l.drop i))=tot)/\Hid (Keeps (λq=>q=c) w1 wr)) (λiv _=>l.length-(intOf iv).toNat)
 case atStart=>exact⟨0,b,yF _,rfl,RC,by show _=_;rw[yU];exact HT0.out.symm,yB _ _⟩
 case round =>
  obtain⟨i,v,hi,rfl,HV,HD,HK⟩:=hrel;by_cases hlt:i<l.length
  ·have i1:(0:Int)<=i:=by omega
   have i2:(i:Int)<l.length:=by omega
   have hd:=HD.out;rw[drop_at hlt] at hd;simp only[St.zA9,St.zOi] at hd;have hFc:∀q,F q->¬(λq=>q=c) q:=λq hq e=>HF.out (J187 _)
   obtain⟨g,o,xa,xc,ta,tc,ea,ec,e1,hg,d0,d1,d2,d3,d4,d5,d6,d7,d8,d9,hx,hxt,hxe⟩:=((HL.out.keeps K1.out (λ_ _ h=>h):zx w1 F l ad).keeps HK.out hFc).at hlt;subst e1;have hsz:=St.zCI (yI hlt);rw[St.zCZ] at hsz;have hB:=HB.out;have hni:=St.zLG (St.zDv HN.out (yI hlt));have hnx:=St.zDv HN.out (yI hlt);obtain⟨v1,hv1⟩:=eX (α:=Bool) ((v&&zG5 l[i].kind l[i].reg l[i].name l[i].ex l[i].count l[i].thn.length l[i].els.length))
   have HS:Hid (∀W,zB W c [(.bool v)]->Calls Tryz.prog 134 #[.agg #[.int .i64 l[i].kind,.string l[i].reg,.string l[i].name,.int .i64 l[i].ex.kind,.int .i64 l[i].ex.num,.string l[i].ex.nm,.slice xa l[i].ex.args.length xc,.int .i64 l[i].count,.slice ta l[i].thn.length tc,.slice ea l[i].els.length ec],d,.pointer (some ⟨c,0,none⟩)] W λe w'=>e=.returned (.tuple #[])/\zB w' c [(.bool v1)]/\Keeps (λq=>q=c) W w'):=by
    rw[hv1];exact λW h=>zRP l[i] hnx W xa ta ea xc tc ec c d v h
   have HX:Hid (∀W,Keeps (λq=>q=c) wr W->zB W c [(.bool v1)]->Calls Tryz.prog 227 #[.agg #[.func (.func 134) #[] #[.pointer (some ⟨c,0,none⟩)],.func (.func 136) #[] #[.pointer (some ⟨c,0,none⟩)]],.agg #[.int .i64 l[i].ex.kind,.int .i64 l[i].ex.num,.string l[i].ex.nm,.slice xa l[i].ex.args.length xc],(1:Int)] W λe w'=>e=.returned (.tuple #[])/\zB w' c [(.bool (v1&&Ex.zDG l[i].ex))]/\Keeps (λq=>q=c) W w'):=λW hk h =>
    zOf l[i].ex hni.2.2.2.1 W F xa xc c 1 v1 (hx.keeps hk hFc) HF.out h (by omega)
   have hth:l[i].ex.there=(l[i].ex.kind != 0 || l[i].ex.args.length != 0):=Ex.zGG _
   have HT:Hid (∀W (s:Bool),True->Keeps (λq=>q=c) wr W->zB W c [(.bool s)]->Calls Tryz.prog 191 #[.agg #[.func (.func 134) #[] #[.pointer (some ⟨c,0,none⟩)],.func (.func 136) #[] #[.pointer (some ⟨c,0,none⟩)]],.slice ta l[i].thn.length tc,.int .i64 ((d:Int)+1)] W λe w'=>e=.returned (.tuple #[])/\zB w' c [(.bool (s&&St.zA9 l[i].thn))]/\Keeps (λq=>q=c) W w'):=λW s hs hk h=>by
    have e:((d+1:Nat):Int)=(d:Int)+1:=by omega
    rw[<-e];exact(IH.out _ (yI hlt)).1 W F ta tc c (d+1) s (hxt.keeps hk hFc) hni.2.2.2.2.1 HF.out h (by omega)
   have HE:Hid (∀W (s:Bool),True->Keeps (λq=>q=c) wr W->zB W c [(.bool s)]->Calls Tryz.prog 191 #[.agg #[.func (.func 134) #[] #[.pointer (some ⟨c,0,none⟩)],.func (.func 136) #[] #[.pointer (some ⟨c,0,none⟩)]],.slice ea l[i].els.length ec,.int .i64 ((d:Int)+1)] W λe w'=>e=.returned (.tuple #[])/\zB w' c [(.bool (s&&St.zA9 l[i].els))]/\Keeps (λq=>q=c) W w'):=λW s hs hk h=>by
    have e:((d+1:Nat):Int)=(d:Int)+1:=by omega
    rw[<-e];exact(IH.out _ (yI hlt)).2 W F ea ec c (d+1) s (hxe.keeps hk hFc) hni.2.2.2.2.2 HF.out h (by omega)
   have HDD:=yA hd;have HV1:=yA hv1;have HTH:=yA hth;have hz3:l[i].ex.kind=0/\l[i].ex.args.length=0\/l[i].ex.kind=0/\0<l[i].ex.args.length\/¬l[i].ex.kind=0:=by omega
   obtain⟨th,hthe⟩:=eX (l[i].ex.there);have HTE:=yA hthe;rw[<-hthe] at hth;clear hx hxt hxe hFc hd hv1 hsz hB hthe hni hnx;generalize l[i].kind=x0 at d0 HS;generalize l[i].reg=x1 at d1 HS;generalize l[i].name=x2 at d2 HS;generalize l[i].ex.kind=x3 at d3 HS HX hth hz3;generalize l[i].ex.num=x4 at d4 HS HX;generalize l[i].ex.nm=x5 at d5 HS HX;generalize l[i].ex.args.length=x6 at d6 HS HX hth hz3;generalize l[i].count=x7 at d7 HS;generalize l[i].thn.length=x8 at d8 HS HT;generalize l[i].els.length=x9 at d9 HS HE;go_upto_region 4 with fail
   obtain⟨b7,hb7⟩:=eX wr.heap.size;have hr7:zB (wr.alloc (.cells #[x0,x1,x2,x3,x4,x5,.slice xa x6 xc,x7,.slice ta x8 tc,.slice ea x9 ec] 191)) b7 [.int .i64 x0,.string x1,.string x2,.int .i64 x3,.int .i64 x4,.string x5,.slice xa x6 xc,.int .i64 x7,.slice ta x8 tc,.slice ea x9 ec]:=J174 _;have hk7:Keeps zA wr (wr.alloc (.cells #[x0,x1,x2,x3,x4,x5,.slice xa x6 xc,x7,.slice ta x8 tc,.slice ea x9 ec] 191)):=(yB _ _).alloc _;have hn7:b7≠c:=by have:=HLC.out;have:=HK.out.size;omega
   rw[<-hb7];generalize wr.alloc (.cells #[x0,x1,x2,x3,x4,x5,.slice xa x6 xc,x7,.slice ta x8 tc,.slice ea x9 ec] 191)=w7 at hr7 hk7 ⊢;obtain⟨y0,y1,y2,y3,y4,y5,y6,y7,y8,y9⟩:=hr7.ten;have r3:=(R3.out.keeps HK.out (λe=>HNE.out e)).keeps hk7 (λh=>h);have q0:=r3.cell (k:=0) (v:=.func (.func 134) #[] #[.pointer (some ⟨c,0,none⟩)]) rfl;have q1:=r3.cell (k:=1) (v:=.func (.func 136) #[] #[.pointer (some ⟨c,0,none⟩)]) rfl;have K7:=yA hk7;have R7:=yA hr7;have R37:=yA r3;have HN7:=yA hn7;have RC7:Hid (zB w7 c [(.bool v)]):=HV.out.keeps hk7 (λh=>h);clear hr7 hk7 r3 hb7 hn7 d0 d1 d2 d3 d4 d5 d6 d7 d8 d9;go_upto_region 5 with(go_at_call 134;refine(HS.out _ RC7.out).mono ?_;rintro e w8 ⟨rfl,r8,g8⟩;have R8:=yA r8;have G8:=yA g8;clear r8 g8)
   have KR8:Hid (Keeps (λq=>q=c) wr w8):=(K7.out.mono (S:=λq=>q=c) (λ_ _ h=>False.elim h)).trans G8.out (λ_ _ h=>h);have R78:Hid (zB w8 b7 [x0,x1,x2,x3,x4,x5,.slice xa x6 xc,x7,.slice ta x8 tc,.slice ea x9 ec]):=R7.out.keeps G8.out (λe=>HN7.out e);have R38:Hid (zB w8 b3 [.func (.func 134) #[] #[.pointer (some ⟨c,0,none⟩)],.func (.func 136) #[] #[.pointer (some ⟨c,0,none⟩)]]):=R37.out.keeps G8.out (λe=>HNE.out e);clear y0 y1 y2 y3 y4 y5 y6 y7 y8 y9 q0 q1;obtain⟨y0,y1,y2,y3,y4,y5,y6,y7,y8,y9⟩:=R78.out.ten;have q0:=R38.out.cell (k:=0) (v:=.func (.func 134) #[] #[.pointer (some ⟨c,0,none⟩)]) rfl;have q1:=R38.out.cell (k:=1) (v:=.func (.func 136) #[] #[.pointer (some ⟨c,0,none⟩)]) rfl;clear HS;rcases hz3 with⟨hz,hzl⟩|⟨hz,hzl⟩|hz
   ·have hzi:(x6:Int)=0:=by omega
    have hTH:l[i].ex.there=false:=by rw[<-HTE.out,hth];simp[hz,hzl]
    have HTHE:=yA hTH;clear hTH hth;obtain⟨v2,hv2⟩:=eX (α:=Bool) v1;have HV2:=yA hv2;go_upto_region 7 with fail
    obtain⟨w9,hw9⟩:=eX w8;have G9:Hid (Keeps (λq=>q=c) w8 w9):=by show Keeps _ _ _;rw[hw9];exact yB _ _
    have R9:Hid (zB w9 c [(.bool v2)]):=by show zB _ _ _;rw[hw9,hv2];exact R8.out
    rw[<-hw9];clear hw9;exact J139 _
   ·have hzi:(0:Int)<x6:=by omega
    subst hz;have hTH:l[i].ex.there=true:=by rw[<-HTE.out,hth];simp;omega
    have HTHE:=yA hTH;clear hTH hth;obtain⟨v2,hv2⟩:=eX (α:=Bool) ((v1&&Ex.zDG l[i].ex));have HV2:=yA hv2;go_upto_region 7 with(go_at_call 227;refine(HX.out _ KR8.out R8.out).mono ?_;rintro e w9 ⟨rfl,r9,g9⟩;rw[<-hv2] at r9;have R9:=yA r9;have G9:=yA g9;clear r9 g9)
    clear hv2 y0 y1 y2 y3 y4 y5 y6 y7 y8 y9 q0 q1;have KR9:Hid (Keeps (λq=>q=c) wr w9):=KR8.out.trans G9.out (λ_ _ h=>h);have R79:Hid (zB w9 b7 [x0,x1,x2,(0:Int),x4,x5,.slice xa x6 xc,x7,.slice ta x8 tc,.slice ea x9 ec]):=R78.out.keeps G9.out (λe=>HN7.out e);exact J6 _
   ·have hzb:(x3==0)=false:=by simpa using hz
    have hTH:l[i].ex.there=true:=by rw[<-HTE.out,hth];simp[hz]
    have HTHE:=yA hTH;clear hTH hth;obtain⟨v2,hv2⟩:=eX (α:=Bool) ((v1&&Ex.zDG l[i].ex));have HV2:=yA hv2;go_upto_region 7 with(go_at_call 227;refine(HX.out _ KR8.out R8.out).mono ?_;rintro e w9 ⟨rfl,r9,g9⟩;rw[<-hv2] at r9;have R9:=yA r9;have G9:=yA g9;clear r9 g9)
    exact J139 _
  ·obtain rfl:i=l.length:=by omega
   have hd:=HD.out;rw[xO] at hd;simp only[St.zA9] at hd;have hd2:v=tot:=by rw[<-hd];simp
   exact J14 _
theorem zQv(l:List St):zDh l:=by
 have key:∀x:St,zDh x.thn/\zDh x.els:=λx=>St.ind (P:=λx=>zDh x.thn/\zDh x.els) (λk r o x c t e h1 h2=>⟨zFK t h1,zFK e h2⟩) x
 exact zFK l (λy _=>key y)
end Go.Proofs.YtoapgjjepiopbaaGreatDoor
namespace Go.Proofs.YtoapgjjepiopbaaGreatDoor
def zAn:List (List St)->Bool
 | []=>true
 | t :: r=>St.zA9 t&&zAn r
def zAF:List (List St)->Nat
 | []=>0
 | t :: r=>max (St.zu 1 t) (zAF r)
def zAO:List (List St)->Nat
 | []=>0
 | t :: r=>St.zT t+zAO r
def zBt:List (List St)->Nat
 | []=>0
 | t :: r=>1+St.szL t+zBt r
def zDS:List (List St)->Prop
 | []=>True
 | t :: r=>St.zBg t/\zDS r
theorem zDq{ts:List (List St)}{t:List St}(h:t∈ts):St.szL t<zBt ts:=by
 induction ts with
 | nil=>cases h
 | cons x r ih =>
   simp only[zBt];rcases xU.1 h with e|e
   ·subst e;omega
   ·have:=ih e;omega
theorem zJ8{ts:List (List St)}(hn:zDS ts){t:List St}(h:t∈ts):St.zBg t:=by
 induction ts with
 | nil=>cases h
 | cons x r ih =>
   simp only[zDS] at hn;rcases xU.1 h with e|e
   ·subst e;exact hn.1
   ·exact ih hn.2 e
theorem zFa(ts:List (List St)):zAF ts<=1+zBt ts:=by
 induction ts with
 | nil=>simp[zAF]
 | cons t r ih =>
   have:=St.zCn 1 t
   simp only[zAF,zBt];omega
theorem zIs(ts:List (List St)):zAO ts<=zBt ts:=by
 induction ts with
 | nil=>simp[zAO]
 | cons t r ih =>
   have:=St.zDO t
   simp only[zAO,zBt];omega
theorem zIk(ts:List (List St)):ts.length<=zBt ts:=by
 induction ts with
 | nil=>simp
 | cons t r ih=>simp only[zBt,xM];omega
theorem zM5:∀(i:Nat)(l:List (List St)),zAO l+zBt (l.drop i)<=zBt l+zAO (l.drop i)
 | 0,l=>by rw[yU];omega
 | i+1,[]=>by simp[zAO,zBt]
 | i+1,x :: r=>by
   have h1:=zM5 i r;have h2:=St.zDO x;rw[yZ];simp only[zAO,zBt];omega
def zAh(w:World)(F:Nat->Prop)(nm:ByteArray)(ts:List (List St))(ad:Option Addr):Prop:=
 ts.length<=1000/\∀i (hi:i<ts.length),∃g o ba bc,ad=some ⟨g,o,none⟩/\F g/\w.cell? ⟨g,o+i*2,none⟩=some (.string nm)/\w.cell? ⟨g,o+i*2+1,none⟩=some (.slice ba ts[i].length bc)/\zx w F ts[i] ba
theorem zAh.len{w:World}{F:Nat->Prop}{nm:ByteArray}{ts:List (List St)}{ad:Option Addr}(h:zAh w F nm ts ad):ts.length<=1000:=h.1
theorem zAh.at{w:World}{F:Nat->Prop}{nm:ByteArray}{ts:List (List St)}{ad:Option Addr}(h:zAh w F nm ts ad){i:Nat}(hi:i<ts.length):
 ∃g o ba bc,ad=some ⟨g,o,none⟩/\F g/\w.cell? ⟨g,o+i*2,none⟩=some (.string nm)/\w.cell? ⟨g,o+i*2+1,none⟩=some (.slice ba ts[i].length bc)/\zx w F ts[i] ba:=h.2 i hi
theorem zAh.keeps{S F:Nat->Prop}{w w':World}{nm:ByteArray}{ts:List (List St)}{ad:Option Addr}(h:zAh w F nm ts ad)(hk:Keeps S w w')(hS:∀k,F k->¬S k):zAh w' F nm ts ad:=by
 refine⟨h.1,λi hi=>?_⟩
 obtain⟨g,o,ba,bc,e,hg,c0,c1,hx⟩:=h.2 i hi;exact⟨g,o,ba,bc,e,hg,hk.cell (p:=⟨g,_,none⟩) (hS g hg) c0,hk.cell (p:=⟨g,_,none⟩) (hS g hg) c1,hx.keeps hk hS⟩
theorem zAh.mono{F F':Nat->Prop}{w:World}{nm:ByteArray}{ts:List (List St)}{ad:Option Addr}(h:zAh w F nm ts ad)(hF:∀k,F k->F' k):zAh w F' nm ts ad:=by
 refine⟨h.1,λi hi=>?_⟩
 obtain⟨g,o,ba,bc,e,hg,c0,c1,hx⟩:=h.2 i hi;exact⟨g,o,ba,bc,e,hF g hg,c0,c1,hx.mono hF⟩
end Go.Proofs.YtoapgjjepiopbaaGreatDoor
namespace Go.Proofs.YtoapgjjepiopbaaGreatDoor
open Go.RowKit
theorem zL3(nm:ByteArray)(ts:List (List St))(w:World)(F:Nat->Prop)(pca pma ta:Option Addr)(pcn pcc pmn pmc tc c:Nat)(b:Bool)(h:zAh w F nm ts ta)(hnn:zDS ts)(hF:¬F c)(hc:zB w c [(.bool b)])(hb:zBt ts<900000000):
 Calls Tryz.prog 138 #[.agg #[.func (.func 134) #[] #[.pointer (some ⟨c,0,none⟩)],.func (.func 136) #[] #[.pointer (some ⟨c,0,none⟩)]],.agg #[.slice pca pcn pcc,.slice pma pmn pmc,.slice ta ts.length tc]] w λe w'=>e=.returned (.tuple #[])/\zB w' c [(.bool (b&&zAn ts))]/\Keeps (λq=>q=c) w w':=by
 have HL:=yA h;have HF:=yA hF;have HCR:=yA hc;have HN:=yA hnn;have hl:ts.length<=1000000000:=by have:=h.len;omega
 have HB:=yA hb;obtain⟨tot,ht⟩:=eX (α:=Bool) ((b&&zAn ts));have HT0:=yA ht;rw[<-ht];have hlt0:=hc.lt (by simp);have hlt:=yA hlt0;clear h hF hc hb ht hlt0 hnn;go_enter Tryz.func138,Tryz.ntmps138
 go_upto_region 1 with fail
 obtain⟨b3,hb3⟩:=eX w.heap.size;obtain⟨b4,hb4⟩:=eX (w.heap.size+1);have hr3:zB ((w.alloc (.cells #[.func (.func 134) #[] #[.pointer (some ⟨c,0,none⟩)],.func (.func 136) #[] #[.pointer (some ⟨c,0,none⟩)]] 234)).alloc (.cells #[.slice pca pcn pcc,.slice pma pmn pmc,.slice ta ts.length tc] 102)) b3 [.func (.func 134) #[] #[.pointer (some ⟨c,0,none⟩)],.func (.func 136) #[] #[.pointer (some ⟨c,0,none⟩)]]:=J178 _;have hr4:zB ((w.alloc (.cells #[.func (.func 134) #[] #[.pointer (some ⟨c,0,none⟩)],.func (.func 136) #[] #[.pointer (some ⟨c,0,none⟩)]] 234)).alloc (.cells #[.slice pca pcn pcc,.slice pma pmn pmc,.slice ta ts.length tc] 102)) b4 [.slice pca pcn pcc,.slice pma pmn pmc,.slice ta ts.length tc]:=J189 _;have hk1:Keeps zA w ((w.alloc (.cells #[.func (.func 134) #[] #[.pointer (some ⟨c,0,none⟩)],.func (.func 136) #[] #[.pointer (some ⟨c,0,none⟩)]] 234)).alloc (.cells #[.slice pca pcn pcc,.slice pma pmn pmc,.slice ta ts.length tc] 102)):=((yB _ _).alloc _).alloc _;rw[<-hb4,<-hb3];generalize (w.alloc (.cells #[.func (.func 134) #[] #[.pointer (some ⟨c,0,none⟩)],.func (.func 136) #[] #[.pointer (some ⟨c,0,none⟩)]] 234)).alloc (.cells #[.slice pca pcn pcc,.slice pma pmn pmc,.slice ta ts.length tc] 102)=w1 at hr3 hr4 hk1 ⊢;have HNE:Hid (b3≠c):=by show _≠_;have:=hlt.out;omega
 have R3:=yA hr3;have K1:=yA hk1;have RC:Hid (zB w1 c [(.bool b)]):=HCR.out.keeps hk1 (λh=>h);have HLC:Hid (c<w1.heap.size):=RC.out.lt (by simp);obtain⟨d0,d1,d2⟩:=hr4.three;clear hr3 hr4 hk1 hb3 hb4 HCR;go_wp2_with fail
 clear d0 d1 d2;go_loopw [9] (λiv wr=>∃(i:Nat)(v:Bool),i<=ts.length/\iv=.int .i64 i/\Hid (zB wr c [(.bool v)])/\Hid ((v&&zAn (ts.drop i))=tot)/\Hid (Keeps (λq=>q=c) w1 wr)) (λiv _=>ts.length-(intOf iv).toNat)
 case atStart=>exact⟨0,b,yF _,rfl,RC,by show _=_;rw[yU];exact HT0.out.symm,yB _ _⟩
 case round =>
  obtain⟨i,v,hi,rfl,HV,HD,HK⟩:=hrel;by_cases hlt:i<ts.length
  ·have i1:(0:Int)<=i:=by omega
   have i2:(i:Int)<ts.length:=by omega
   have hd:=HD.out;rw[drop_at hlt] at hd;simp only[zAn] at hd;have hFc:∀q,F q->¬(λq=>q=c) q:=λq hq e=>HF.out (J187 _)
   obtain⟨g,o,ba,bc,e1,hg,d0,d1,hx⟩:=((HL.out.keeps K1.out (λ_ _ h=>h):zAh w1 F nm ts ta).keeps HK.out hFc).at hlt;subst e1;have hsz:=zDq (yI hlt);have hB:=HB.out;obtain⟨v1,hv1⟩:=eX (α:=Bool) ((v&&St.zA9 ts[i]))
   have HS:Hid (∀W,Keeps zA wr W->Calls Tryz.prog 191 #[.agg #[.func (.func 134) #[] #[.pointer (some ⟨c,0,none⟩)],.func (.func 136) #[] #[.pointer (some ⟨c,0,none⟩)]],.slice ba ts[i].length bc,(1:Int)] W λe w'=>e=.returned (.tuple #[])/\zB w' c [(.bool v1)]/\Keeps (λq=>q=c) W w'):=by
    rw[hv1];exact λW hk=>zQv ts[i] W F ba bc c 1 v (hx.keeps hk (λ_ _ h=>h)) (zJ8 HN.out (yI hlt)) HF.out (HV.out.keeps hk (λh=>h)) (by omega)
   have HDN:Hid ((v1&&zAn (ts.drop (i+1)))=tot):=by
    show _=_
    rw[hv1];rw[<-hd];simp[Bool.and_assoc]
   clear hx hFc hd hsz hB hv1;generalize ts[i].length=x1 at d1 HS;go_upto_region 4 with fail
   obtain⟨b7,hb7⟩:=eX wr.heap.size;have hr7:zB (wr.alloc (.cells #[nm,.slice ba x1 bc] 111)) b7 [.string nm,.slice ba x1 bc]:=J174 _;have hk7:Keeps zA wr (wr.alloc (.cells #[nm,.slice ba x1 bc] 111)):=(yB _ _).alloc _;rw[<-hb7];generalize wr.alloc (.cells #[nm,.slice ba x1 bc] 111)=w7 at hr7 hk7 ⊢;have y1:=hr7.cell (k:=1) (v:=.slice ba x1 bc) rfl;have r3:=(R3.out.keeps HK.out (λe=>HNE.out e)).keeps hk7 (λh=>h);have q0:=r3.cell (k:=0) (v:=.func (.func 134) #[] #[.pointer (some ⟨c,0,none⟩)]) rfl;have q1:=r3.cell (k:=1) (v:=.func (.func 136) #[] #[.pointer (some ⟨c,0,none⟩)]) rfl;exact J25 _
  ·obtain rfl:i=ts.length:=by omega
   have hd:=HD.out;rw[xO] at hd;simp only[zAn] at hd;have hd2:v=tot:=by rw[<-hd];simp
   exact J14 _
