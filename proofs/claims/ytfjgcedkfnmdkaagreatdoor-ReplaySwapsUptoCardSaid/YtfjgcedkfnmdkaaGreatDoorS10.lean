/- Layer S: texts joined. -/
import Derived.Test.YtfjgcedkfnmdkaaGreatDoorS09
set_option linter.all false
namespace Go.Proofs.YtfjgcedkfnmdkaaGreatDoor
open Go.RowKit
abbrev uZ:=@Go.wrap_small
theorem J13 (P:Prop) (h:P:=by
 subst hd2;go_wp2_with fail
 go_end0
 exact ⟨rfl,HV.out,(K1.out.mono (S:=fun q=>q=c) (fun _ _ h=>False.elim h)).trans HK.out (fun _ _ h=>h)⟩):P:=h
theorem J22 (P:Prop) (h:P:=by
 have K7:=yA hk7;clear hr7 hk7 r3 hb7 d0 d1 d2 d3 c3;go_wp2_with (go_at_call 156;refine (HC.out _ K7.out).mono ?_;rintro e w8 ⟨rfl,r8,g8⟩;have R8:=yA r8;have G8:=yA g8;clear r8 g8)
 go_roundw
 case rel=>exact ⟨i+1,v2,by omega,by go_num,R8,HD2,(HK.out.trans K7.out (fun _ _ h=>False.elim h)).trans G8.out (fun _ _ h=>h)⟩
 case measure=>simp [intOf];omega):P:=h
theorem J72 (P:Prop) (h:P:=by
 go_wp2_with fail
 go_end0
 exact ⟨rfl,RC.out.set 0 (by simp) _,(K1.out.mono (S:=fun q=>q=c) (fun _ _ h=>False.elim h)).setCell (p:=⟨c,0,none⟩) (fun _=>rfl) _⟩):P:=h
theorem J73 (P:Prop) (h:P:=by
 go_end0
 exact ⟨rfl,R2.out.set 0 (by simp) _,((K1.out.zB G1.out).mono (S:=fun q=>q=c) (fun _ _ h=>False.elim h)).setCell (p:=⟨c,0,none⟩) (fun _=>rfl) _⟩):P:=h
theorem J155 (P:Prop) (h:P:=by rw [hb7];exact yN (yF wr _)):P:=h
theorem J166 (P:Prop) (h:P:=by have e':q=c:=e;rw [<- e'];exact hq):P:=h
theorem J169 (P:Prop) (h:P:=by rw [hb4];exact yN (zf w _ _)):P:=h
def zKC (s:ByteArray):Prop:=s=xNm \/ s=zu
def kOk (k:Int):Prop:=-9223372036854775808 <= k /\ k < 9223372036854775808
mutual
def Ex.nice:Ex -> Prop
 | .mk k _ nm l=>(k=2 -> zKC nm) /\ Ex.zBV l
def Ex.zBV:List Ex -> Prop
 | []=>True
 | x :: r=>Ex.nice x /\ Ex.zBV r
end
mutual
def St.nice:St -> Prop
 | .mk k r n x _ t e=>kOk k /\ zKC r /\ zKC n /\ x.nice /\ St.zBV t /\ St.zBV e
def St.zBV:List St -> Prop
 | []=>True
 | x :: r=>St.nice x /\ St.zBV r
end
mutual
def Ac.kinds:Ac -> Prop
 | .mk k _ _ _ _ t e=>kOk k /\ Ac.zBh t /\ Ac.zBh e
def Ac.zBh:List Ac -> Prop
 | []=>True
 | x :: r=>Ac.kinds x /\ Ac.zBh r
end
theorem Ex.nice.kind {x:Ex} (h:x.nice):x.kind=2 -> x.nm=xNm \/ x.nm=zu:=by
 cases x;simp only [Ex.nice] at h;exact h.1
theorem Ex.nice.args {x:Ex} (h:x.nice):Ex.zBV x.args:=by
 cases x;simp only [Ex.nice] at h;exact h.2
theorem Ex.zDg {l:List Ex} (h:Ex.zBV l) {y:Ex} (hy:y ∈ l):y.nice:=by
 induction l with
 | nil=>cases hy
 | cons x r ih =>
   simp only [Ex.zBV] at h;rcases xS.1 hy with e | e
   ·subst e;exact h.1
   ·exact ih h.2 e
theorem St.zDg {l:List St} (h:St.zBV l) {y:St} (hy:y ∈ l):y.nice:=by
 induction l with
 | nil=>cases hy
 | cons x r ih =>
   simp only [St.zBV] at h;rcases xS.1 hy with e | e
   ·subst e;exact h.1
   ·exact ih h.2 e
theorem St.zJG {x:St} (h:x.nice):kOk x.kind /\ zKC x.reg /\ zKC x.name /\ x.ex.nice /\ St.zBV x.thn /\ St.zBV x.els:=by
 cases x;simp only [St.nice] at h;exact h
theorem zEv (n i:Int):zKC (nameAt n i):=by
 unfold nameAt;split
 ·exact .inl rfl
 ·exact .inr rfl
mutual
theorem Ex.zC7 (regs:Int):(x:Ex) -> (x.named regs).nice
 | .mk k num nm l=>by
   have h:=Ex.zBI regs l;simp only [Ex.named,Ex.nice];refine ⟨fun hk=>?_,h⟩
   rw [if_pos hk];split
   ·exact zEv _ _
   ·exact .inr rfl
theorem Ex.zBI (regs:Int):(l:List Ex) -> Ex.zBV (Ex.zP regs l)
 | []=>trivial
 | x :: r=>by
   have h1:=Ex.zC7 regs x;have h2:=Ex.zBI regs r;simp only [Ex.zP,Ex.zBV];exact ⟨h1,h2⟩
end
mutual
theorem Ac.zC7 (u:Un) (regs:Int):(x:Ac) -> x.kinds -> (x.named u regs).nice
 | .mk k reg obj ex c t e,h=>by
   simp only [Ac.kinds] at h;have h1:=Ac.zBI u regs t h.2.1;have h2:=Ac.zBI u regs e h.2.2;simp only [Ac.named,St.nice];refine ⟨?_,?_,?_,Ex.zC7 regs ex,h1,h2⟩
   ·unfold zCG
    split
    ·exact ⟨by decide,by decide⟩
    ·exact h.1
   ·split
    ·exact zEv _ _
    ·exact .inr rfl
   ·unfold stName
    split
    ·exact zEv _ _
    ·exact .inr rfl
theorem Ac.zBI (u:Un) (regs:Int):(l:List Ac) -> Ac.zBh l -> St.zBV (Ac.zP u regs l)
 | [],_=>trivial
 | x :: r,h=>by
   simp only [Ac.zBh] at h;have h1:=Ac.zC7 u regs x h.1;have h2:=Ac.zBI u regs r h.2;simp only [Ac.zP,St.zBV];exact ⟨h1,h2⟩
end
theorem zIZ (x:St) (hn:x.nice) (w:World) (xa ta ea:Option Addr) (xc tc ec:Nat) :
 Calls Tryz.prog 137 #[stV x xa xc ta tc ea ec] w fun e w'=>e=.returned (.bool (zF7 x.kind x.reg x.name x.ex x.count x.thn.length x.els.length)) /\ Keeps zA w w':=by
 obtain ⟨h1,h2,h3,_⟩:=St.zJG hn
 have e1:(x.ex.kind==0&&x.ex.num==0&&zX x.ex.nm&&x.ex.args.length==0)=x.ex.none:=by
  obtain ⟨k,r,o,⟨a,b,c,l⟩,cn,t,e⟩:=x;show (a==0&&b==0&&zX c&&l.length==0)=(a==0&&b==0&&zX c&&l.isEmpty)
  cases l <;> simp
 exact zH6 x.kind x.ex.kind x.ex.num x.count x.reg x.name x.ex.nm xa ta ea x.ex.args.length xc x.thn.length tc x.els.length ec (decide (1 <= x.kind /\ x.kind <= 11)) (fields x.kind).reg (fields x.kind).name (fields x.kind).ex (fields x.kind).count (fields x.kind).thn (fields x.kind).els
  (zCF x.reg (fields x.kind).reg) (zCF x.name (fields x.kind).name) x.ex.none (x.count==0 || (fields x.kind).count&&decide (0 < x.count)&&decide (x.count <= 1000)) _ w
  (fun W g h=>zIn x.kind h1 W g h) (fun W=>zMQ _ h2 _ W) (fun W=>zMQ _ h3 _ W) e1.symm rfl rfl
theorem zOb (x:Ex) (hn:x.nice) (w:World) (ad:Option Addr) (cap c:Nat) (d:Int) (b:Bool) (h:zC w c [.bool b]) :
 Calls Tryz.prog 138 #[exV x ad cap, .int .i64 d, .pointer (some ⟨c,0,none⟩)] w fun e w'=>e=.returned (.tuple #[]) /\ zC w' c [.bool (b&&zAv x.kind x.num x.nm x.args.length)] /\ Keeps (fun q=>q=c) w w':=by
 have HX:Hid (∀ W,Calls Tryz.prog 139 #[.agg #[.int .i64 x.kind, .int .i64 x.num, .string x.nm, .slice ad x.args.length cap]] W fun e w'=>e=.returned (.bool (zAv x.kind x.num x.nm x.args.length)) /\ Keeps zA W w'):=fun W=>zIU x hn.kind W ad cap
 show Calls _ _ #[.agg #[.int .i64 x.kind, .int .i64 x.num, .string x.nm, .slice ad x.args.length cap],_,_] _ _
 obtain ⟨q,hq⟩:∃ q,q=zAv x.kind x.num x.nm x.args.length:=⟨_,rfl⟩
 rw [<- hq] at HX ⊢;generalize x.kind=x0 at HX ⊢;generalize x.num=x1 at HX ⊢;generalize x.nm=x2 at HX ⊢;generalize x.args.length=x3 at HX ⊢;clear hq;have HC:=yA h;have hlt:=h.lt (by simp);clear h;go_enter Tryz.func138,Tryz.ntmps138
 go_upto_region 1 with fail
 obtain ⟨b1,hb1⟩:∃ z,z=w.heap.size:=⟨_,rfl⟩
 have hr1:zC (w.alloc (.cells #[.int .i64 x0, .int .i64 x1, .string x2, .slice ad x3 cap] 72)) b1 [.int .i64 x0, .int .i64 x1, .string x2, .slice ad x3 cap]:=J150 _;have hk1:Keeps zA w (w.alloc (.cells #[.int .i64 x0, .int .i64 x1, .string x2, .slice ad x3 cap] 72)):=(yB _ _).alloc _;rw [<- hb1];generalize w.alloc (.cells #[.int .i64 x0, .int .i64 x1, .string x2, .slice ad x3 cap] 72)=w1 at hr1 hk1 ⊢;have rc:=HC.out.keeps hk1 (fun h=>h);have cc:=rc.cell (k:=0) (v:=.bool b) rfl;have fc:=rc.free (k:=0) (by simp);obtain ⟨d0,d1,d2,d3⟩:=hr1.four;have RC:=yA rc;have K1:=yA hk1;clear hr1 hk1 hb1 rc;cases b
 ·exact J72 _
 ·go_wp2_with (go_at_call 139;refine (HX.out _).mono ?_;rintro e w2 ⟨rfl,g1⟩;have r2:=RC.out.keeps g1 (fun h=>h);have cc2:=r2.cell (k:=0) (v:=.bool true) rfl;have fc2:=r2.free (k:=0) (by simp);have R2:=yA r2;have G1:=yA g1;clear g1 r2 cc fc)
  exact J73 _
theorem zOd (x:St) (hn:x.nice) (w:World) (xa ta ea:Option Addr) (xc tc ec c:Nat) (d:Int) (b:Bool) (h:zC w c [.bool b]) :
 Calls Tryz.prog 136 #[stV x xa xc ta tc ea ec, .int .i64 d, .pointer (some ⟨c,0,none⟩)] w fun e w'=>e=.returned (.tuple #[]) /\ zC w' c [.bool (b&&zF7 x.kind x.reg x.name x.ex x.count x.thn.length x.els.length)] /\ Keeps (fun q=>q=c) w w':=by
 have HX:=yA (fun W=>zIZ x hn W xa ta ea xc tc ec);obtain ⟨q,hq⟩:∃ q,q=zF7 x.kind x.reg x.name x.ex x.count x.thn.length x.els.length:=⟨_,rfl⟩
 rw [<- hq] at HX ⊢;unfold stV at HX ⊢;generalize x.kind=x0 at HX ⊢;generalize x.reg=x1 at HX ⊢;generalize x.name=x2 at HX ⊢;generalize x.ex.kind=x3 at HX ⊢;generalize x.ex.num=x4 at HX ⊢;generalize x.ex.nm=x5 at HX ⊢;generalize x.ex.args.length=x6 at HX ⊢;generalize x.count=x7 at HX ⊢;generalize x.thn.length=x8 at HX ⊢;generalize x.els.length=x9 at HX ⊢;clear hq;have HC:=yA h;have hlt:=h.lt (by simp);clear h;go_enter Tryz.func136,Tryz.ntmps136
 go_upto_region 1 with fail
 obtain ⟨b1,hb1⟩:∃ z,z=w.heap.size:=⟨_,rfl⟩
 have hr1:zC (w.alloc (.cells #[.int .i64 x0, .string x1, .string x2, .int .i64 x3, .int .i64 x4, .string x5, .slice xa x6 xc, .int .i64 x7, .slice ta x8 tc, .slice ea x9 ec] 201)) b1 [.int .i64 x0, .string x1, .string x2, .int .i64 x3, .int .i64 x4, .string x5, .slice xa x6 xc, .int .i64 x7, .slice ta x8 tc, .slice ea x9 ec]:=J150 _;have hk1:Keeps zA w (w.alloc (.cells #[.int .i64 x0, .string x1, .string x2, .int .i64 x3, .int .i64 x4, .string x5, .slice xa x6 xc, .int .i64 x7, .slice ta x8 tc, .slice ea x9 ec] 201)):=(yB _ _).alloc _;rw [<- hb1];generalize w.alloc (.cells #[.int .i64 x0, .string x1, .string x2, .int .i64 x3, .int .i64 x4, .string x5, .slice xa x6 xc, .int .i64 x7, .slice ta x8 tc, .slice ea x9 ec] 201)=w1 at hr1 hk1 ⊢;have rc:=HC.out.keeps hk1 (fun h=>h);have cc:=rc.cell (k:=0) (v:=.bool b) rfl;have fc:=rc.free (k:=0) (by simp);obtain ⟨d0,d1,d2,d3,d4,d5,d6,d7,d8,d9⟩:=hr1.ten;have RC:=yA rc;have K1:=yA hk1;clear hr1 hk1 hb1 rc;cases b
 ·exact J72 _
 ·go_wp2_with (go_at_call 137;refine (HX.out _).mono ?_;rintro e w2 ⟨rfl,g1⟩;have r2:=RC.out.keeps g1 (fun h=>h);have cc2:=r2.cell (k:=0) (v:=.bool true) rfl;have fc2:=r2.free (k:=0) (by simp);have R2:=yA r2;have G1:=yA g1;clear g1 r2 cc fc)
  exact J73 _
theorem zMz:∀ (x:Ex),x.nice -> ∀ (w:World) (F:Nat -> Prop) (ad:Option Addr) (cap c d:Nat) (b:Bool),zR w F x.args ad -> ¬ F c -> zC w c [(.bool b)] -> d+x.cnt < 1000000000 →
 Calls Tryz.prog 156 #[.agg #[.func (.func 136) #[] #[.pointer (some ⟨c,0,none⟩)], .func (.func 138) #[] #[.pointer (some ⟨c,0,none⟩)]],exV x ad cap, .int .i64 d] w fun e w'=>e=.returned (.tuple #[]) /\ zC w' c [(.bool ((b&&Ex.zCm x)))] /\ Keeps (fun q=>q=c) w w':=by
 refine Ex.ind (fun k num nm l ih hn w F ad cap c d b h hF hc hb=>?_)
 have HL:Hid (zR w F l ad):=h;have IH:=yA ih;have HF:=yA hF;have HCR:=yA hc;have HN:Hid (Ex.zBV l):=hn.args;have hl:=Ex.zAg l;have hcn:Ex.cnt (.mk k num nm l)=1+Ex.zY l:=by simp [Ex.cnt]
 rw [hcn] at hb;have hb2:l.length < 1000000000:=by omega
 have hd2:d < 1000000000:=by omega
 have HB:=yA hb;obtain ⟨tot,ht⟩:∃ t:Bool,t=(b&&Ex.zCm (Ex.mk k num nm l)):=⟨_,rfl⟩
 have HT:Hid (((b&&zAv k num nm l.length)&&Ex.zC3 l)=tot):=by
  show _=_
  rw [ht];simp only [Ex.zCm,Bool.and_assoc]
 rw [<- ht];have HCL:Hid (∀ W,zC W c [(.bool b)] -> Calls Tryz.prog 138 #[.agg #[.int .i64 k, .int .i64 num, .string nm, .slice ad l.length cap], .int .i64 d, .pointer (some ⟨c,0,none⟩)] W fun e w'=>e=.returned (.tuple #[]) /\ zC w' c [(.bool (b&&zAv k num nm l.length))] /\ Keeps (fun q=>q=c) W w'):=fun W h=>zOb (.mk k num nm l) hn W ad cap c d b h
 have hlt0:=hc.lt (by simp);have hlt:=yA hlt0;clear h hF hc ih hl hcn hb ht hlt0 hn;show Calls _ _ #[_, .agg #[.int .i64 k, .int .i64 num, .string nm, .slice ad l.length cap],_] _ _
 have hw:IntKind.i64.wrap ((d:Int)+1)=(d:Int)+1:=uZ _ (by omega) (by omega);go_enter Tryz.func156,Tryz.ntmps156
 go_upto_region 1 with fail
 obtain ⟨b3,hb3⟩:∃ z,z=w.heap.size:=⟨_,rfl⟩
 obtain ⟨b4,hb4⟩:∃ z,z=w.heap.size+1:=⟨_,rfl⟩
 have hr3:zC ((w.alloc (.cells #[.func (.func 136) #[] #[.pointer (some ⟨c,0,none⟩)], .func (.func 138) #[] #[.pointer (some ⟨c,0,none⟩)]] 224)).alloc (.cells #[.int .i64 k, .int .i64 num, .string nm, .slice ad l.length cap] 72)) b3 [.func (.func 136) #[] #[.pointer (some ⟨c,0,none⟩)], .func (.func 138) #[] #[.pointer (some ⟨c,0,none⟩)]]:=J160 _;have hr4:zC ((w.alloc (.cells #[.func (.func 136) #[] #[.pointer (some ⟨c,0,none⟩)], .func (.func 138) #[] #[.pointer (some ⟨c,0,none⟩)]] 224)).alloc (.cells #[.int .i64 k, .int .i64 num, .string nm, .slice ad l.length cap] 72)) b4 [.int .i64 k, .int .i64 num, .string nm, .slice ad l.length cap]:=J169 _;have hk1:Keeps zA w ((w.alloc (.cells #[.func (.func 136) #[] #[.pointer (some ⟨c,0,none⟩)], .func (.func 138) #[] #[.pointer (some ⟨c,0,none⟩)]] 224)).alloc (.cells #[.int .i64 k, .int .i64 num, .string nm, .slice ad l.length cap] 72)):=((yB _ _).alloc _).alloc _;rw [<- hb4,<- hb3];generalize (w.alloc (.cells #[.func (.func 136) #[] #[.pointer (some ⟨c,0,none⟩)], .func (.func 138) #[] #[.pointer (some ⟨c,0,none⟩)]] 224)).alloc (.cells #[.int .i64 k, .int .i64 num, .string nm, .slice ad l.length cap] 72)=w1 at hr3 hr4 hk1 ⊢;have HNE:Hid (b3 ≠ c /\ b4 ≠ c):=⟨by have:=hlt.out;omega,by have:=hlt.out;omega⟩;have R3:=yA hr3;have R4:=yA hr4;have K1:=yA hk1;have RC:Hid (zC w1 c [(.bool b)]):=HCR.out.keeps hk1 (fun h=>h);have y0:=hr3.cell (k:=1) (v:=.func (.func 138) #[] #[.pointer (some ⟨c,0,none⟩)]) rfl;obtain ⟨d0,d1,d2,d3⟩:=hr4.four;clear hr3 hr4 hk1 hb3 hb4;go_upto_region 2 with (go_at_call 138;refine (HCL.out _ RC.out).mono ?_;rintro e w2 ⟨rfl,r2,g2⟩;have R2:=yA r2;have G2:=yA g2;clear r2 g2)
 have c3:=(R4.out.keeps G2.out (fun e=>HNE.out.2 e)).cell (k:=3) (v:=.slice ad l.length cap) rfl;clear d0 d1 d2 d3 y0 RC HCL HCR;go_wp2_with fail
 go_loopw [16] (fun iv wr=>∃ (i:Nat) (v:Bool),i <= l.length /\ iv=.int .i64 i /\ Hid (zC wr c [(.bool v)]) /\ Hid ((v&&Ex.zC3 (l.drop i))=tot) /\ Hid (Keeps (fun q=>q=c) w1 wr)) (fun iv _=>l.length - (intOf iv).toNat)
 case atStart=>exact ⟨0,(b&&zAv k num nm l.length),yG _,rfl,R2,by show _=_;rw [yQ];exact HT.out,G2⟩
 case round =>
  obtain ⟨i,v,hi,rfl,HV,HD,HK⟩:=hrel;by_cases hlt:i < l.length
  ·have i1:(0:Int) <= i:=by omega
   have i2:(i:Int) < l.length:=by omega
   have hd:=HD.out;rw [drop_at hlt] at hd;simp only [Ex.zC3] at hd;have hFc:∀ q,F q -> ¬ (fun q=>q=c) q:=fun q hq e=>HF.out (J166 _)
   obtain ⟨g,o,a,ca,e1,hg,d0,d1,d2,d3,hx⟩:=((HL.out.keeps K1.out (fun _ _ h=>h):zR w1 F l ad).keeps HK.out hFc).at hlt;subst e1
   have HC:Hid (∀ W,Keeps zA wr W -> Calls Tryz.prog 156 #[.agg #[.func (.func 136) #[] #[.pointer (some ⟨c,0,none⟩)], .func (.func 138) #[] #[.pointer (some ⟨c,0,none⟩)]], .agg #[.int .i64 l[i].kind, .int .i64 l[i].num, .string l[i].nm, .slice a l[i].args.length ca], .int .i64 ((d:Int)+1)] W fun e w'=>e=.returned (.tuple #[]) /\ zC w' c [(.bool ((v&&Ex.zCm l[i])))] /\ Keeps (fun q=>q=c) W w'):=fun W hk=>by
    have e:((d+1:Nat):Int)=(d:Int)+1:=by omega
    rw [<- e];have hcl:=Ex.zB5 (yJ hlt);have hbt:=HB.out;exact IH.out _ (yJ hlt) (Ex.zDg HN.out (yJ hlt)) W F a ca c (d+1) v (hx.keeps hk (fun _ _ h=>h)) HF.out (HV.out.keeps hk (fun h=>h)) (by omega)
   obtain ⟨v2,hv2⟩:∃ v2:Bool,v2=(v&&Ex.zCm l[i]):=⟨_,rfl⟩
   have HD2:Hid ((v2&&Ex.zC3 (l.drop (i+1)))=tot):=by
    show _=_
    rw [hv2,<- hd];rw [Bool.and_assoc]
   rw [<- hv2] at HC;clear hx hFc hd hv2;generalize l[i].kind=x0 at d0 HC;generalize l[i].num=x1 at d1 HC;generalize l[i].nm=x2 at d2 HC;generalize l[i].args.length=x3 at d3 HC;go_upto_region 5 with fail
   obtain ⟨b7,hb7⟩:∃ z,z=wr.heap.size:=⟨_,rfl⟩
   have hr7:zC (wr.alloc (.cells #[.int .i64 x0, .int .i64 x1, .string x2, .slice a x3 ca] 72)) b7 [.int .i64 x0, .int .i64 x1, .string x2, .slice a x3 ca]:=J155 _;have hk7:Keeps zA wr (wr.alloc (.cells #[.int .i64 x0, .int .i64 x1, .string x2, .slice a x3 ca] 72)):=(yB _ _).alloc _;rw [<- hb7];generalize wr.alloc (.cells #[.int .i64 x0, .int .i64 x1, .string x2, .slice a x3 ca] 72)=w7 at hr7 hk7 ⊢;obtain ⟨y0,y1,y2,y3⟩:=hr7.four;have r3:=(R3.out.keeps HK.out (fun e=>HNE.out.1 e)).keeps hk7 (fun h=>h);have q0:=r3.cell (k:=0) (v:=.func (.func 136) #[] #[.pointer (some ⟨c,0,none⟩)]) rfl;have q1:=r3.cell (k:=1) (v:=.func (.func 138) #[] #[.pointer (some ⟨c,0,none⟩)]) rfl;exact J22 _
  ·obtain rfl:i=l.length:=by omega
   have hd:=HD.out;rw [xG] at hd;simp only [Ex.zC3] at hd;have hd2:v=tot:=by rw [<- hd];simp
   exact J13 _
end Go.Proofs.YtfjgcedkfnmdkaaGreatDoor
namespace Go.Proofs.YtfjgcedkfnmdkaaGreatDoor
theorem Ex.zFg (x:Ex):x.there=(x.kind != 0 || x.args.length != 0):=by
 obtain ⟨k,n,s,l⟩:=x;show (k != 0 || !l.isEmpty)=(k != 0 || l.length != 0)
 cases l <;> simp
theorem St.zM8 (x:St):x.form=(zF7 x.kind x.reg x.name x.ex x.count x.thn.length x.els.length&&(!x.ex.there || x.ex.zCm)&&St.zA4 x.thn&&St.zA4 x.els):=by
 cases x;simp only [St.form,St.kind,St.reg,St.name,St.ex,St.count,St.thn,St.els]
theorem St.zFk (x:St):x.cnt=1+(if x.ex.there then x.ex.cnt else 0)+St.zY x.thn+St.zY x.els:=by
 cases x;simp only [St.cnt];rfl
theorem St.zJW (d:Nat) (x:St):x.deep d=max (max d (if x.ex.there then x.ex.dep else 0)) (max (St.zn (d+1) x.thn) (St.zn (d+1) x.els)):=by
 cases x;simp only [St.deep];rfl
mutual
theorem St.zMF:(x:St) -> x.cnt <= x.sz
 | .mk k r n x c t e=>by
   have h1:=St.zCz t;have h2:=St.zCz e;simp only [St.cnt,St.sz];split <;> omega
theorem St.zCz:(l:List St) -> St.zY l <= St.szL l
 | []=>yV _
 | x :: r=>by
   have h1:=St.zMF x;have h2:=St.zCz r;simp only [St.zY,St.szL];omega
end
mutual
theorem St.zM9 (d:Nat):(x:St) -> x.deep d <= d+x.sz
 | .mk k r n x c t e=>by
   have h1:=St.zCZ (d+1) t;have h2:=St.zCZ (d+1) e;have h3:=Ex.zGw x;simp only [St.deep,St.sz];split <;> omega
theorem St.zCZ (d:Nat):(l:List St) -> St.zn d l <= d+St.szL l
 | []=>by simp only [St.zn];omega
 | x :: r=>by
   have h1:=St.zM9 d x;have h2:=St.zCZ d r;simp only [St.zn,St.szL];omega
end
theorem St.room:∀ (i:Nat) (l:List St),St.zY l+St.szL (l.drop i) <= St.szL l+St.zY (l.drop i)
 | 0,l=>by rw [yQ];omega
 | i+1,[]=>by simp [St.zY,St.szL]
 | i+1,x :: r=>by
   have h1:=St.room i r;have h2:=St.zMF x;rw [yU];simp only [St.zY,St.szL];omega
end Go.Proofs.YtfjgcedkfnmdkaaGreatDoor
