/- Layer Q: texts joined. -/
import Derived.Test.YtfjgcedkfnmdkaaGreatDoorQ09
set_option linter.all false
namespace Go.Proofs.YtfjgcedkfnmdkaaGreatDoor
open Go.RowKit
abbrev vW:=@Go.wrap_small
theorem J15 (P:Prop) (h:P:=by
 subst hd2;go_wp2_with fail
 go_end0
 exact ⟨rfl,HV.out,(K1.out.mono (S:=fun q=>q=c) (fun _ _ h=>False.elim h)).trans HK.out (fun _ _ h=>h)⟩):P:=h
theorem J26 (P:Prop) (h:P:=by
 have K7:=yB hk7;clear hr7 hk7 r3 hb7 d0 d1 d2 d3 c3;go_wp2_with (go_at_call 156;refine (HC.out _ K7.out).mono ?_;rintro e w8 ⟨rfl,r8,g8⟩;have R8:=yB r8;have G8:=yB g8;clear r8 g8)
 go_roundw
 case rel=>exact ⟨i+1,v2,by omega,by go_num,R8,HD2,(HK.out.trans K7.out (fun _ _ h=>False.elim h)).trans G8.out (fun _ _ h=>h)⟩
 case measure=>simp [intOf];omega):P:=h
theorem J92 (P:Prop) (h:P:=by
 go_wp2_with fail
 go_end0
 exact ⟨rfl,RC.out.set 0 (by simp) _,(K1.out.mono (S:=fun q=>q=c) (fun _ _ h=>False.elim h)).setCell (p:=⟨c,0,none⟩) (fun _=>rfl) _⟩):P:=h
theorem J94 (P:Prop) (h:P:=by
 go_end0
 exact ⟨rfl,R2.out.set 0 (by simp) _,((K1.out.zB G1.out).mono (S:=fun q=>q=c) (fun _ _ h=>False.elim h)).setCell (p:=⟨c,0,none⟩) (fun _=>rfl) _⟩):P:=h
theorem J183 (P:Prop) (h:P:=by rw [hb7];exact yP (yL wr _)):P:=h
theorem J197 (P:Prop) (h:P:=by have e':q=c:=e;rw [<- e'];exact hq):P:=h
theorem J199 (P:Prop) (h:P:=by rw [hb4];exact yP (zi w _ _)):P:=h
def zJ7 (s:ByteArray):Prop:=s=xNm \/ s=zx
def kOk (k:Int):Prop:=-9223372036854775808 <= k /\ k < 9223372036854775808
mutual
def Ex.nice:Ex -> Prop
 | .mk k _ nm l=>(k=2 -> zJ7 nm) /\ Ex.zBg l
def Ex.zBg:List Ex -> Prop
 | []=>True
 | x :: r=>Ex.nice x /\ Ex.zBg r
end
mutual
def St.nice:St -> Prop
 | .mk k r n x _ t e=>kOk k /\ zJ7 r /\ zJ7 n /\ x.nice /\ St.zBg t /\ St.zBg e
def St.zBg:List St -> Prop
 | []=>True
 | x :: r=>St.nice x /\ St.zBg r
end
mutual
def Ac.kinds:Ac -> Prop
 | .mk k _ _ _ _ t e=>kOk k /\ Ac.zBr t /\ Ac.zBr e
def Ac.zBr:List Ac -> Prop
 | []=>True
 | x :: r=>Ac.kinds x /\ Ac.zBr r
end
theorem Ex.nice.kind {x:Ex} (h:x.nice):x.kind=2 -> x.nm=xNm \/ x.nm=zx:=by
 cases x;simp only [Ex.nice] at h;exact h.1
theorem Ex.nice.args {x:Ex} (h:x.nice):Ex.zBg x.args:=by
 cases x;simp only [Ex.nice] at h;exact h.2
theorem Ex.zDu {l:List Ex} (h:Ex.zBg l) {y:Ex} (hy:y ∈ l):y.nice:=by
 induction l with
 | nil=>cases hy
 | cons x r ih =>
   simp only [Ex.zBg] at h;rcases xY.1 hy with e | e
   ·subst e;exact h.1
   ·exact ih h.2 e
theorem St.zDu {l:List St} (h:St.zBg l) {y:St} (hy:y ∈ l):y.nice:=by
 induction l with
 | nil=>cases hy
 | cons x r ih =>
   simp only [St.zBg] at h;rcases xY.1 hy with e | e
   ·subst e;exact h.1
   ·exact ih h.2 e
theorem St.zJP {x:St} (h:x.nice):kOk x.kind /\ zJ7 x.reg /\ zJ7 x.name /\ x.ex.nice /\ St.zBg x.thn /\ St.zBg x.els:=by
 cases x;simp only [St.nice] at h;exact h
theorem zE8 (n i:Int):zJ7 (nameAt n i):=by
 unfold nameAt;split
 ·exact .inl rfl
 ·exact .inr rfl
mutual
theorem Ex.zDF (regs:Int):(x:Ex) -> (x.named regs).nice
 | .mk k num nm l=>by
   have h:=Ex.zBU regs l;simp only [Ex.named,Ex.nice];refine ⟨fun hk=>?_,h⟩
   rw [if_pos hk];split
   ·exact zE8 _ _
   ·exact .inr rfl
theorem Ex.zBU (regs:Int):(l:List Ex) -> Ex.zBg (Ex.zU regs l)
 | []=>trivial
 | x :: r=>by
   have h1:=Ex.zDF regs x;have h2:=Ex.zBU regs r;simp only [Ex.zU,Ex.zBg];exact ⟨h1,h2⟩
end
mutual
theorem Ac.zDF (u:Un) (regs:Int):(x:Ac) -> x.kinds -> (x.named u regs).nice
 | .mk k reg obj ex c t e,h=>by
   simp only [Ac.kinds] at h;have h1:=Ac.zBU u regs t h.2.1;have h2:=Ac.zBU u regs e h.2.2;simp only [Ac.named,St.nice];refine ⟨?_,?_,?_,Ex.zDF regs ex,h1,h2⟩
   ·unfold zCK
    split
    ·exact ⟨by decide,by decide⟩
    ·exact h.1
   ·split
    ·exact zE8 _ _
    ·exact .inr rfl
   ·unfold stName
    split
    ·exact zE8 _ _
    ·exact .inr rfl
theorem Ac.zBU (u:Un) (regs:Int):(l:List Ac) -> Ac.zBr l -> St.zBg (Ac.zU u regs l)
 | [],_=>trivial
 | x :: r,h=>by
   simp only [Ac.zBr] at h;have h1:=Ac.zDF u regs x h.1;have h2:=Ac.zBU u regs r h.2;simp only [Ac.zU,St.zBg];exact ⟨h1,h2⟩
end
theorem zId (x:St) (hn:x.nice) (w:World) (xa ta ea:Option Addr) (xc tc ec:Nat) :
 Calls Tryz.prog 137 #[stV x xa xc ta tc ea ec] w fun e w'=>e=.returned (.bool (zGF x.kind x.reg x.name x.ex x.count x.thn.length x.els.length)) /\ Keeps zA w w':=by
 obtain ⟨h1,h2,h3,_⟩:=St.zJP hn
 have e1:(x.ex.kind==0&&x.ex.num==0&&zZ x.ex.nm&&x.ex.args.length==0)=x.ex.none:=by
  obtain ⟨k,r,o,⟨a,b,c,l⟩,cn,t,e⟩:=x;show (a==0&&b==0&&zZ c&&l.length==0)=(a==0&&b==0&&zZ c&&l.isEmpty)
  cases l <;> simp
 exact zHY x.kind x.ex.kind x.ex.num x.count x.reg x.name x.ex.nm xa ta ea x.ex.args.length xc x.thn.length tc x.els.length ec (decide (1 <= x.kind /\ x.kind <= 11)) (fields x.kind).reg (fields x.kind).name (fields x.kind).ex (fields x.kind).count (fields x.kind).thn (fields x.kind).els
  (zCL x.reg (fields x.kind).reg) (zCL x.name (fields x.kind).name) x.ex.none (x.count==0 || (fields x.kind).count&&decide (0 < x.count)&&decide (x.count <= 1000)) _ w
  (fun W g h=>zI6 x.kind h1 W g h) (fun W=>zMF _ h2 _ W) (fun W=>zMF _ h3 _ W) e1.symm rfl rfl
theorem zOT (x:Ex) (hn:x.nice) (w:World) (ad:Option Addr) (cap c:Nat) (d:Int) (b:Bool) (h:zC w c [.bool b]) :
 Calls Tryz.prog 138 #[exV x ad cap, .int .i64 d, .pointer (some ⟨c,0,none⟩)] w fun e w'=>e=.returned (.tuple #[]) /\ zC w' c [.bool (b&&zA6 x.kind x.num x.nm x.args.length)] /\ Keeps (fun q=>q=c) w w':=by
 have HX:Hid (∀ W,Calls Tryz.prog 139 #[.agg #[.int .i64 x.kind, .int .i64 x.num, .string x.nm, .slice ad x.args.length cap]] W fun e w'=>e=.returned (.bool (zA6 x.kind x.num x.nm x.args.length)) /\ Keeps zA W w'):=fun W=>zIU x hn.kind W ad cap
 show Calls _ _ #[.agg #[.int .i64 x.kind, .int .i64 x.num, .string x.nm, .slice ad x.args.length cap],_,_] _ _
 obtain ⟨q,hq⟩:∃ q,q=zA6 x.kind x.num x.nm x.args.length:=⟨_,rfl⟩
 rw [<- hq] at HX ⊢;generalize x.kind=x0 at HX ⊢;generalize x.num=x1 at HX ⊢;generalize x.nm=x2 at HX ⊢;generalize x.args.length=x3 at HX ⊢;clear hq;have HC:=yB h;have hlt:=h.lt (by simp);clear h;go_enter Tryz.func138,Tryz.ntmps138
 go_upto_region 1 with fail
 obtain ⟨b1,hb1⟩:∃ z,z=w.heap.size:=⟨_,rfl⟩
 have hr1:zC (w.alloc (.cells #[.int .i64 x0, .int .i64 x1, .string x2, .slice ad x3 cap] 72)) b1 [.int .i64 x0, .int .i64 x1, .string x2, .slice ad x3 cap]:=J178 _;have hk1:Keeps zA w (w.alloc (.cells #[.int .i64 x0, .int .i64 x1, .string x2, .slice ad x3 cap] 72)):=(yC _ _).alloc _;rw [<- hb1];generalize w.alloc (.cells #[.int .i64 x0, .int .i64 x1, .string x2, .slice ad x3 cap] 72)=w1 at hr1 hk1 ⊢;have rc:=HC.out.keeps hk1 (fun h=>h);have cc:=rc.cell (k:=0) (v:=.bool b) rfl;have fc:=rc.free (k:=0) (by simp);obtain ⟨d0,d1,d2,d3⟩:=hr1.four;have RC:=yB rc;have K1:=yB hk1;clear hr1 hk1 hb1 rc;cases b
 ·exact J92 _
 ·go_wp2_with (go_at_call 139;refine (HX.out _).mono ?_;rintro e w2 ⟨rfl,g1⟩;have r2:=RC.out.keeps g1 (fun h=>h);have cc2:=r2.cell (k:=0) (v:=.bool true) rfl;have fc2:=r2.free (k:=0) (by simp);have R2:=yB r2;have G1:=yB g1;clear g1 r2 cc fc)
  exact J94 _
theorem zOP (x:St) (hn:x.nice) (w:World) (xa ta ea:Option Addr) (xc tc ec c:Nat) (d:Int) (b:Bool) (h:zC w c [.bool b]) :
 Calls Tryz.prog 136 #[stV x xa xc ta tc ea ec, .int .i64 d, .pointer (some ⟨c,0,none⟩)] w fun e w'=>e=.returned (.tuple #[]) /\ zC w' c [.bool (b&&zGF x.kind x.reg x.name x.ex x.count x.thn.length x.els.length)] /\ Keeps (fun q=>q=c) w w':=by
 have HX:=yB (fun W=>zId x hn W xa ta ea xc tc ec);obtain ⟨q,hq⟩:∃ q,q=zGF x.kind x.reg x.name x.ex x.count x.thn.length x.els.length:=⟨_,rfl⟩
 rw [<- hq] at HX ⊢;unfold stV at HX ⊢;generalize x.kind=x0 at HX ⊢;generalize x.reg=x1 at HX ⊢;generalize x.name=x2 at HX ⊢;generalize x.ex.kind=x3 at HX ⊢;generalize x.ex.num=x4 at HX ⊢;generalize x.ex.nm=x5 at HX ⊢;generalize x.ex.args.length=x6 at HX ⊢;generalize x.count=x7 at HX ⊢;generalize x.thn.length=x8 at HX ⊢;generalize x.els.length=x9 at HX ⊢;clear hq;have HC:=yB h;have hlt:=h.lt (by simp);clear h;go_enter Tryz.func136,Tryz.ntmps136
 go_upto_region 1 with fail
 obtain ⟨b1,hb1⟩:∃ z,z=w.heap.size:=⟨_,rfl⟩
 have hr1:zC (w.alloc (.cells #[.int .i64 x0, .string x1, .string x2, .int .i64 x3, .int .i64 x4, .string x5, .slice xa x6 xc, .int .i64 x7, .slice ta x8 tc, .slice ea x9 ec] 201)) b1 [.int .i64 x0, .string x1, .string x2, .int .i64 x3, .int .i64 x4, .string x5, .slice xa x6 xc, .int .i64 x7, .slice ta x8 tc, .slice ea x9 ec]:=J178 _;have hk1:Keeps zA w (w.alloc (.cells #[.int .i64 x0, .string x1, .string x2, .int .i64 x3, .int .i64 x4, .string x5, .slice xa x6 xc, .int .i64 x7, .slice ta x8 tc, .slice ea x9 ec] 201)):=(yC _ _).alloc _;rw [<- hb1];generalize w.alloc (.cells #[.int .i64 x0, .string x1, .string x2, .int .i64 x3, .int .i64 x4, .string x5, .slice xa x6 xc, .int .i64 x7, .slice ta x8 tc, .slice ea x9 ec] 201)=w1 at hr1 hk1 ⊢;have rc:=HC.out.keeps hk1 (fun h=>h);have cc:=rc.cell (k:=0) (v:=.bool b) rfl;have fc:=rc.free (k:=0) (by simp);obtain ⟨d0,d1,d2,d3,d4,d5,d6,d7,d8,d9⟩:=hr1.ten;have RC:=yB rc;have K1:=yB hk1;clear hr1 hk1 hb1 rc;cases b
 ·exact J92 _
 ·go_wp2_with (go_at_call 137;refine (HX.out _).mono ?_;rintro e w2 ⟨rfl,g1⟩;have r2:=RC.out.keeps g1 (fun h=>h);have cc2:=r2.cell (k:=0) (v:=.bool true) rfl;have fc2:=r2.free (k:=0) (by simp);have R2:=yB r2;have G1:=yB g1;clear g1 r2 cc fc)
  exact J94 _
theorem zNQ:∀ (x:Ex),x.nice -> ∀ (w:World) (F:Nat -> Prop) (ad:Option Addr) (cap c d:Nat) (b:Bool),zO w F x.args ad -> ¬ F c -> zC w c [(.bool b)] -> d+x.cnt < 1000000000 →
 Calls Tryz.prog 156 #[.agg #[.func (.func 136) #[] #[.pointer (some ⟨c,0,none⟩)], .func (.func 138) #[] #[.pointer (some ⟨c,0,none⟩)]],exV x ad cap, .int .i64 d] w fun e w'=>e=.returned (.tuple #[]) /\ zC w' c [(.bool ((b&&Ex.zC5 x)))] /\ Keeps (fun q=>q=c) w w':=by
 refine Ex.ind (fun k num nm l ih hn w F ad cap c d b h hF hc hb=>?_)
 have HL:Hid (zO w F l ad):=h;have IH:=yB ih;have HF:=yB hF;have HCR:=yB hc;have HN:Hid (Ex.zBg l):=hn.args;have hl:=Ex.zAv l;have hcn:Ex.cnt (.mk k num nm l)=1+Ex.zX l:=by simp [Ex.cnt]
 rw [hcn] at hb;have hb2:l.length < 1000000000:=by omega
 have hd2:d < 1000000000:=by omega
 have HB:=yB hb;obtain ⟨tot,ht⟩:∃ t:Bool,t=(b&&Ex.zC5 (Ex.mk k num nm l)):=⟨_,rfl⟩
 have HT:Hid (((b&&zA6 k num nm l.length)&&Ex.zDR l)=tot):=by
  show _=_
  rw [ht];simp only [Ex.zC5,Bool.and_assoc]
 rw [<- ht];have HCL:Hid (∀ W,zC W c [(.bool b)] -> Calls Tryz.prog 138 #[.agg #[.int .i64 k, .int .i64 num, .string nm, .slice ad l.length cap], .int .i64 d, .pointer (some ⟨c,0,none⟩)] W fun e w'=>e=.returned (.tuple #[]) /\ zC w' c [(.bool (b&&zA6 k num nm l.length))] /\ Keeps (fun q=>q=c) W w'):=fun W h=>zOT (.mk k num nm l) hn W ad cap c d b h
 have hlt0:=hc.lt (by simp);have hlt:=yB hlt0;clear h hF hc ih hl hcn hb ht hlt0 hn;show Calls _ _ #[_, .agg #[.int .i64 k, .int .i64 num, .string nm, .slice ad l.length cap],_] _ _
 have hw:IntKind.i64.wrap ((d:Int)+1)=(d:Int)+1:=vW _ (by omega) (by omega);go_enter Tryz.func156,Tryz.ntmps156
 go_upto_region 1 with fail
 obtain ⟨b3,hb3⟩:∃ z,z=w.heap.size:=⟨_,rfl⟩
 obtain ⟨b4,hb4⟩:∃ z,z=w.heap.size+1:=⟨_,rfl⟩
 have hr3:zC ((w.alloc (.cells #[.func (.func 136) #[] #[.pointer (some ⟨c,0,none⟩)], .func (.func 138) #[] #[.pointer (some ⟨c,0,none⟩)]] 224)).alloc (.cells #[.int .i64 k, .int .i64 num, .string nm, .slice ad l.length cap] 72)) b3 [.func (.func 136) #[] #[.pointer (some ⟨c,0,none⟩)], .func (.func 138) #[] #[.pointer (some ⟨c,0,none⟩)]]:=J190 _;have hr4:zC ((w.alloc (.cells #[.func (.func 136) #[] #[.pointer (some ⟨c,0,none⟩)], .func (.func 138) #[] #[.pointer (some ⟨c,0,none⟩)]] 224)).alloc (.cells #[.int .i64 k, .int .i64 num, .string nm, .slice ad l.length cap] 72)) b4 [.int .i64 k, .int .i64 num, .string nm, .slice ad l.length cap]:=J199 _;have hk1:Keeps zA w ((w.alloc (.cells #[.func (.func 136) #[] #[.pointer (some ⟨c,0,none⟩)], .func (.func 138) #[] #[.pointer (some ⟨c,0,none⟩)]] 224)).alloc (.cells #[.int .i64 k, .int .i64 num, .string nm, .slice ad l.length cap] 72)):=((yC _ _).alloc _).alloc _;rw [<- hb4,<- hb3];generalize (w.alloc (.cells #[.func (.func 136) #[] #[.pointer (some ⟨c,0,none⟩)], .func (.func 138) #[] #[.pointer (some ⟨c,0,none⟩)]] 224)).alloc (.cells #[.int .i64 k, .int .i64 num, .string nm, .slice ad l.length cap] 72)=w1 at hr3 hr4 hk1 ⊢;have HNE:Hid (b3 ≠ c /\ b4 ≠ c):=⟨by have:=hlt.out;omega,by have:=hlt.out;omega⟩;have R3:=yB hr3;have R4:=yB hr4;have K1:=yB hk1;have RC:Hid (zC w1 c [(.bool b)]):=HCR.out.keeps hk1 (fun h=>h);have y0:=hr3.cell (k:=1) (v:=.func (.func 138) #[] #[.pointer (some ⟨c,0,none⟩)]) rfl;obtain ⟨d0,d1,d2,d3⟩:=hr4.four;clear hr3 hr4 hk1 hb3 hb4;go_upto_region 2 with (go_at_call 138;refine (HCL.out _ RC.out).mono ?_;rintro e w2 ⟨rfl,r2,g2⟩;have R2:=yB r2;have G2:=yB g2;clear r2 g2)
 have c3:=(R4.out.keeps G2.out (fun e=>HNE.out.2 e)).cell (k:=3) (v:=.slice ad l.length cap) rfl;clear d0 d1 d2 d3 y0 RC HCL HCR;go_wp2_with fail
 go_loopw [16] (fun iv wr=>∃ (i:Nat) (v:Bool),i <= l.length /\ iv=.int .i64 i /\ Hid (zC wr c [(.bool v)]) /\ Hid ((v&&Ex.zDR (l.drop i))=tot) /\ Hid (Keeps (fun q=>q=c) w1 wr)) (fun iv _=>l.length - (intOf iv).toNat)
 case atStart=>exact ⟨0,(b&&zA6 k num nm l.length),yJ _,rfl,R2,by show _=_;rw [yR];exact HT.out,G2⟩
 case round =>
  obtain ⟨i,v,hi,rfl,HV,HD,HK⟩:=hrel;by_cases hlt:i < l.length
  ·have i1:(0:Int) <= i:=by omega
   have i2:(i:Int) < l.length:=by omega
   have hd:=HD.out;rw [drop_at hlt] at hd;simp only [Ex.zDR] at hd;have hFc:∀ q,F q -> ¬ (fun q=>q=c) q:=fun q hq e=>HF.out (J197 _)
   obtain ⟨g,o,a,ca,e1,hg,d0,d1,d2,d3,hx⟩:=((HL.out.keeps K1.out (fun _ _ h=>h):zO w1 F l ad).keeps HK.out hFc).at hlt;subst e1
   have HC:Hid (∀ W,Keeps zA wr W -> Calls Tryz.prog 156 #[.agg #[.func (.func 136) #[] #[.pointer (some ⟨c,0,none⟩)], .func (.func 138) #[] #[.pointer (some ⟨c,0,none⟩)]], .agg #[.int .i64 l[i].kind, .int .i64 l[i].num, .string l[i].nm, .slice a l[i].args.length ca], .int .i64 ((d:Int)+1)] W fun e w'=>e=.returned (.tuple #[]) /\ zC w' c [(.bool ((v&&Ex.zC5 l[i])))] /\ Keeps (fun q=>q=c) W w'):=fun W hk=>by
    have e:((d+1:Nat):Int)=(d:Int)+1:=by omega
    rw [<- e];have hcl:=Ex.zCA (yN hlt);have hbt:=HB.out;exact IH.out _ (yN hlt) (Ex.zDu HN.out (yN hlt)) W F a ca c (d+1) v (hx.keeps hk (fun _ _ h=>h)) HF.out (HV.out.keeps hk (fun h=>h)) (by omega)
   obtain ⟨v2,hv2⟩:∃ v2:Bool,v2=(v&&Ex.zC5 l[i]):=⟨_,rfl⟩
   have HD2:Hid ((v2&&Ex.zDR (l.drop (i+1)))=tot):=by
    show _=_
    rw [hv2,<- hd];rw [Bool.and_assoc]
   rw [<- hv2] at HC;clear hx hFc hd hv2;generalize l[i].kind=x0 at d0 HC;generalize l[i].num=x1 at d1 HC;generalize l[i].nm=x2 at d2 HC;generalize l[i].args.length=x3 at d3 HC;go_upto_region 5 with fail
   obtain ⟨b7,hb7⟩:∃ z,z=wr.heap.size:=⟨_,rfl⟩
   have hr7:zC (wr.alloc (.cells #[.int .i64 x0, .int .i64 x1, .string x2, .slice a x3 ca] 72)) b7 [.int .i64 x0, .int .i64 x1, .string x2, .slice a x3 ca]:=J183 _;have hk7:Keeps zA wr (wr.alloc (.cells #[.int .i64 x0, .int .i64 x1, .string x2, .slice a x3 ca] 72)):=(yC _ _).alloc _;rw [<- hb7];generalize wr.alloc (.cells #[.int .i64 x0, .int .i64 x1, .string x2, .slice a x3 ca] 72)=w7 at hr7 hk7 ⊢;obtain ⟨y0,y1,y2,y3⟩:=hr7.four;have r3:=(R3.out.keeps HK.out (fun e=>HNE.out.1 e)).keeps hk7 (fun h=>h);have q0:=r3.cell (k:=0) (v:=.func (.func 136) #[] #[.pointer (some ⟨c,0,none⟩)]) rfl;have q1:=r3.cell (k:=1) (v:=.func (.func 138) #[] #[.pointer (some ⟨c,0,none⟩)]) rfl;exact J26 _
  ·obtain rfl:i=l.length:=by omega
   have hd:=HD.out;rw [xN] at hd;simp only [Ex.zDR] at hd;have hd2:v=tot:=by rw [<- hd];simp
   exact J15 _
end Go.Proofs.YtfjgcedkfnmdkaaGreatDoor
namespace Go.Proofs.YtfjgcedkfnmdkaaGreatDoor
theorem Ex.zFq (x:Ex):x.there=(x.kind != 0 || x.args.length != 0):=by
 obtain ⟨k,n,s,l⟩:=x;show (k != 0 || !l.isEmpty)=(k != 0 || l.length != 0)
 cases l <;> simp
theorem St.zMY (x:St):x.form=(zGF x.kind x.reg x.name x.ex x.count x.thn.length x.els.length&&(!x.ex.there || x.ex.zC5)&&St.zBH x.thn&&St.zBH x.els):=by
 cases x;simp only [St.form,St.kind,St.reg,St.name,St.ex,St.count,St.thn,St.els]
theorem St.zEF (x:St):x.cnt=1+(if x.ex.there then x.ex.cnt else 0)+St.zX x.thn+St.zX x.els:=by
 cases x;simp only [St.cnt];rfl
theorem St.zJJ (d:Nat) (x:St):x.deep d=max (max d (if x.ex.there then x.ex.dep else 0)) (max (St.zq (d+1) x.thn) (St.zq (d+1) x.els)):=by
 cases x;simp only [St.deep];rfl
mutual
theorem St.zLO:(x:St) -> x.cnt <= x.sz
 | .mk k r n x c t e=>by
   have h1:=St.zDJ t;have h2:=St.zDJ e;simp only [St.cnt,St.sz];split <;> omega
theorem St.zDJ:(l:List St) -> St.zX l <= St.szL l
 | []=>xC _
 | x :: r=>by
   have h1:=St.zLO x;have h2:=St.zDJ r;simp only [St.zX,St.szL];omega
end
mutual
theorem St.zNR (d:Nat):(x:St) -> x.deep d <= d+x.sz
 | .mk k r n x c t e=>by
   have h1:=St.zCf (d+1) t;have h2:=St.zCf (d+1) e;have h3:=Ex.zGp x;simp only [St.deep,St.sz];split <;> omega
theorem St.zCf (d:Nat):(l:List St) -> St.zq d l <= d+St.szL l
 | []=>by simp only [St.zq];omega
 | x :: r=>by
   have h1:=St.zNR d x;have h2:=St.zCf d r;simp only [St.zq,St.szL];omega
end
theorem St.room:∀ (i:Nat) (l:List St),St.zX l+St.szL (l.drop i) <= St.szL l+St.zX (l.drop i)
 | 0,l=>by rw [yR];omega
 | i+1,[]=>by simp [St.zX,St.szL]
 | i+1,x :: r=>by
   have h1:=St.room i r;have h2:=St.zLO x;rw [yS];simp only [St.zX,St.szL];omega
end Go.Proofs.YtfjgcedkfnmdkaaGreatDoor
