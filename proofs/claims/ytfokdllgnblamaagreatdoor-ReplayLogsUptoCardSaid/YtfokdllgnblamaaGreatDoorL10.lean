/- Layer L: texts joined. -/
import Derived.Test.YtfokdllgnblamaaGreatDoorL09
set_option linter.all false
namespace Go.Proofs.YtfokdllgnblamaaGreatDoor
open Go.RowKit
abbrev vR:=@Go.wrap_small
theorem J13 (P:Prop) (h:P:=by
 subst hd2;go_wp2_with fail
 go_end0
 exact ⟨rfl,HV.out,(K1.out.mono (S:=fun q=>q=c) (fun _ _ h=>False.elim h)).trans HK.out (fun _ _ h=>h)⟩):P:=h
theorem J22 (P:Prop) (h:P:=by
 have K7:=yA hk7;clear hr7 hk7 r3 hb7 d0 d1 d2 d3 c3;go_wp2_with (go_at_call 147;refine (HC.out _ K7.out).mono ?_;rintro e w8 ⟨rfl,r8,g8⟩;have R8:=yA r8;have G8:=yA g8;clear r8 g8)
 go_roundw
 case rel=>exact ⟨i+1,v2,by omega,by go_num,R8,HD2,(HK.out.trans K7.out (fun _ _ h=>False.elim h)).trans G8.out (fun _ _ h=>h)⟩
 case measure=>simp [intOf];omega):P:=h
theorem J74 (P:Prop) (h:P:=by
 go_wp2_with fail
 go_end0
 exact ⟨rfl,RC.out.set 0 (by simp) _,(K1.out.mono (S:=fun q=>q=c) (fun _ _ h=>False.elim h)).setCell (p:=⟨c,0,none⟩) (fun _=>rfl) _⟩):P:=h
theorem J75 (P:Prop) (h:P:=by
 go_end0
 exact ⟨rfl,R2.out.set 0 (by simp) _,((K1.out.zB G1.out).mono (S:=fun q=>q=c) (fun _ _ h=>False.elim h)).setCell (p:=⟨c,0,none⟩) (fun _=>rfl) _⟩):P:=h
theorem J156 (P:Prop) (h:P:=by rw [hb7];exact yM (yG wr _)):P:=h
theorem J169 (P:Prop) (h:P:=by have e':q=c:=e;rw [<- e'];exact hq):P:=h
theorem J172 (P:Prop) (h:P:=by rw [hb4];exact yM (zf w _ _)):P:=h
def zJ8 (s:ByteArray):Prop:=s=xNm \/ s=zu
def kOk (k:Int):Prop:=-9223372036854775808 <= k /\ k < 9223372036854775808
mutual
def Ex.nice:Ex -> Prop
 | .mk k _ nm l=>(k=2 -> zJ8 nm) /\ Ex.zBX l
def Ex.zBX:List Ex -> Prop
 | []=>True
 | x :: r=>Ex.nice x /\ Ex.zBX r
end
mutual
def St.nice:St -> Prop
 | .mk k r n x _ t e=>kOk k /\ zJ8 r /\ zJ8 n /\ x.nice /\ St.zBX t /\ St.zBX e
def St.zBX:List St -> Prop
 | []=>True
 | x :: r=>St.nice x /\ St.zBX r
end
mutual
def Ac.kinds:Ac -> Prop
 | .mk k _ _ _ _ t e=>kOk k /\ Ac.zBi t /\ Ac.zBi e
def Ac.zBi:List Ac -> Prop
 | []=>True
 | x :: r=>Ac.kinds x /\ Ac.zBi r
end
theorem Ex.nice.kind {x:Ex} (h:x.nice):x.kind=2 -> x.nm=xNm \/ x.nm=zu:=by
 cases x;simp only [Ex.nice] at h;exact h.1
theorem Ex.nice.args {x:Ex} (h:x.nice):Ex.zBX x.args:=by
 cases x;simp only [Ex.nice] at h;exact h.2
theorem Ex.zDk {l:List Ex} (h:Ex.zBX l) {y:Ex} (hy:y ∈ l):y.nice:=by
 induction l with
 | nil=>cases hy
 | cons x r ih =>
   simp only [Ex.zBX] at h;rcases xU.1 hy with e | e
   ·subst e;exact h.1
   ·exact ih h.2 e
theorem St.zDk {l:List St} (h:St.zBX l) {y:St} (hy:y ∈ l):y.nice:=by
 induction l with
 | nil=>cases hy
 | cons x r ih =>
   simp only [St.zBX] at h;rcases xU.1 hy with e | e
   ·subst e;exact h.1
   ·exact ih h.2 e
theorem St.zI5 {x:St} (h:x.nice):kOk x.kind /\ zJ8 x.reg /\ zJ8 x.name /\ x.ex.nice /\ St.zBX x.thn /\ St.zBX x.els:=by
 cases x;simp only [St.nice] at h;exact h
theorem zEr (n i:Int):zJ8 (nameAt n i):=by
 unfold nameAt;split
 ·exact .inl rfl
 ·exact .inr rfl
mutual
theorem Ex.zC5 (regs:Int):(x:Ex) -> (x.named regs).nice
 | .mk k num nm l=>by
   have h:=Ex.zBH regs l;simp only [Ex.named,Ex.nice];refine ⟨fun hk=>?_,h⟩
   rw [if_pos hk];split
   ·exact zEr _ _
   ·exact .inr rfl
theorem Ex.zBH (regs:Int):(l:List Ex) -> Ex.zBX (Ex.zO regs l)
 | []=>trivial
 | x :: r=>by
   have h1:=Ex.zC5 regs x;have h2:=Ex.zBH regs r;simp only [Ex.zO,Ex.zBX];exact ⟨h1,h2⟩
end
mutual
theorem Ac.zC5 (u:Un) (regs:Int):(x:Ac) -> x.kinds -> (x.named u regs).nice
 | .mk k reg obj ex c t e,h=>by
   simp only [Ac.kinds] at h;have h1:=Ac.zBH u regs t h.2.1;have h2:=Ac.zBH u regs e h.2.2;simp only [Ac.named,St.nice];refine ⟨?_,?_,?_,Ex.zC5 regs ex,h1,h2⟩
   ·unfold zCF
    split
    ·exact ⟨by decide,by decide⟩
    ·exact h.1
   ·split
    ·exact zEr _ _
    ·exact .inr rfl
   ·unfold stName
    split
    ·exact zEr _ _
    ·exact .inr rfl
theorem Ac.zBH (u:Un) (regs:Int):(l:List Ac) -> Ac.zBi l -> St.zBX (Ac.zO u regs l)
 | [],_=>trivial
 | x :: r,h=>by
   simp only [Ac.zBi] at h;have h1:=Ac.zC5 u regs x h.1;have h2:=Ac.zBH u regs r h.2;simp only [Ac.zO,St.zBX];exact ⟨h1,h2⟩
end
theorem zIk (x:St) (hn:x.nice) (w:World) (xa ta ea:Option Addr) (xc tc ec:Nat) :
 Calls Tryz.prog 128 #[stV x xa xc ta tc ea ec] w fun e w'=>e=.returned (.bool (zF9 x.kind x.reg x.name x.ex x.count x.thn.length x.els.length)) /\ Keeps zA w w':=by
 obtain ⟨h1,h2,h3,_⟩:=St.zI5 hn
 have e1:(x.ex.kind==0&&x.ex.num==0&&zW x.ex.nm&&x.ex.args.length==0)=x.ex.none:=by
  obtain ⟨k,r,o,⟨a,b,c,l⟩,cn,t,e⟩:=x;show (a==0&&b==0&&zW c&&l.length==0)=(a==0&&b==0&&zW c&&l.isEmpty)
  cases l <;> simp
 exact zHy x.kind x.ex.kind x.ex.num x.count x.reg x.name x.ex.nm xa ta ea x.ex.args.length xc x.thn.length tc x.els.length ec (decide (1 <= x.kind /\ x.kind <= 11)) (fields x.kind).reg (fields x.kind).name (fields x.kind).ex (fields x.kind).count (fields x.kind).thn (fields x.kind).els
  (zCD x.reg (fields x.kind).reg) (zCD x.name (fields x.kind).name) x.ex.none (x.count==0 || (fields x.kind).count&&decide (0 < x.count)&&decide (x.count <= 1000)) _ w
  (fun W g h=>zIt x.kind h1 W g h) (fun W=>zL5 _ h2 _ W) (fun W=>zL5 _ h3 _ W) e1.symm rfl rfl
theorem zOR (x:Ex) (hn:x.nice) (w:World) (ad:Option Addr) (cap c:Nat) (d:Int) (b:Bool) (h:zC w c [.bool b]) :
 Calls Tryz.prog 129 #[exV x ad cap, .int .i64 d, .pointer (some ⟨c,0,none⟩)] w fun e w'=>e=.returned (.tuple #[]) /\ zC w' c [.bool (b&&zAv x.kind x.num x.nm x.args.length)] /\ Keeps (fun q=>q=c) w w':=by
 have HX:Hid (∀ W,Calls Tryz.prog 130 #[.agg #[.int .i64 x.kind, .int .i64 x.num, .string x.nm, .slice ad x.args.length cap]] W fun e w'=>e=.returned (.bool (zAv x.kind x.num x.nm x.args.length)) /\ Keeps zA W w'):=fun W=>zIK x hn.kind W ad cap
 show Calls _ _ #[.agg #[.int .i64 x.kind, .int .i64 x.num, .string x.nm, .slice ad x.args.length cap],_,_] _ _
 obtain ⟨q,hq⟩:∃ q,q=zAv x.kind x.num x.nm x.args.length:=⟨_,rfl⟩
 rw [<- hq] at HX ⊢;generalize x.kind=x0 at HX ⊢;generalize x.num=x1 at HX ⊢;generalize x.nm=x2 at HX ⊢;generalize x.args.length=x3 at HX ⊢;clear hq;have HC:=yA h;have hlt:=h.lt (by simp);clear h;go_enter Tryz.func129,Tryz.ntmps129
 go_upto_region 1 with fail
 obtain ⟨b1,hb1⟩:∃ z,z=w.heap.size:=⟨_,rfl⟩
 have hr1:zC (w.alloc (.cells #[.int .i64 x0, .int .i64 x1, .string x2, .slice ad x3 cap] 65)) b1 [.int .i64 x0, .int .i64 x1, .string x2, .slice ad x3 cap]:=J151 _;have hk1:Keeps zA w (w.alloc (.cells #[.int .i64 x0, .int .i64 x1, .string x2, .slice ad x3 cap] 65)):=(yB _ _).alloc _;rw [<- hb1];generalize w.alloc (.cells #[.int .i64 x0, .int .i64 x1, .string x2, .slice ad x3 cap] 65)=w1 at hr1 hk1 ⊢;have rc:=HC.out.keeps hk1 (fun h=>h);have cc:=rc.cell (k:=0) (v:=.bool b) rfl;have fc:=rc.free (k:=0) (by simp);obtain ⟨d0,d1,d2,d3⟩:=hr1.four;have RC:=yA rc;have K1:=yA hk1;clear hr1 hk1 hb1 rc;cases b
 ·exact J74 _
 ·go_wp2_with (go_at_call 130;refine (HX.out _).mono ?_;rintro e w2 ⟨rfl,g1⟩;have r2:=RC.out.keeps g1 (fun h=>h);have cc2:=r2.cell (k:=0) (v:=.bool true) rfl;have fc2:=r2.free (k:=0) (by simp);have R2:=yA r2;have G1:=yA g1;clear g1 r2 cc fc)
  exact J75 _
theorem zOX (x:St) (hn:x.nice) (w:World) (xa ta ea:Option Addr) (xc tc ec c:Nat) (d:Int) (b:Bool) (h:zC w c [.bool b]) :
 Calls Tryz.prog 127 #[stV x xa xc ta tc ea ec, .int .i64 d, .pointer (some ⟨c,0,none⟩)] w fun e w'=>e=.returned (.tuple #[]) /\ zC w' c [.bool (b&&zF9 x.kind x.reg x.name x.ex x.count x.thn.length x.els.length)] /\ Keeps (fun q=>q=c) w w':=by
 have HX:=yA (fun W=>zIk x hn W xa ta ea xc tc ec);obtain ⟨q,hq⟩:∃ q,q=zF9 x.kind x.reg x.name x.ex x.count x.thn.length x.els.length:=⟨_,rfl⟩
 rw [<- hq] at HX ⊢;unfold stV at HX ⊢;generalize x.kind=x0 at HX ⊢;generalize x.reg=x1 at HX ⊢;generalize x.name=x2 at HX ⊢;generalize x.ex.kind=x3 at HX ⊢;generalize x.ex.num=x4 at HX ⊢;generalize x.ex.nm=x5 at HX ⊢;generalize x.ex.args.length=x6 at HX ⊢;generalize x.count=x7 at HX ⊢;generalize x.thn.length=x8 at HX ⊢;generalize x.els.length=x9 at HX ⊢;clear hq;have HC:=yA h;have hlt:=h.lt (by simp);clear h;go_enter Tryz.func127,Tryz.ntmps127
 go_upto_region 1 with fail
 obtain ⟨b1,hb1⟩:∃ z,z=w.heap.size:=⟨_,rfl⟩
 have hr1:zC (w.alloc (.cells #[.int .i64 x0, .string x1, .string x2, .int .i64 x3, .int .i64 x4, .string x5, .slice xa x6 xc, .int .i64 x7, .slice ta x8 tc, .slice ea x9 ec] 182)) b1 [.int .i64 x0, .string x1, .string x2, .int .i64 x3, .int .i64 x4, .string x5, .slice xa x6 xc, .int .i64 x7, .slice ta x8 tc, .slice ea x9 ec]:=J151 _;have hk1:Keeps zA w (w.alloc (.cells #[.int .i64 x0, .string x1, .string x2, .int .i64 x3, .int .i64 x4, .string x5, .slice xa x6 xc, .int .i64 x7, .slice ta x8 tc, .slice ea x9 ec] 182)):=(yB _ _).alloc _;rw [<- hb1];generalize w.alloc (.cells #[.int .i64 x0, .string x1, .string x2, .int .i64 x3, .int .i64 x4, .string x5, .slice xa x6 xc, .int .i64 x7, .slice ta x8 tc, .slice ea x9 ec] 182)=w1 at hr1 hk1 ⊢;have rc:=HC.out.keeps hk1 (fun h=>h);have cc:=rc.cell (k:=0) (v:=.bool b) rfl;have fc:=rc.free (k:=0) (by simp);obtain ⟨d0,d1,d2,d3,d4,d5,d6,d7,d8,d9⟩:=hr1.ten;have RC:=yA rc;have K1:=yA hk1;clear hr1 hk1 hb1 rc;cases b
 ·exact J74 _
 ·go_wp2_with (go_at_call 128;refine (HX.out _).mono ?_;rintro e w2 ⟨rfl,g1⟩;have r2:=RC.out.keeps g1 (fun h=>h);have cc2:=r2.cell (k:=0) (v:=.bool true) rfl;have fc2:=r2.free (k:=0) (by simp);have R2:=yA r2;have G1:=yA g1;clear g1 r2 cc fc)
  exact J75 _
theorem zMx:∀ (x:Ex),x.nice -> ∀ (w:World) (F:Nat -> Prop) (ad:Option Addr) (cap c d:Nat) (b:Bool),zQ w F x.args ad -> ¬ F c -> zC w c [(.bool b)] -> d+x.cnt < 1000000000 →
 Calls Tryz.prog 147 #[.agg #[.func (.func 127) #[] #[.pointer (some ⟨c,0,none⟩)], .func (.func 129) #[] #[.pointer (some ⟨c,0,none⟩)]],exV x ad cap, .int .i64 d] w fun e w'=>e=.returned (.tuple #[]) /\ zC w' c [(.bool ((b&&Ex.zCr x)))] /\ Keeps (fun q=>q=c) w w':=by
 refine Ex.ind (fun k num nm l ih hn w F ad cap c d b h hF hc hb=>?_)
 have HL:Hid (zQ w F l ad):=h;have IH:=yA ih;have HF:=yA hF;have HCR:=yA hc;have HN:Hid (Ex.zBX l):=hn.args;have hl:=Ex.zAg l;have hcn:Ex.cnt (.mk k num nm l)=1+Ex.zY l:=by simp [Ex.cnt]
 rw [hcn] at hb;have hb2:l.length < 1000000000:=by omega
 have hd2:d < 1000000000:=by omega
 have HB:=yA hb;obtain ⟨tot,ht⟩:∃ t:Bool,t=(b&&Ex.zCr (Ex.mk k num nm l)):=⟨_,rfl⟩
 have HT:Hid (((b&&zAv k num nm l.length)&&Ex.zC1 l)=tot):=by
  show _=_
  rw [ht];simp only [Ex.zCr,Bool.and_assoc]
 rw [<- ht];have HCL:Hid (∀ W,zC W c [(.bool b)] -> Calls Tryz.prog 129 #[.agg #[.int .i64 k, .int .i64 num, .string nm, .slice ad l.length cap], .int .i64 d, .pointer (some ⟨c,0,none⟩)] W fun e w'=>e=.returned (.tuple #[]) /\ zC w' c [(.bool (b&&zAv k num nm l.length))] /\ Keeps (fun q=>q=c) W w'):=fun W h=>zOR (.mk k num nm l) hn W ad cap c d b h
 have hlt0:=hc.lt (by simp);have hlt:=yA hlt0;clear h hF hc ih hl hcn hb ht hlt0 hn;show Calls _ _ #[_, .agg #[.int .i64 k, .int .i64 num, .string nm, .slice ad l.length cap],_] _ _
 have hw:IntKind.i64.wrap ((d:Int)+1)=(d:Int)+1:=vR _ (by omega) (by omega);go_enter Tryz.func147,Tryz.ntmps147
 go_upto_region 1 with fail
 obtain ⟨b3,hb3⟩:∃ z,z=w.heap.size:=⟨_,rfl⟩
 obtain ⟨b4,hb4⟩:∃ z,z=w.heap.size+1:=⟨_,rfl⟩
 have hr3:zC ((w.alloc (.cells #[.func (.func 127) #[] #[.pointer (some ⟨c,0,none⟩)], .func (.func 129) #[] #[.pointer (some ⟨c,0,none⟩)]] 217)).alloc (.cells #[.int .i64 k, .int .i64 num, .string nm, .slice ad l.length cap] 65)) b3 [.func (.func 127) #[] #[.pointer (some ⟨c,0,none⟩)], .func (.func 129) #[] #[.pointer (some ⟨c,0,none⟩)]]:=J161 _;have hr4:zC ((w.alloc (.cells #[.func (.func 127) #[] #[.pointer (some ⟨c,0,none⟩)], .func (.func 129) #[] #[.pointer (some ⟨c,0,none⟩)]] 217)).alloc (.cells #[.int .i64 k, .int .i64 num, .string nm, .slice ad l.length cap] 65)) b4 [.int .i64 k, .int .i64 num, .string nm, .slice ad l.length cap]:=J172 _;have hk1:Keeps zA w ((w.alloc (.cells #[.func (.func 127) #[] #[.pointer (some ⟨c,0,none⟩)], .func (.func 129) #[] #[.pointer (some ⟨c,0,none⟩)]] 217)).alloc (.cells #[.int .i64 k, .int .i64 num, .string nm, .slice ad l.length cap] 65)):=((yB _ _).alloc _).alloc _;rw [<- hb4,<- hb3];generalize (w.alloc (.cells #[.func (.func 127) #[] #[.pointer (some ⟨c,0,none⟩)], .func (.func 129) #[] #[.pointer (some ⟨c,0,none⟩)]] 217)).alloc (.cells #[.int .i64 k, .int .i64 num, .string nm, .slice ad l.length cap] 65)=w1 at hr3 hr4 hk1 ⊢;have HNE:Hid (b3 ≠ c /\ b4 ≠ c):=⟨by have:=hlt.out;omega,by have:=hlt.out;omega⟩;have R3:=yA hr3;have R4:=yA hr4;have K1:=yA hk1;have RC:Hid (zC w1 c [(.bool b)]):=HCR.out.keeps hk1 (fun h=>h);have y0:=hr3.cell (k:=1) (v:=.func (.func 129) #[] #[.pointer (some ⟨c,0,none⟩)]) rfl;obtain ⟨d0,d1,d2,d3⟩:=hr4.four;clear hr3 hr4 hk1 hb3 hb4;go_upto_region 2 with (go_at_call 129;refine (HCL.out _ RC.out).mono ?_;rintro e w2 ⟨rfl,r2,g2⟩;have R2:=yA r2;have G2:=yA g2;clear r2 g2)
 have c3:=(R4.out.keeps G2.out (fun e=>HNE.out.2 e)).cell (k:=3) (v:=.slice ad l.length cap) rfl;clear d0 d1 d2 d3 y0 RC HCL HCR;go_wp2_with fail
 go_loopw [16] (fun iv wr=>∃ (i:Nat) (v:Bool),i <= l.length /\ iv=.int .i64 i /\ Hid (zC wr c [(.bool v)]) /\ Hid ((v&&Ex.zC1 (l.drop i))=tot) /\ Hid (Keeps (fun q=>q=c) w1 wr)) (fun iv _=>l.length - (intOf iv).toNat)
 case atStart=>exact ⟨0,(b&&zAv k num nm l.length),yH _,rfl,R2,by show _=_;rw [yQ];exact HT.out,G2⟩
 case round =>
  obtain ⟨i,v,hi,rfl,HV,HD,HK⟩:=hrel;by_cases hlt:i < l.length
  ·have i1:(0:Int) <= i:=by omega
   have i2:(i:Int) < l.length:=by omega
   have hd:=HD.out;rw [drop_at hlt] at hd;simp only [Ex.zC1] at hd;have hFc:∀ q,F q -> ¬ (fun q=>q=c) q:=fun q hq e=>HF.out (J169 _)
   obtain ⟨g,o,a,ca,e1,hg,d0,d1,d2,d3,hx⟩:=((HL.out.keeps K1.out (fun _ _ h=>h):zQ w1 F l ad).keeps HK.out hFc).at hlt;subst e1
   have HC:Hid (∀ W,Keeps zA wr W -> Calls Tryz.prog 147 #[.agg #[.func (.func 127) #[] #[.pointer (some ⟨c,0,none⟩)], .func (.func 129) #[] #[.pointer (some ⟨c,0,none⟩)]], .agg #[.int .i64 l[i].kind, .int .i64 l[i].num, .string l[i].nm, .slice a l[i].args.length ca], .int .i64 ((d:Int)+1)] W fun e w'=>e=.returned (.tuple #[]) /\ zC w' c [(.bool ((v&&Ex.zCr l[i])))] /\ Keeps (fun q=>q=c) W w'):=fun W hk=>by
    have e:((d+1:Nat):Int)=(d:Int)+1:=by omega
    rw [<- e];have hcl:=Ex.zB6 (yL hlt);have hbt:=HB.out;exact IH.out _ (yL hlt) (Ex.zDk HN.out (yL hlt)) W F a ca c (d+1) v (hx.keeps hk (fun _ _ h=>h)) HF.out (HV.out.keeps hk (fun h=>h)) (by omega)
   obtain ⟨v2,hv2⟩:∃ v2:Bool,v2=(v&&Ex.zCr l[i]):=⟨_,rfl⟩
   have HD2:Hid ((v2&&Ex.zC1 (l.drop (i+1)))=tot):=by
    show _=_
    rw [hv2,<- hd];rw [Bool.and_assoc]
   rw [<- hv2] at HC;clear hx hFc hd hv2;generalize l[i].kind=x0 at d0 HC;generalize l[i].num=x1 at d1 HC;generalize l[i].nm=x2 at d2 HC;generalize l[i].args.length=x3 at d3 HC;go_upto_region 5 with fail
   obtain ⟨b7,hb7⟩:∃ z,z=wr.heap.size:=⟨_,rfl⟩
   have hr7:zC (wr.alloc (.cells #[.int .i64 x0, .int .i64 x1, .string x2, .slice a x3 ca] 65)) b7 [.int .i64 x0, .int .i64 x1, .string x2, .slice a x3 ca]:=J156 _;have hk7:Keeps zA wr (wr.alloc (.cells #[.int .i64 x0, .int .i64 x1, .string x2, .slice a x3 ca] 65)):=(yB _ _).alloc _;rw [<- hb7];generalize wr.alloc (.cells #[.int .i64 x0, .int .i64 x1, .string x2, .slice a x3 ca] 65)=w7 at hr7 hk7 ⊢;obtain ⟨y0,y1,y2,y3⟩:=hr7.four;have r3:=(R3.out.keeps HK.out (fun e=>HNE.out.1 e)).keeps hk7 (fun h=>h);have q0:=r3.cell (k:=0) (v:=.func (.func 127) #[] #[.pointer (some ⟨c,0,none⟩)]) rfl;have q1:=r3.cell (k:=1) (v:=.func (.func 129) #[] #[.pointer (some ⟨c,0,none⟩)]) rfl;exact J22 _
  ·obtain rfl:i=l.length:=by omega
   have hd:=HD.out;rw [xI] at hd;simp only [Ex.zC1] at hd;have hd2:v=tot:=by rw [<- hd];simp
   exact J13 _
end Go.Proofs.YtfokdllgnblamaaGreatDoor
namespace Go.Proofs.YtfokdllgnblamaaGreatDoor
theorem Ex.zF1 (x:Ex):x.there=(x.kind != 0 || x.args.length != 0):=by
 obtain ⟨k,n,s,l⟩:=x;show (k != 0 || !l.isEmpty)=(k != 0 || l.length != 0)
 cases l <;> simp
theorem St.zMg (x:St):x.form=(zF9 x.kind x.reg x.name x.ex x.count x.thn.length x.els.length&&(!x.ex.there || x.ex.zCr)&&St.zA8 x.thn&&St.zA8 x.els):=by
 cases x;simp only [St.form,St.kind,St.reg,St.name,St.ex,St.count,St.thn,St.els]
theorem St.zFq (x:St):x.cnt=1+(if x.ex.there then x.ex.cnt else 0)+St.zY x.thn+St.zY x.els:=by
 cases x;simp only [St.cnt];rfl
theorem St.zJE (d:Nat) (x:St):x.deep d=max (max d (if x.ex.there then x.ex.dep else 0)) (max (St.zm (d+1) x.thn) (St.zm (d+1) x.els)):=by
 cases x;simp only [St.deep];rfl
mutual
theorem St.zLG:(x:St) -> x.cnt <= x.sz
 | .mk k r n x c t e=>by
   have h1:=St.zDA t;have h2:=St.zDA e;simp only [St.cnt,St.sz];split <;> omega
theorem St.zDA:(l:List St) -> St.zY l <= St.szL l
 | []=>yV _
 | x :: r=>by
   have h1:=St.zLG x;have h2:=St.zDA r;simp only [St.zY,St.szL];omega
end
mutual
theorem St.zM8 (d:Nat):(x:St) -> x.deep d <= d+x.sz
 | .mk k r n x c t e=>by
   have h1:=St.zCc (d+1) t;have h2:=St.zCc (d+1) e;have h3:=Ex.zHE x;simp only [St.deep,St.sz];split <;> omega
theorem St.zCc (d:Nat):(l:List St) -> St.zm d l <= d+St.szL l
 | []=>by simp only [St.zm];omega
 | x :: r=>by
   have h1:=St.zM8 d x;have h2:=St.zCc d r;simp only [St.zm,St.szL];omega
end
theorem St.room:∀ (i:Nat) (l:List St),St.zY l+St.szL (l.drop i) <= St.szL l+St.zY (l.drop i)
 | 0,l=>by rw [yQ];omega
 | i+1,[]=>by simp [St.zY,St.szL]
 | i+1,x :: r=>by
   have h1:=St.room i r;have h2:=St.zLG x;rw [yT];simp only [St.zY,St.szL];omega
end Go.Proofs.YtfokdllgnblamaaGreatDoor
