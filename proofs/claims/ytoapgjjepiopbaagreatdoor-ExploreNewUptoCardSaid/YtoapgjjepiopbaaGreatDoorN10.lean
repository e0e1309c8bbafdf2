/- Layer N: texts joined. -/
import Derived.Test.YtoapgjjepiopbaaGreatDoorN09
set_option linter.all false
set_option maxHeartbeats 2000000
set_option maxRecDepth 8000
namespace Go.Proofs.YtoapgjjepiopbaaGreatDoor
open Go.RowKit
theorem J6 (P:Prop) (h:P:=by
 have R39:Hid (zC w9 b3 [.func (.func 134) #[] #[.pointer (some ⟨c,0,none⟩)], .func (.func 136) #[] #[.pointer (some ⟨c,0,none⟩)]]):=R38.out.keeps G9.out (fun e=>HNE.out e);obtain ⟨y0,y1,y2,y3,y4,y5,y6,y7,y8,y9⟩:=R79.out.ten;have q0:=R39.out.cell (k:=0) (v:=.func (.func 134) #[] #[.pointer (some ⟨c,0,none⟩)]) rfl;have q1:=R39.out.cell (k:=1) (v:=.func (.func 136) #[] #[.pointer (some ⟨c,0,none⟩)]) rfl;obtain ⟨v3,hv3⟩:=eX (α:=Bool) ((v2&&St.zAl l[i].thn));have HV3:=Lib.hid hv3;go_upto_region 8 with (go_at_call 191;refine (HT.out _ v2 trivial KR9.out R9.out).mono ?_;rintro e w10 ⟨rfl,r10,g10⟩;rw [<- hv3] at r10;have R10:=Lib.hid r10;have G10:=Lib.hid g10;clear r10 g10)
 clear hv3 y0 y1 y2 y3 y4 y5 y6 y7 y8 y9 q0 q1;have KR10:Hid (Keeps (fun q=>q=c) wr w10):=KR9.out.trans G10.out (fun _ _ h=>h);obtain ⟨y0,y1,y2,y3,y4,y5,y6,y7,y8,y9⟩:=(R79.out.keeps G10.out (fun e=>HN7.out e)).ten;have r3:=R39.out.keeps G10.out (fun e=>HNE.out e);have q0:=r3.cell (k:=0) (v:=.func (.func 134) #[] #[.pointer (some ⟨c,0,none⟩)]) rfl;have q1:=r3.cell (k:=1) (v:=.func (.func 136) #[] #[.pointer (some ⟨c,0,none⟩)]) rfl;clear r3;obtain ⟨v4,hv4⟩:=eX (α:=Bool) ((v3&&St.zAl l[i].els));have HV4:=Lib.hid hv4;go_wp2_with (go_at_call 191;refine (HE.out _ v3 trivial KR10.out R10.out).mono ?_;rintro e w11 ⟨rfl,r11,g11⟩;rw [<- hv4] at r11;have R11:=Lib.hid r11;have G11:=Lib.hid g11;clear r11 g11)
 have HDN:Hid ((v4&&St.zAl (l.drop (i+1)))=tot):=by
  show _=_
  have h1:=HDD.out;rw [HTHE.out] at h1;rw [HV4.out,HV3.out,HV2.out,HV1.out];rw [<- h1];simp [Bool.and_assoc]
 go_roundw
 case rel=>exact ⟨i+1,v4,by omega,by go_num,R11,HDN,HK.out.trans (KR10.out.trans G11.out (fun _ _ h=>h)) (fun _ _ h=>h)⟩
 case measure=>simp [intOf];omega):P:=h
theorem J13 (P:Prop) (h:P:=by
 subst hd2;go_wp2_with fail
 go_end0
 exact ⟨rfl,HV.out,(K1.out.mono (S:=fun q=>q=c) (fun _ _ h=>False.elim h)).trans HK.out (fun _ _ h=>h)⟩):P:=h
theorem J22 (P:Prop) (h:P:=by
 have K7:=Lib.hid hk7;clear hr7 hk7 r3 hb7 d0 d1 d2 d3 c3;go_wp2_with (go_at_call 227;refine (HC.out _ K7.out).mono ?_;rintro e w8 ⟨rfl,r8,g8⟩;have R8:=Lib.hid r8;have G8:=Lib.hid g8;clear r8 g8)
 go_roundw
 case rel=>exact ⟨i+1,v2,by omega,by go_num,R8,HD2,(HK.out.trans K7.out (fun _ _ h=>False.elim h)).trans G8.out (fun _ _ h=>h)⟩
 case measure=>simp [intOf];omega):P:=h
theorem J81 (P:Prop) (h:P:=by
 go_wp2_with fail
 go_end0
 exact ⟨rfl,RC.out.set 0 (by simp) _,(K1.out.mono (S:=fun q=>q=c) (fun _ _ h=>False.elim h)).setCell (p:=⟨c,0,none⟩) (fun _=>rfl) _⟩):P:=h
theorem J82 (P:Prop) (h:P:=by
 go_end0
 exact ⟨rfl,R2.out.set 0 (by simp) _,((K1.out.zB G1.out).mono (S:=fun q=>q=c) (fun _ _ h=>False.elim h)).setCell (p:=⟨c,0,none⟩) (fun _=>rfl) _⟩):P:=h
theorem J118 (P:Prop) (h:P:=by
 clear hv2 y0 y1 y2 y3 y4 y5 y6 y7 y8 y9 q0 q1;have KR9:Hid (Keeps (fun q=>q=c) wr w9):=KR8.out.trans G9.out (fun _ _ h=>h);have R79:Hid (zC w9 b7 [.int .i64 x0, .string x1, .string x2, .int .i64 x3, .int .i64 x4, .string x5, .slice xa x6 xc, .int .i64 x7, .slice ta x8 tc, .slice ea x9 ec]):=R78.out.keeps G9.out (fun e=>HN7.out e);exact J6 _):P:=h
theorem J157 (P:Prop) (h:P:=by rw [hb7];exact zC.zG (heap_alloc_new wr _)):P:=h
theorem J170 (P:Prop) (h:P:=by have e':q=c:=e;rw [<- e'];exact hq):P:=h
theorem J171 (P:Prop) (h:P:=by rw [hb4];exact zC.zG (zW w _ _)):P:=h
def zJR (s:ByteArray):Prop:=s=xNm \/ s=zn
def kOk (k:Int):Prop:=-9223372036854775808 <= k /\ k < 9223372036854775808
mutual
def Ex.nice:Ex -> Prop
 | .mk k _ nm l=>(k=2 -> zJR nm) /\ Ex.zA4 l
def Ex.zA4:List Ex -> Prop
 | []=>True
 | x :: r=>Ex.nice x /\ Ex.zA4 r
end
mutual
def St.nice:St -> Prop
 | .mk k r n x _ t e=>kOk k /\ zJR r /\ zJR n /\ x.nice /\ St.zA4 t /\ St.zA4 e
def St.zA4:List St -> Prop
 | []=>True
 | x :: r=>St.nice x /\ St.zA4 r
end
mutual
def Ac.kinds:Ac -> Prop
 | .mk k _ _ _ _ t e=>kOk k /\ Ac.zBD t /\ Ac.zBD e
def Ac.zBD:List Ac -> Prop
 | []=>True
 | x :: r=>Ac.kinds x /\ Ac.zBD r
end
theorem Ex.nice.kind {x:Ex} (h:x.nice):x.kind=2 -> x.nm=xNm \/ x.nm=zn:=by
 cases x;simp only [Ex.nice] at h;exact h.1
theorem Ex.nice.args {x:Ex} (h:x.nice):Ex.zA4 x.args:=by
 cases x;simp only [Ex.nice] at h;exact h.2
theorem Ex.zDH {l:List Ex} (h:Ex.zA4 l) {y:Ex} (hy:y ∈ l):y.nice:=by
 induction l with
 | nil=>cases hy
 | cons x r ih =>
   simp only [Ex.zA4] at h;rcases List.mem_cons.1 hy with e | e
   ·subst e;exact h.1
   ·exact ih h.2 e
theorem St.zDH {l:List St} (h:St.zA4 l) {y:St} (hy:y ∈ l):y.nice:=by
 induction l with
 | nil=>cases hy
 | cons x r ih =>
   simp only [St.zA4] at h;rcases List.mem_cons.1 hy with e | e
   ·subst e;exact h.1
   ·exact ih h.2 e
theorem St.zIz {x:St} (h:x.nice):kOk x.kind /\ zJR x.reg /\ zJR x.name /\ x.ex.nice /\ St.zA4 x.thn /\ St.zA4 x.els:=by
 cases x;simp only [St.nice] at h;exact h
theorem zEV (n i:Int):zJR (nameAt n i):=by
 unfold nameAt;split
 ·exact .inl rfl
 ·exact .inr rfl
mutual
theorem Ex.zCk (regs:Int):(x:Ex) -> (x.named regs).nice
 | .mk k num nm l=>by
   have h:=Ex.zAq regs l;simp only [Ex.named,Ex.nice];refine ⟨fun hk=>?_,h⟩
   rw [if_pos hk];split
   ·exact zEV _ _
   ·exact .inr rfl
theorem Ex.zAq (regs:Int):(l:List Ex) -> Ex.zA4 (Ex.zQ regs l)
 | []=>trivial
 | x :: r=>by
   have h1:=Ex.zCk regs x;have h2:=Ex.zAq regs r;simp only [Ex.zQ,Ex.zA4];exact ⟨h1,h2⟩
end
mutual
theorem Ac.zCk (u:Un) (regs:Int):(x:Ac) -> x.kinds -> (x.named u regs).nice
 | .mk k reg obj ex c t e,h=>by
   simp only [Ac.kinds] at h;have h1:=Ac.zAq u regs t h.2.1;have h2:=Ac.zAq u regs e h.2.2;simp only [Ac.named,St.nice];refine ⟨?_,?_,?_,Ex.zCk regs ex,h1,h2⟩
   ·unfold zBh
    split
    ·exact ⟨by decide,by decide⟩
    ·exact h.1
   ·split
    ·exact zEV _ _
    ·exact .inr rfl
   ·unfold stName
    split
    ·exact zEV _ _
    ·exact .inr rfl
theorem Ac.zAq (u:Un) (regs:Int):(l:List Ac) -> Ac.zBD l -> St.zA4 (Ac.zQ u regs l)
 | [],_=>trivial
 | x :: r,h=>by
   simp only [Ac.zBD] at h;have h1:=Ac.zCk u regs x h.1;have h2:=Ac.zAq u regs r h.2;simp only [Ac.zQ,St.zA4];exact ⟨h1,h2⟩
end
theorem zIA (x:St) (hn:x.nice) (w:World) (xa ta ea:Option Addr) (xc tc ec:Nat) :
 Calls Tryz.prog 135 #[stV x xa xc ta tc ea ec] w fun e w'=>e=.returned (.bool (zFf x.kind x.reg x.name x.ex x.count x.thn.length x.els.length)) /\ Keeps zA w w':=by
 obtain ⟨h1,h2,h3,_⟩:=St.zIz hn
 have e1:(x.ex.kind==0&&x.ex.num==0&&zV x.ex.nm&&x.ex.args.length==0)=x.ex.none:=by
  obtain ⟨k,r,o,⟨a,b,c,l⟩,cn,t,e⟩:=x;show (a==0&&b==0&&zV c&&l.length==0)=(a==0&&b==0&&zV c&&l.isEmpty)
  cases l <;> simp
 exact zHq x.kind x.ex.kind x.ex.num x.count x.reg x.name x.ex.nm xa ta ea x.ex.args.length xc x.thn.length tc x.els.length ec (decide (1 <= x.kind /\ x.kind <= 11)) (fields x.kind).reg (fields x.kind).name (fields x.kind).ex (fields x.kind).count (fields x.kind).thn (fields x.kind).els
  (zBi x.reg (fields x.kind).reg) (zBi x.name (fields x.kind).name) x.ex.none (x.count==0 || (fields x.kind).count&&decide (0 < x.count)&&decide (x.count <= 1000)) _ w
  (fun W g h=>zIF x.kind h1 W g h) (fun W=>zKO _ h2 _ W) (fun W=>zKO _ h3 _ W) e1.symm rfl rfl
theorem zO3 (x:Ex) (hn:x.nice) (w:World) (ad:Option Addr) (cap c:Nat) (d:Int) (b:Bool) (h:zC w c [.bool b]) :
 Calls Tryz.prog 136 #[exV x ad cap, .int .i64 d, .pointer (some ⟨c,0,none⟩)] w fun e w'=>e=.returned (.tuple #[]) /\ zC w' c [.bool (b&&zAX x.kind x.num x.nm x.args.length)] /\ Keeps (fun q=>q=c) w w':=by
 have HX:Hid (∀ W,Calls Tryz.prog 137 #[.agg #[.int .i64 x.kind, .int .i64 x.num, .string x.nm, .slice ad x.args.length cap]] W fun e w'=>e=.returned (.bool (zAX x.kind x.num x.nm x.args.length)) /\ Keeps zA W w'):=fun W=>zIJ x hn.kind W ad cap
 show Calls _ _ #[.agg #[.int .i64 x.kind, .int .i64 x.num, .string x.nm, .slice ad x.args.length cap],_,_] _ _
 obtain ⟨q,hq⟩:=eX (zAX x.kind x.num x.nm x.args.length);rw [<- hq] at HX ⊢;generalize x.kind=x0 at HX ⊢;generalize x.num=x1 at HX ⊢;generalize x.nm=x2 at HX ⊢;generalize x.args.length=x3 at HX ⊢;clear hq;have HC:=Lib.hid h;have hlt:=h.lt (by simp);clear h;go_enter Tryz.func136,Tryz.ntmps136
 go_upto_region 1 with fail
 obtain ⟨b1,hb1⟩:=eX w.heap.size;have hr1:zC (w.alloc (.cells #[.int .i64 x0, .int .i64 x1, .string x2, .slice ad x3 cap] 144)) b1 [.int .i64 x0, .int .i64 x1, .string x2, .slice ad x3 cap]:=J150 _;have hk1:Keeps zA w (w.alloc (.cells #[.int .i64 x0, .int .i64 x1, .string x2, .slice ad x3 cap] 144)):=(Keeps.refl _ _).alloc _;rw [<- hb1];generalize w.alloc (.cells #[.int .i64 x0, .int .i64 x1, .string x2, .slice ad x3 cap] 144)=w1 at hr1 hk1 ⊢;have rc:=HC.out.keeps hk1 (fun h=>h);have cc:=rc.cell (k:=0) (v:=.bool b) rfl;have fc:=rc.free (k:=0) (by simp);obtain ⟨d0,d1,d2,d3⟩:=hr1.four;have RC:=Lib.hid rc;have K1:=Lib.hid hk1;clear hr1 hk1 hb1 rc;cases b
 ·exact J81 _
 ·go_wp2_with (go_at_call 137;refine (HX.out _).mono ?_;rintro e w2 ⟨rfl,g1⟩;have r2:=RC.out.keeps g1 (fun h=>h);have cc2:=r2.cell (k:=0) (v:=.bool true) rfl;have fc2:=r2.free (k:=0) (by simp);have R2:=Lib.hid r2;have G1:=Lib.hid g1;clear g1 r2 cc fc)
  exact J82 _
theorem zO8 (x:St) (hn:x.nice) (w:World) (xa ta ea:Option Addr) (xc tc ec c:Nat) (d:Int) (b:Bool) (h:zC w c [.bool b]) :
 Calls Tryz.prog 134 #[stV x xa xc ta tc ea ec, .int .i64 d, .pointer (some ⟨c,0,none⟩)] w fun e w'=>e=.returned (.tuple #[]) /\ zC w' c [.bool (b&&zFf x.kind x.reg x.name x.ex x.count x.thn.length x.els.length)] /\ Keeps (fun q=>q=c) w w':=by
 have HX:=Lib.hid (fun W=>zIA x hn W xa ta ea xc tc ec);obtain ⟨q,hq⟩:=eX (zFf x.kind x.reg x.name x.ex x.count x.thn.length x.els.length);rw [<- hq] at HX ⊢;unfold stV at HX ⊢;generalize x.kind=x0 at HX ⊢;generalize x.reg=x1 at HX ⊢;generalize x.name=x2 at HX ⊢;generalize x.ex.kind=x3 at HX ⊢;generalize x.ex.num=x4 at HX ⊢;generalize x.ex.nm=x5 at HX ⊢;generalize x.ex.args.length=x6 at HX ⊢;generalize x.count=x7 at HX ⊢;generalize x.thn.length=x8 at HX ⊢;generalize x.els.length=x9 at HX ⊢;clear hq;have HC:=Lib.hid h;have hlt:=h.lt (by simp);clear h;go_enter Tryz.func134,Tryz.ntmps134
 go_upto_region 1 with fail
 obtain ⟨b1,hb1⟩:=eX w.heap.size;have hr1:zC (w.alloc (.cells #[.int .i64 x0, .string x1, .string x2, .int .i64 x3, .int .i64 x4, .string x5, .slice xa x6 xc, .int .i64 x7, .slice ta x8 tc, .slice ea x9 ec] 191)) b1 [.int .i64 x0, .string x1, .string x2, .int .i64 x3, .int .i64 x4, .string x5, .slice xa x6 xc, .int .i64 x7, .slice ta x8 tc, .slice ea x9 ec]:=J150 _;have hk1:Keeps zA w (w.alloc (.cells #[.int .i64 x0, .string x1, .string x2, .int .i64 x3, .int .i64 x4, .string x5, .slice xa x6 xc, .int .i64 x7, .slice ta x8 tc, .slice ea x9 ec] 191)):=(Keeps.refl _ _).alloc _;rw [<- hb1];generalize w.alloc (.cells #[.int .i64 x0, .string x1, .string x2, .int .i64 x3, .int .i64 x4, .string x5, .slice xa x6 xc, .int .i64 x7, .slice ta x8 tc, .slice ea x9 ec] 191)=w1 at hr1 hk1 ⊢;have rc:=HC.out.keeps hk1 (fun h=>h);have cc:=rc.cell (k:=0) (v:=.bool b) rfl;have fc:=rc.free (k:=0) (by simp);obtain ⟨d0,d1,d2,d3,d4,d5,d6,d7,d8,d9⟩:=hr1.ten;have RC:=Lib.hid rc;have K1:=Lib.hid hk1;clear hr1 hk1 hb1 rc;cases b
 ·exact J81 _
 ·go_wp2_with (go_at_call 135;refine (HX.out _).mono ?_;rintro e w2 ⟨rfl,g1⟩;have r2:=RC.out.keeps g1 (fun h=>h);have cc2:=r2.cell (k:=0) (v:=.bool true) rfl;have fc2:=r2.free (k:=0) (by simp);have R2:=Lib.hid r2;have G1:=Lib.hid g1;clear g1 r2 cc fc)
  exact J82 _
theorem zND:∀ (x:Ex),x.nice -> ∀ (w:World) (F:Nat -> Prop) (ad:Option Addr) (cap c d:Nat) (b:Bool),zR w F x.args ad -> ¬ F c -> zC w c [(.bool b)] -> d+x.cnt < 1000000000 →
 Calls Tryz.prog 227 #[.agg #[.func (.func 134) #[] #[.pointer (some ⟨c,0,none⟩)], .func (.func 136) #[] #[.pointer (some ⟨c,0,none⟩)]],exV x ad cap, .int .i64 d] w fun e w'=>e=.returned (.tuple #[]) /\ zC w' c [(.bool ((b&&Ex.zCa x)))] /\ Keeps (fun q=>q=c) w w':=by
 refine Ex.ind (fun k num nm l ih hn w F ad cap c d b h hF hc hb=>?_)
 have HL:Hid (zR w F l ad):=h;have IH:=Lib.hid ih;have HF:=Lib.hid hF;have HCR:=Lib.hid hc;have HN:Hid (Ex.zA4 l):=hn.args;have hl:=Ex.zAY l;have hcn:Ex.cnt (.mk k num nm l)=1+Ex.zM l:=by simp [Ex.cnt]
 rw [hcn] at hb;have hb2:l.length < 1000000000:=by omega
 have hd2:d < 1000000000:=by omega
 have HB:=Lib.hid hb;obtain ⟨tot,ht⟩:=eX (α:=Bool) ((b&&Ex.zCa (Ex.mk k num nm l)))
 have HT:Hid (((b&&zAX k num nm l.length)&&Ex.zCf l)=tot):=by
  show _=_
  rw [ht];simp only [Ex.zCa,Bool.and_assoc]
 rw [<- ht];have HCL:Hid (∀ W,zC W c [(.bool b)] -> Calls Tryz.prog 136 #[.agg #[.int .i64 k, .int .i64 num, .string nm, .slice ad l.length cap], .int .i64 d, .pointer (some ⟨c,0,none⟩)] W fun e w'=>e=.returned (.tuple #[]) /\ zC w' c [(.bool (b&&zAX k num nm l.length))] /\ Keeps (fun q=>q=c) W w'):=fun W h=>zO3 (.mk k num nm l) hn W ad cap c d b h
 have hlt0:=hc.lt (by simp);have hlt:=Lib.hid hlt0;clear h hF hc ih hl hcn hb ht hlt0 hn;show Calls _ _ #[_, .agg #[.int .i64 k, .int .i64 num, .string nm, .slice ad l.length cap],_] _ _
 have hw:IntKind.i64.wrap ((d:Int)+1)=(d:Int)+1:=wrap_small _ (by omega) (by omega);go_enter Tryz.func227,Tryz.ntmps227
 go_upto_region 1 with fail
 obtain ⟨b3,hb3⟩:=eX w.heap.size;obtain ⟨b4,hb4⟩:=eX (w.heap.size+1);have hr3:zC ((w.alloc (.cells #[.func (.func 134) #[] #[.pointer (some ⟨c,0,none⟩)], .func (.func 136) #[] #[.pointer (some ⟨c,0,none⟩)]] 234)).alloc (.cells #[.int .i64 k, .int .i64 num, .string nm, .slice ad l.length cap] 144)) b3 [.func (.func 134) #[] #[.pointer (some ⟨c,0,none⟩)], .func (.func 136) #[] #[.pointer (some ⟨c,0,none⟩)]]:=J164 _;have hr4:zC ((w.alloc (.cells #[.func (.func 134) #[] #[.pointer (some ⟨c,0,none⟩)], .func (.func 136) #[] #[.pointer (some ⟨c,0,none⟩)]] 234)).alloc (.cells #[.int .i64 k, .int .i64 num, .string nm, .slice ad l.length cap] 144)) b4 [.int .i64 k, .int .i64 num, .string nm, .slice ad l.length cap]:=J171 _;have hk1:Keeps zA w ((w.alloc (.cells #[.func (.func 134) #[] #[.pointer (some ⟨c,0,none⟩)], .func (.func 136) #[] #[.pointer (some ⟨c,0,none⟩)]] 234)).alloc (.cells #[.int .i64 k, .int .i64 num, .string nm, .slice ad l.length cap] 144)):=((Keeps.refl _ _).alloc _).alloc _;rw [<- hb4,<- hb3];generalize (w.alloc (.cells #[.func (.func 134) #[] #[.pointer (some ⟨c,0,none⟩)], .func (.func 136) #[] #[.pointer (some ⟨c,0,none⟩)]] 234)).alloc (.cells #[.int .i64 k, .int .i64 num, .string nm, .slice ad l.length cap] 144)=w1 at hr3 hr4 hk1 ⊢;have HNE:Hid (b3 ≠ c /\ b4 ≠ c):=⟨by have:=hlt.out;omega,by have:=hlt.out;omega⟩;have R3:=Lib.hid hr3;have R4:=Lib.hid hr4;have K1:=Lib.hid hk1;have RC:Hid (zC w1 c [(.bool b)]):=HCR.out.keeps hk1 (fun h=>h);have y0:=hr3.cell (k:=1) (v:=.func (.func 136) #[] #[.pointer (some ⟨c,0,none⟩)]) rfl;obtain ⟨d0,d1,d2,d3⟩:=hr4.four;clear hr3 hr4 hk1 hb3 hb4;go_upto_region 2 with (go_at_call 136;refine (HCL.out _ RC.out).mono ?_;rintro e w2 ⟨rfl,r2,g2⟩;have R2:=Lib.hid r2;have G2:=Lib.hid g2;clear r2 g2)
 have c3:=(R4.out.keeps G2.out (fun e=>HNE.out.2 e)).cell (k:=3) (v:=.slice ad l.length cap) rfl;clear d0 d1 d2 d3 y0 RC HCL HCR;go_wp2_with fail
 go_loopw [16] (fun iv wr=>∃ (i:Nat) (v:Bool),i <= l.length /\ iv=.int .i64 i /\ Hid (zC wr c [(.bool v)]) /\ Hid ((v&&Ex.zCf (l.drop i))=tot) /\ Hid (Keeps (fun q=>q=c) w1 wr)) (fun iv _=>l.length - (intOf iv).toNat)
 case atStart=>exact ⟨0,(b&&zAX k num nm l.length),Nat.zero_le _,rfl,R2,by show _=_;rw [List.drop_zero];exact HT.out,G2⟩
 case round =>
  obtain ⟨i,v,hi,rfl,HV,HD,HK⟩:=hrel;by_cases hlt:i < l.length
  ·have i1:(0:Int) <= i:=by omega
   have i2:(i:Int) < l.length:=by omega
   have hd:=HD.out;rw [drop_at hlt] at hd;simp only [Ex.zCf] at hd;have hFc:∀ q,F q -> ¬ (fun q=>q=c) q:=fun q hq e=>HF.out (J170 _)
   obtain ⟨g,o,a,ca,e1,hg,d0,d1,d2,d3,hx⟩:=((HL.out.keeps K1.out (fun _ _ h=>h):zR w1 F l ad).keeps HK.out hFc).at hlt;subst e1
   have HC:Hid (∀ W,Keeps zA wr W -> Calls Tryz.prog 227 #[.agg #[.func (.func 134) #[] #[.pointer (some ⟨c,0,none⟩)], .func (.func 136) #[] #[.pointer (some ⟨c,0,none⟩)]], .agg #[.int .i64 l[i].kind, .int .i64 l[i].num, .string l[i].nm, .slice a l[i].args.length ca], .int .i64 ((d:Int)+1)] W fun e w'=>e=.returned (.tuple #[]) /\ zC w' c [(.bool ((v&&Ex.zCa l[i])))] /\ Keeps (fun q=>q=c) W w'):=fun W hk=>by
    have e:((d+1:Nat):Int)=(d:Int)+1:=by omega
    rw [<- e];have hcl:=Ex.zBx (List.getElem_mem hlt);have hbt:=HB.out;exact IH.out _ (List.getElem_mem hlt) (Ex.zDH HN.out (List.getElem_mem hlt)) W F a ca c (d+1) v (hx.keeps hk (fun _ _ h=>h)) HF.out (HV.out.keeps hk (fun h=>h)) (by omega)
   obtain ⟨v2,hv2⟩:=eX (α:=Bool) ((v&&Ex.zCa l[i]))
   have HD2:Hid ((v2&&Ex.zCf (l.drop (i+1)))=tot):=by
    show _=_
    rw [hv2,<- hd];rw [Bool.and_assoc]
   rw [<- hv2] at HC;clear hx hFc hd hv2;generalize l[i].kind=x0 at d0 HC;generalize l[i].num=x1 at d1 HC;generalize l[i].nm=x2 at d2 HC;generalize l[i].args.length=x3 at d3 HC;go_upto_region 5 with fail
   obtain ⟨b7,hb7⟩:=eX wr.heap.size;have hr7:zC (wr.alloc (.cells #[.int .i64 x0, .int .i64 x1, .string x2, .slice a x3 ca] 144)) b7 [.int .i64 x0, .int .i64 x1, .string x2, .slice a x3 ca]:=J157 _;have hk7:Keeps zA wr (wr.alloc (.cells #[.int .i64 x0, .int .i64 x1, .string x2, .slice a x3 ca] 144)):=(Keeps.refl _ _).alloc _;rw [<- hb7];generalize wr.alloc (.cells #[.int .i64 x0, .int .i64 x1, .string x2, .slice a x3 ca] 144)=w7 at hr7 hk7 ⊢;obtain ⟨y0,y1,y2,y3⟩:=hr7.four;have r3:=(R3.out.keeps HK.out (fun e=>HNE.out.1 e)).keeps hk7 (fun h=>h);have q0:=r3.cell (k:=0) (v:=.func (.func 134) #[] #[.pointer (some ⟨c,0,none⟩)]) rfl;have q1:=r3.cell (k:=1) (v:=.func (.func 136) #[] #[.pointer (some ⟨c,0,none⟩)]) rfl;exact J22 _
  ·obtain rfl:i=l.length:=by omega
   have hd:=HD.out;rw [List.drop_length] at hd;simp only [Ex.zCf] at hd;have hd2:v=tot:=by rw [<- hd];simp
   exact J13 _
end Go.Proofs.YtoapgjjepiopbaaGreatDoor
namespace Go.Proofs.YtoapgjjepiopbaaGreatDoor
theorem Ex.zFD (x:Ex):x.there=(x.kind != 0 || x.args.length != 0):=by
 obtain ⟨k,n,s,l⟩:=x;show (k != 0 || !l.isEmpty)=(k != 0 || l.length != 0)
 cases l <;> simp
theorem St.zMi (x:St):x.form=(zFf x.kind x.reg x.name x.ex x.count x.thn.length x.els.length&&(!x.ex.there || x.ex.zCa)&&St.zAl x.thn&&St.zAl x.els):=by
 cases x;simp only [St.form,St.kind,St.reg,St.name,St.ex,St.count,St.thn,St.els]
theorem St.zC8 (x:St):x.cnt=1+(if x.ex.there then x.ex.cnt else 0)+St.zM x.thn+St.zM x.els:=by
 cases x;simp only [St.cnt];rfl
theorem St.zIp (d:Nat) (x:St):x.deep d=max (max d (if x.ex.there then x.ex.dep else 0)) (max (St.zk (d+1) x.thn) (St.zk (d+1) x.els)):=by
 cases x;simp only [St.deep];rfl
mutual
theorem St.zK5:(x:St) -> x.cnt <= x.sz
 | .mk k r n x c t e=>by
   have h1:=St.zCi t;have h2:=St.zCi e;simp only [St.cnt,St.sz];split <;> omega
theorem St.zCi:(l:List St) -> St.zM l <= St.szL l
 | []=>Nat.le_refl _
 | x :: r=>by
   have h1:=St.zK5 x;have h2:=St.zCi r;simp only [St.zM,St.szL];omega
end
mutual
theorem St.zNF (d:Nat):(x:St) -> x.deep d <= d+x.sz
 | .mk k r n x c t e=>by
   have h1:=St.zB4 (d+1) t;have h2:=St.zB4 (d+1) e;have h3:=Ex.zGM x;simp only [St.deep,St.sz];split <;> omega
theorem St.zB4 (d:Nat):(l:List St) -> St.zk d l <= d+St.szL l
 | []=>by simp only [St.zk];omega
 | x :: r=>by
   have h1:=St.zNF d x;have h2:=St.zB4 d r;simp only [St.zk,St.szL];omega
end
theorem St.room:∀ (i:Nat) (l:List St),St.zM l+St.szL (l.drop i) <= St.szL l+St.zM (l.drop i)
 | 0,l=>by rw [List.drop_zero];omega
 | i+1,[]=>by simp [St.zM,St.szL]
 | i+1,x :: r=>by
   have h1:=St.room i r;have h2:=St.zK5 x;rw [List.drop_succ_cons];simp only [St.zM,St.szL];omega
end Go.Proofs.YtoapgjjepiopbaaGreatDoor
namespace Go.Proofs.YtoapgjjepiopbaaGreatDoor
open Go.RowKit
def zDA (l:List St):Prop:=∀ (w:World) (F:Nat -> Prop) (ad:Option Addr) (cap c d:Nat) (b:Bool),zm w F l ad -> St.zA4 l -> ¬ F c -> zC w c [(.bool b)] -> d+St.szL l < 1000000000 →
 Calls Tryz.prog 191 #[.agg #[.func (.func 134) #[] #[.pointer (some ⟨c,0,none⟩)], .func (.func 136) #[] #[.pointer (some ⟨c,0,none⟩)]], .slice ad l.length cap, .int .i64 d] w fun e w'=>e=.returned (.tuple #[]) /\ zC w' c [(.bool (b&&St.zAl l))] /\ Keeps (fun q=>q=c) w w'
theorem zEb (l:List St) (ih:∀ y,y ∈ l -> zDA y.thn /\ zDA y.els):zDA l:=by
 intro w F ad cap c d b h hnn hF hc hb
 have HL:=Lib.hid h;have IH:=Lib.hid ih;have HF:=Lib.hid hF;have HCR:=Lib.hid hc;have HN:=Lib.hid hnn;have hl:=St.zAY l;have hb2:l.length < 1000000000:=by omega
 have hd2:d < 1000000000:=by omega
 have HB:=Lib.hid hb;obtain ⟨tot,ht⟩:=eX (α:=Bool) ((b&&St.zAl l));have HT0:=Lib.hid ht;rw [<- ht];have hlt0:=hc.lt (by simp);have hlt:=Lib.hid hlt0;clear h hF hc ih hl hb ht hlt0 hnn;have hw:IntKind.i64.wrap ((d:Int)+1)=(d:Int)+1:=wrap_small _ (by omega) (by omega);go_enter Tryz.func191,Tryz.ntmps191
 go_upto_region 1 with fail
 obtain ⟨b3,hb3⟩:=eX w.heap.size;have hr3:zC (w.alloc (.cells #[.func (.func 134) #[] #[.pointer (some ⟨c,0,none⟩)], .func (.func 136) #[] #[.pointer (some ⟨c,0,none⟩)]] 234)) b3 [.func (.func 134) #[] #[.pointer (some ⟨c,0,none⟩)], .func (.func 136) #[] #[.pointer (some ⟨c,0,none⟩)]]:=J169 _;have hk1:Keeps zA w (w.alloc (.cells #[.func (.func 134) #[] #[.pointer (some ⟨c,0,none⟩)], .func (.func 136) #[] #[.pointer (some ⟨c,0,none⟩)]] 234)):=(Keeps.refl _ _).alloc _;rw [<- hb3];generalize w.alloc (.cells #[.func (.func 134) #[] #[.pointer (some ⟨c,0,none⟩)], .func (.func 136) #[] #[.pointer (some ⟨c,0,none⟩)]] 234)=w1 at hr3 hk1 ⊢;have HNE:Hid (b3 ≠ c):=by show _ ≠ _;have:=hlt.out;omega
 have R3:=Lib.hid hr3;have K1:=Lib.hid hk1;have RC:Hid (zC w1 c [(.bool b)]):=HCR.out.keeps hk1 (fun h=>h);have HLC:Hid (c < w1.heap.size):=RC.out.lt (by simp);clear hr3 hk1 hb3 HCR;go_wp2_with fail
 go_loopw [10] (fun iv wr=>∃ (i:Nat) (v:Bool),i <= l.length /\ iv=.int .i64 i /\ Hid (zC wr c [(.bool v)]) /\ Hid ((v&&St.zAl (l.drop i))=tot) /\ Hid (Keeps (fun q=>q=c) w1 wr)) (fun iv _=>l.length - (intOf iv).toNat)
 case atStart=>exact ⟨0,b,Nat.zero_le _,rfl,RC,by show _=_;rw [List.drop_zero];exact HT0.out.symm,Keeps.refl _ _⟩
 case round =>
  obtain ⟨i,v,hi,rfl,HV,HD,HK⟩:=hrel;by_cases hlt:i < l.length
  ·have i1:(0:Int) <= i:=by omega
   have i2:(i:Int) < l.length:=by omega
   have hd:=HD.out;rw [drop_at hlt] at hd;simp only [St.zAl,St.zMi] at hd;have hFc:∀ q,F q -> ¬ (fun q=>q=c) q:=fun q hq e=>HF.out (J170 _)
   obtain ⟨g,o,xa,xc,ta,tc,ea,ec,e1,hg,d0,d1,d2,d3,d4,d5,d6,d7,d8,d9,hx,hxt,hxe⟩:=((HL.out.keeps K1.out (fun _ _ h=>h):zm w1 F l ad).keeps HK.out hFc).at hlt;subst e1;have hsz:=St.zBk (List.getElem_mem hlt);rw [St.zB1] at hsz;have hB:=HB.out;have hni:=St.zIz (St.zDH HN.out (List.getElem_mem hlt));have hnx:=St.zDH HN.out (List.getElem_mem hlt);obtain ⟨v1,hv1⟩:=eX (α:=Bool) ((v&&zFf l[i].kind l[i].reg l[i].name l[i].ex l[i].count l[i].thn.length l[i].els.length))
   have HS:Hid (∀ W,zC W c [(.bool v)] -> Calls Tryz.prog 134 #[.agg #[.int .i64 l[i].kind, .string l[i].reg, .string l[i].name, .int .i64 l[i].ex.kind, .int .i64 l[i].ex.num, .string l[i].ex.nm, .slice xa l[i].ex.args.length xc, .int .i64 l[i].count, .slice ta l[i].thn.length tc, .slice ea l[i].els.length ec], .int .i64 d, .pointer (some ⟨c,0,none⟩)] W fun e w'=>e=.returned (.tuple #[]) /\ zC w' c [(.bool v1)] /\ Keeps (fun q=>q=c) W w'):=by
    rw [hv1];exact fun W h=>zO8 l[i] hnx W xa ta ea xc tc ec c d v h
   have HX:Hid (∀ W,Keeps (fun q=>q=c) wr W -> zC W c [(.bool v1)] -> Calls Tryz.prog 227 #[.agg #[.func (.func 134) #[] #[.pointer (some ⟨c,0,none⟩)], .func (.func 136) #[] #[.pointer (some ⟨c,0,none⟩)]], .agg #[.int .i64 l[i].ex.kind, .int .i64 l[i].ex.num, .string l[i].ex.nm, .slice xa l[i].ex.args.length xc], .int .i64 1] W fun e w'=>e=.returned (.tuple #[]) /\ zC w' c [(.bool (v1&&Ex.zCa l[i].ex))] /\ Keeps (fun q=>q=c) W w'):=fun W hk h =>
    zND l[i].ex hni.2.2.2.1 W F xa xc c 1 v1 (hx.keeps hk hFc) HF.out h (by omega)
   have hth:l[i].ex.there=(l[i].ex.kind != 0 || l[i].ex.args.length != 0):=Ex.zFD _
   have HT:Hid (∀ W (s:Bool),True -> Keeps (fun q=>q=c) wr W -> zC W c [(.bool s)] -> Calls Tryz.prog 191 #[.agg #[.func (.func 134) #[] #[.pointer (some ⟨c,0,none⟩)], .func (.func 136) #[] #[.pointer (some ⟨c,0,none⟩)]], .slice ta l[i].thn.length tc, .int .i64 ((d:Int)+1)] W fun e w'=>e=.returned (.tuple #[]) /\ zC w' c [(.bool (s&&St.zAl l[i].thn))] /\ Keeps (fun q=>q=c) W w'):=fun W s hs hk h=>by
    have e:((d+1:Nat):Int)=(d:Int)+1:=by omega
    rw [<- e];exact (IH.out _ (List.getElem_mem hlt)).1 W F ta tc c (d+1) s (hxt.keeps hk hFc) hni.2.2.2.2.1 HF.out h (by omega)
   have HE:Hid (∀ W (s:Bool),True -> Keeps (fun q=>q=c) wr W -> zC W c [(.bool s)] -> Calls Tryz.prog 191 #[.agg #[.func (.func 134) #[] #[.pointer (some ⟨c,0,none⟩)], .func (.func 136) #[] #[.pointer (some ⟨c,0,none⟩)]], .slice ea l[i].els.length ec, .int .i64 ((d:Int)+1)] W fun e w'=>e=.returned (.tuple #[]) /\ zC w' c [(.bool (s&&St.zAl l[i].els))] /\ Keeps (fun q=>q=c) W w'):=fun W s hs hk h=>by
    have e:((d+1:Nat):Int)=(d:Int)+1:=by omega
    rw [<- e];exact (IH.out _ (List.getElem_mem hlt)).2 W F ea ec c (d+1) s (hxe.keeps hk hFc) hni.2.2.2.2.2 HF.out h (by omega)
   have HDD:=Lib.hid hd;have HV1:=Lib.hid hv1;have HTH:=Lib.hid hth;have hz3:l[i].ex.kind=0 /\ l[i].ex.args.length=0 \/ l[i].ex.kind=0 /\ 0 < l[i].ex.args.length \/ ¬ l[i].ex.kind=0:=by omega
   obtain ⟨th,hthe⟩:=eX (l[i].ex.there);have HTE:=Lib.hid hthe;rw [<- hthe] at hth;clear hx hxt hxe hFc hd hv1 hsz hB hthe hni hnx;generalize l[i].kind=x0 at d0 HS;generalize l[i].reg=x1 at d1 HS;generalize l[i].name=x2 at d2 HS;generalize l[i].ex.kind=x3 at d3 HS HX hth hz3;generalize l[i].ex.num=x4 at d4 HS HX;generalize l[i].ex.nm=x5 at d5 HS HX;generalize l[i].ex.args.length=x6 at d6 HS HX hth hz3;generalize l[i].count=x7 at d7 HS;generalize l[i].thn.length=x8 at d8 HS HT;generalize l[i].els.length=x9 at d9 HS HE;go_upto_region 4 with fail
   obtain ⟨b7,hb7⟩:=eX wr.heap.size;have hr7:zC (wr.alloc (.cells #[.int .i64 x0, .string x1, .string x2, .int .i64 x3, .int .i64 x4, .string x5, .slice xa x6 xc, .int .i64 x7, .slice ta x8 tc, .slice ea x9 ec] 191)) b7 [.int .i64 x0, .string x1, .string x2, .int .i64 x3, .int .i64 x4, .string x5, .slice xa x6 xc, .int .i64 x7, .slice ta x8 tc, .slice ea x9 ec]:=J157 _;have hk7:Keeps zA wr (wr.alloc (.cells #[.int .i64 x0, .string x1, .string x2, .int .i64 x3, .int .i64 x4, .string x5, .slice xa x6 xc, .int .i64 x7, .slice ta x8 tc, .slice ea x9 ec] 191)):=(Keeps.refl _ _).alloc _;have hn7:b7 ≠ c:=by have:=HLC.out;have:=HK.out.size;omega
   rw [<- hb7];generalize wr.alloc (.cells #[.int .i64 x0, .string x1, .string x2, .int .i64 x3, .int .i64 x4, .string x5, .slice xa x6 xc, .int .i64 x7, .slice ta x8 tc, .slice ea x9 ec] 191)=w7 at hr7 hk7 ⊢;obtain ⟨y0,y1,y2,y3,y4,y5,y6,y7,y8,y9⟩:=hr7.ten;have r3:=(R3.out.keeps HK.out (fun e=>HNE.out e)).keeps hk7 (fun h=>h);have q0:=r3.cell (k:=0) (v:=.func (.func 134) #[] #[.pointer (some ⟨c,0,none⟩)]) rfl;have q1:=r3.cell (k:=1) (v:=.func (.func 136) #[] #[.pointer (some ⟨c,0,none⟩)]) rfl;have K7:=Lib.hid hk7;have R7:=Lib.hid hr7;have R37:=Lib.hid r3;have HN7:=Lib.hid hn7;have RC7:Hid (zC w7 c [(.bool v)]):=HV.out.keeps hk7 (fun h=>h);clear hr7 hk7 r3 hb7 hn7 d0 d1 d2 d3 d4 d5 d6 d7 d8 d9;go_upto_region 5 with (go_at_call 134;refine (HS.out _ RC7.out).mono ?_;rintro e w8 ⟨rfl,r8,g8⟩;have R8:=Lib.hid r8;have G8:=Lib.hid g8;clear r8 g8)
   have KR8:Hid (Keeps (fun q=>q=c) wr w8):=(K7.out.mono (S:=fun q=>q=c) (fun _ _ h=>False.elim h)).trans G8.out (fun _ _ h=>h);have R78:Hid (zC w8 b7 [.int .i64 x0, .string x1, .string x2, .int .i64 x3, .int .i64 x4, .string x5, .slice xa x6 xc, .int .i64 x7, .slice ta x8 tc, .slice ea x9 ec]):=R7.out.keeps G8.out (fun e=>HN7.out e);have R38:Hid (zC w8 b3 [.func (.func 134) #[] #[.pointer (some ⟨c,0,none⟩)], .func (.func 136) #[] #[.pointer (some ⟨c,0,none⟩)]]):=R37.out.keeps G8.out (fun e=>HNE.out e);clear y0 y1 y2 y3 y4 y5 y6 y7 y8 y9 q0 q1;obtain ⟨y0,y1,y2,y3,y4,y5,y6,y7,y8,y9⟩:=R78.out.ten;have q0:=R38.out.cell (k:=0) (v:=.func (.func 134) #[] #[.pointer (some ⟨c,0,none⟩)]) rfl;have q1:=R38.out.cell (k:=1) (v:=.func (.func 136) #[] #[.pointer (some ⟨c,0,none⟩)]) rfl;clear HS;rcases hz3 with ⟨hz,hzl⟩ | ⟨hz,hzl⟩ | hz
   ·have hzi:(x6:Int)=0:=by omega
    have hTH:l[i].ex.there=false:=by rw [<- HTE.out,hth];simp [hz,hzl]
    have HTHE:=Lib.hid hTH;clear hTH hth;obtain ⟨v2,hv2⟩:=eX (α:=Bool) v1;have HV2:=Lib.hid hv2;go_upto_region 7 with fail
    obtain ⟨w9,hw9⟩:=eX w8;have G9:Hid (Keeps (fun q=>q=c) w8 w9):=by show Keeps _ _ _;rw [hw9];exact Keeps.refl _ _
    have R9:Hid (zC w9 c [(.bool v2)]):=by show zC _ _ _;rw [hw9,hv2];exact R8.out
    rw [<- hw9];clear hw9;exact J118 _
   ·have hzi:(0:Int) < x6:=by omega
    subst hz;have hTH:l[i].ex.there=true:=by rw [<- HTE.out,hth];simp;omega
    have HTHE:=Lib.hid hTH;clear hTH hth;obtain ⟨v2,hv2⟩:=eX (α:=Bool) ((v1&&Ex.zCa l[i].ex));have HV2:=Lib.hid hv2;go_upto_region 7 with (go_at_call 227;refine (HX.out _ KR8.out R8.out).mono ?_;rintro e w9 ⟨rfl,r9,g9⟩;rw [<- hv2] at r9;have R9:=Lib.hid r9;have G9:=Lib.hid g9;clear r9 g9)
    clear hv2 y0 y1 y2 y3 y4 y5 y6 y7 y8 y9 q0 q1;have KR9:Hid (Keeps (fun q=>q=c) wr w9):=KR8.out.trans G9.out (fun _ _ h=>h);have R79:Hid (zC w9 b7 [.int .i64 x0, .string x1, .string x2, .int .i64 0, .int .i64 x4, .string x5, .slice xa x6 xc, .int .i64 x7, .slice ta x8 tc, .slice ea x9 ec]):=R78.out.keeps G9.out (fun e=>HN7.out e);exact J6 _
   ·have hzb:(x3==0)=false:=by simpa using hz
    have hTH:l[i].ex.there=true:=by rw [<- HTE.out,hth];simp [hz]
    have HTHE:=Lib.hid hTH;clear hTH hth;obtain ⟨v2,hv2⟩:=eX (α:=Bool) ((v1&&Ex.zCa l[i].ex));have HV2:=Lib.hid hv2;go_upto_region 7 with (go_at_call 227;refine (HX.out _ KR8.out R8.out).mono ?_;rintro e w9 ⟨rfl,r9,g9⟩;rw [<- hv2] at r9;have R9:=Lib.hid r9;have G9:=Lib.hid g9;clear r9 g9)
    exact J118 _
  ·obtain rfl:i=l.length:=by omega
   have hd:=HD.out;rw [List.drop_length] at hd;simp only [St.zAl] at hd;have hd2:v=tot:=by rw [<- hd];simp
   exact J13 _
theorem zOJ (l:List St):zDA l:=by
 have key:∀ x:St,zDA x.thn /\ zDA x.els:=fun x=>St.ind (P:=fun x=>zDA x.thn /\ zDA x.els) (fun k r o x c t e h1 h2=>⟨zEb t h1,zEb e h2⟩) x
 exact zEb l (fun y _=>key y)
end Go.Proofs.YtoapgjjepiopbaaGreatDoor
