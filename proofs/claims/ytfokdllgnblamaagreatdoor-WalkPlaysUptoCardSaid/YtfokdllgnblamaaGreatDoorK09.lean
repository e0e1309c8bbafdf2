/- Layer K: texts joined. -/
import Derived.Test.YtfokdllgnblamaaGreatDoorK08
set_option linter.all false
set_option maxHeartbeats 2000000
set_option maxRecDepth 8000
namespace Go.Proofs.YtfokdllgnblamaaGreatDoor
open Go.RowKit
abbrev yk:=@Ex.zB1
abbrev kK:=@Go.wrap_small
theorem J6 (P:Prop) (h:P:=by
 have R39:Hid (zC w9 b3 [.func (.func 127) #[] #[.pointer (some ⟨c,0,none⟩)], .func (.func 129) #[] #[.pointer (some ⟨c,0,none⟩)]]):=R38.out.keeps G9.out (fun e=>HNE.out e);obtain ⟨y0,y1,y2,y3,y4,y5,y6,y7,y8,y9⟩:=R79.out.ten;have q0:=R39.out.cell (k:=0) (v:=.func (.func 127) #[] #[.pointer (some ⟨c,0,none⟩)]) rfl;have q1:=R39.out.cell (k:=1) (v:=.func (.func 129) #[] #[.pointer (some ⟨c,0,none⟩)]) rfl;obtain ⟨v3,hv3⟩:=eX (α:=Bool) ((v2&&St.zBL l[i].thn));have HV3:=yB hv3;go_upto_region 8 with (go_at_call 143;refine (HT.out _ v2 trivial KR9.out R9.out).mono ?_;rintro e w10 ⟨rfl,r10,g10⟩;rw [<- hv3] at r10;have R10:=yB r10;have G10:=yB g10;clear r10 g10)
 clear hv3 y0 y1 y2 y3 y4 y5 y6 y7 y8 y9 q0 q1;have KR10:Hid (Keeps (fun q=>q=c) wr w10):=KR9.out.trans G10.out (fun _ _ h=>h);obtain ⟨y0,y1,y2,y3,y4,y5,y6,y7,y8,y9⟩:=(R79.out.keeps G10.out (fun e=>HN7.out e)).ten;have r3:=R39.out.keeps G10.out (fun e=>HNE.out e);have q0:=r3.cell (k:=0) (v:=.func (.func 127) #[] #[.pointer (some ⟨c,0,none⟩)]) rfl;have q1:=r3.cell (k:=1) (v:=.func (.func 129) #[] #[.pointer (some ⟨c,0,none⟩)]) rfl;clear r3;obtain ⟨v4,hv4⟩:=eX (α:=Bool) ((v3&&St.zBL l[i].els));have HV4:=yB hv4;go_wp2_with (go_at_call 143;refine (HE.out _ v3 trivial KR10.out R10.out).mono ?_;rintro e w11 ⟨rfl,r11,g11⟩;rw [<- hv4] at r11;have R11:=yB r11;have G11:=yB g11;clear r11 g11)
 have HDN:Hid ((v4&&St.zBL (l.drop (i+1)))=tot):=by
  show _=_
  have h1:=HDD.out;rw [HTHE.out] at h1;rw [HV4.out,HV3.out,HV2.out,HV1.out];rw [<- h1];simp [Bool.and_assoc]
 go_roundw
 case rel=>exact ⟨i+1,v4,by omega,by go_num,R11,HDN,HK.out.trans (KR10.out.trans G11.out (fun _ _ h=>h)) (fun _ _ h=>h)⟩
 case measure=>simp [intOf];omega):P:=h
theorem J15 (P:Prop) (h:P:=by
 subst hd2;go_wp2_with fail
 go_end0
 exact ⟨rfl,HV.out,(K1.out.mono (S:=fun q=>q=c) (fun _ _ h=>False.elim h)).trans HK.out (fun _ _ h=>h)⟩):P:=h
theorem J26 (P:Prop) (h:P:=by
 have K7:=yB hk7;clear hr7 hk7 r3 hb7 d0 d1 d2 d3 c3;go_wp2_with (go_at_call 147;refine (HC.out _ K7.out).mono ?_;rintro e w8 ⟨rfl,r8,g8⟩;have R8:=yB r8;have G8:=yB g8;clear r8 g8)
 go_roundw
 case rel=>exact ⟨i+1,v2,by omega,by go_num,R8,HD2,(HK.out.trans K7.out (fun _ _ h=>False.elim h)).trans G8.out (fun _ _ h=>h)⟩
 case measure=>simp [intOf];omega):P:=h
theorem J28 (P:Prop) (h:P:=by
 have K7:=yB hk7;clear hr7 hk7 r3 hb7 d0 d1;go_wp2_with (go_at_call 143;refine (HS.out _ K7.out).mono ?_;rintro e w8 ⟨rfl,r8,g8⟩;have R8:=yB r8;have G8:=yB g8;clear r8 g8)
 go_roundw
 case rel=>exact ⟨i+1,v1,by omega,by go_num,R8,HDN,(HK.out.trans K7.out (fun _ _ h=>False.elim h)).trans G8.out (fun _ _ h=>h)⟩
 case measure=>simp [intOf];omega):P:=h
theorem J95 (P:Prop) (h:P:=by
 go_wp2_with fail
 go_end0
 exact ⟨rfl,RC.out.set 0 (by simp) _,(K1.out.mono (S:=fun q=>q=c) (fun _ _ h=>False.elim h)).setCell (p:=⟨c,0,none⟩) (fun _=>rfl) _⟩):P:=h
theorem J97 (P:Prop) (h:P:=by
 go_end0
 exact ⟨rfl,R2.out.set 0 (by simp) _,((K1.out.zB G1.out).mono (S:=fun q=>q=c) (fun _ _ h=>False.elim h)).setCell (p:=⟨c,0,none⟩) (fun _=>rfl) _⟩):P:=h
theorem J157 (P:Prop) (h:P:=by
 clear hv2 y0 y1 y2 y3 y4 y5 y6 y7 y8 y9 q0 q1;have KR9:Hid (Keeps (fun q=>q=c) wr w9):=KR8.out.trans G9.out (fun _ _ h=>h);have R79:Hid (zC w9 b7 [.int .i64 x0, .string x1, .string x2, .int .i64 x3, .int .i64 x4, .string x5, .slice xa x6 xc, .int .i64 x7, .slice ta x8 tc, .slice ea x9 ec]):=R78.out.keeps G9.out (fun e=>HN7.out e);exact J6 _):P:=h
theorem J191 (P:Prop) (h:P:=by rw [hb7];exact yN (yK wr _)):P:=h
theorem J203 (P:Prop) (h:P:=by have e':q=c:=e;rw [<- e'];exact hq):P:=h
theorem J205 (P:Prop) (h:P:=by rw [hb4];exact yN (ze w _ _)):P:=h
def zKe (s:ByteArray):Prop:=s=xNm \/ s=zq
def kOk (k:Int):Prop:=-9223372036854775808 <= k /\ k < 9223372036854775808
mutual
def Ex.nice:Ex -> Prop
 | .mk k _ nm l=>(k=2 -> zKe nm) /\ Ex.zBe l
def Ex.zBe:List Ex -> Prop
 | []=>True
 | x :: r=>Ex.nice x /\ Ex.zBe r
end
mutual
def St.nice:St -> Prop
 | .mk k r n x _ t e=>kOk k /\ zKe r /\ zKe n /\ x.nice /\ St.zBe t /\ St.zBe e
def St.zBe:List St -> Prop
 | []=>True
 | x :: r=>St.nice x /\ St.zBe r
end
mutual
def Ac.kinds:Ac -> Prop
 | .mk k _ _ _ _ t e=>kOk k /\ Ac.zBl t /\ Ac.zBl e
def Ac.zBl:List Ac -> Prop
 | []=>True
 | x :: r=>Ac.kinds x /\ Ac.zBl r
end
theorem Ex.nice.kind {x:Ex} (h:x.nice):x.kind=2 -> x.nm=xNm \/ x.nm=zq:=by
 cases x;simp only [Ex.nice] at h;exact h.1
theorem Ex.nice.args {x:Ex} (h:x.nice):Ex.zBe x.args:=by
 cases x;simp only [Ex.nice] at h;exact h.2
theorem Ex.zD4 {l:List Ex} (h:Ex.zBe l) {y:Ex} (hy:y ∈ l):y.nice:=by
 induction l with
 | nil=>cases hy
 | cons x r ih =>
   simp only [Ex.zBe] at h;rcases xX.1 hy with e | e
   ·subst e;exact h.1
   ·exact ih h.2 e
theorem St.zD4 {l:List St} (h:St.zBe l) {y:St} (hy:y ∈ l):y.nice:=by
 induction l with
 | nil=>cases hy
 | cons x r ih =>
   simp only [St.zBe] at h;rcases xX.1 hy with e | e
   ·subst e;exact h.1
   ·exact ih h.2 e
theorem St.zJm {x:St} (h:x.nice):kOk x.kind /\ zKe x.reg /\ zKe x.name /\ x.ex.nice /\ St.zBe x.thn /\ St.zBe x.els:=by
 cases x;simp only [St.nice] at h;exact h
theorem zE6 (n i:Int):zKe (nameAt n i):=by
 unfold nameAt;split
 ·exact .inl rfl
 ·exact .inr rfl
mutual
theorem Ex.zDH (regs:Int):(x:Ex) -> (x.named regs).nice
 | .mk k num nm l=>by
   have h:=Ex.zBO regs l;simp only [Ex.named,Ex.nice];refine ⟨fun hk=>?_,h⟩
   rw [if_pos hk];split
   ·exact zE6 _ _
   ·exact .inr rfl
theorem Ex.zBO (regs:Int):(l:List Ex) -> Ex.zBe (Ex.zT regs l)
 | []=>trivial
 | x :: r=>by
   have h1:=Ex.zDH regs x;have h2:=Ex.zBO regs r;simp only [Ex.zT,Ex.zBe];exact ⟨h1,h2⟩
end
mutual
theorem Ac.zDH (u:Un) (regs:Int):(x:Ac) -> x.kinds -> (x.named u regs).nice
 | .mk k reg obj ex c t e,h=>by
   simp only [Ac.kinds] at h;have h1:=Ac.zBO u regs t h.2.1;have h2:=Ac.zBO u regs e h.2.2;simp only [Ac.named,St.nice];refine ⟨?_,?_,?_,Ex.zDH regs ex,h1,h2⟩
   ·unfold zCM
    split
    ·exact ⟨by decide,by decide⟩
    ·exact h.1
   ·split
    ·exact zE6 _ _
    ·exact .inr rfl
   ·unfold stName
    split
    ·exact zE6 _ _
    ·exact .inr rfl
theorem Ac.zBO (u:Un) (regs:Int):(l:List Ac) -> Ac.zBl l -> St.zBe (Ac.zT u regs l)
 | [],_=>trivial
 | x :: r,h=>by
   simp only [Ac.zBl] at h;have h1:=Ac.zDH u regs x h.1;have h2:=Ac.zBO u regs r h.2;simp only [Ac.zT,St.zBe];exact ⟨h1,h2⟩
end
theorem zJN (x:St) (hn:x.nice) (w:World) (xa ta ea:Option Addr) (xc tc ec:Nat) :
 Calls Tryz.prog 128 #[stV x xa xc ta tc ea ec] w fun e w'=>e=.returned (.bool (zGS x.kind x.reg x.name x.ex x.count x.thn.length x.els.length)) /\ Keeps zA w w':=by
 obtain ⟨h1,h2,h3,_⟩:=St.zJm hn
 have e1:(x.ex.kind==0&&x.ex.num==0&&zZ x.ex.nm&&x.ex.args.length==0)=x.ex.none:=by
  obtain ⟨k,r,o,⟨a,b,c,l⟩,cn,t,e⟩:=x;show (a==0&&b==0&&zZ c&&l.length==0)=(a==0&&b==0&&zZ c&&l.isEmpty)
  cases l <;> simp
 exact zIW x.kind x.ex.kind x.ex.num x.count x.reg x.name x.ex.nm xa ta ea x.ex.args.length xc x.thn.length tc x.els.length ec (decide (1 <= x.kind /\ x.kind <= 11)) (fields x.kind).reg (fields x.kind).name (fields x.kind).ex (fields x.kind).count (fields x.kind).thn (fields x.kind).els
  (zCO x.reg (fields x.kind).reg) (zCO x.name (fields x.kind).name) x.ex.none (x.count==0 || (fields x.kind).count&&decide (0 < x.count)&&decide (x.count <= 1000)) _ w
  (fun W g h=>zJI x.kind h1 W g h) (fun W=>zLi _ h2 _ W) (fun W=>zLi _ h3 _ W) e1.symm rfl rfl
theorem zOp (x:Ex) (hn:x.nice) (w:World) (ad:Option Addr) (cap c:Nat) (d:Int) (b:Bool) (h:zC w c [.bool b]) :
 Calls Tryz.prog 129 #[exV x ad cap, .int .i64 d, .pointer (some ⟨c,0,none⟩)] w fun e w'=>e=.returned (.tuple #[]) /\ zC w' c [.bool (b&&zA7 x.kind x.num x.nm x.args.length)] /\ Keeps (fun q=>q=c) w w':=by
 have HX:Hid (∀ W,Calls Tryz.prog 130 #[.agg #[.int .i64 x.kind, .int .i64 x.num, .string x.nm, .slice ad x.args.length cap]] W fun e w'=>e=.returned (.bool (zA7 x.kind x.num x.nm x.args.length)) /\ Keeps zA W w'):=fun W=>zI5 x hn.kind W ad cap
 show Calls _ _ #[.agg #[.int .i64 x.kind, .int .i64 x.num, .string x.nm, .slice ad x.args.length cap],_,_] _ _
 obtain ⟨q,hq⟩:=eX (zA7 x.kind x.num x.nm x.args.length);rw [<- hq] at HX ⊢;generalize x.kind=x0 at HX ⊢;generalize x.num=x1 at HX ⊢;generalize x.nm=x2 at HX ⊢;generalize x.args.length=x3 at HX ⊢;clear hq;have HC:=yB h;have hlt:=h.lt (by simp);clear h;go_enter Tryz.func129,Tryz.ntmps129
 go_upto_region 1 with fail
 obtain ⟨b1,hb1⟩:=eX w.heap.size;have hr1:zC (w.alloc (.cells #[.int .i64 x0, .int .i64 x1, .string x2, .slice ad x3 cap] 65)) b1 [.int .i64 x0, .int .i64 x1, .string x2, .slice ad x3 cap]:=J186 _;have hk1:Keeps zA w (w.alloc (.cells #[.int .i64 x0, .int .i64 x1, .string x2, .slice ad x3 cap] 65)):=(yC _ _).alloc _;rw [<- hb1];generalize w.alloc (.cells #[.int .i64 x0, .int .i64 x1, .string x2, .slice ad x3 cap] 65)=w1 at hr1 hk1 ⊢;have rc:=HC.out.keeps hk1 (fun h=>h);have cc:=rc.cell (k:=0) (v:=.bool b) rfl;have fc:=rc.free (k:=0) (by simp);obtain ⟨d0,d1,d2,d3⟩:=hr1.four;have RC:=yB rc;have K1:=yB hk1;clear hr1 hk1 hb1 rc;cases b
 ·exact J95 _
 ·go_wp2_with (go_at_call 130;refine (HX.out _).mono ?_;rintro e w2 ⟨rfl,g1⟩;have r2:=RC.out.keeps g1 (fun h=>h);have cc2:=r2.cell (k:=0) (v:=.bool true) rfl;have fc2:=r2.free (k:=0) (by simp);have R2:=yB r2;have G1:=yB g1;clear g1 r2 cc fc)
  exact J97 _
theorem zPA (x:St) (hn:x.nice) (w:World) (xa ta ea:Option Addr) (xc tc ec c:Nat) (d:Int) (b:Bool) (h:zC w c [.bool b]) :
 Calls Tryz.prog 127 #[stV x xa xc ta tc ea ec, .int .i64 d, .pointer (some ⟨c,0,none⟩)] w fun e w'=>e=.returned (.tuple #[]) /\ zC w' c [.bool (b&&zGS x.kind x.reg x.name x.ex x.count x.thn.length x.els.length)] /\ Keeps (fun q=>q=c) w w':=by
 have HX:=yB (fun W=>zJN x hn W xa ta ea xc tc ec);obtain ⟨q,hq⟩:=eX (zGS x.kind x.reg x.name x.ex x.count x.thn.length x.els.length);rw [<- hq] at HX ⊢;unfold stV at HX ⊢;generalize x.kind=x0 at HX ⊢;generalize x.reg=x1 at HX ⊢;generalize x.name=x2 at HX ⊢;generalize x.ex.kind=x3 at HX ⊢;generalize x.ex.num=x4 at HX ⊢;generalize x.ex.nm=x5 at HX ⊢;generalize x.ex.args.length=x6 at HX ⊢;generalize x.count=x7 at HX ⊢;generalize x.thn.length=x8 at HX ⊢;generalize x.els.length=x9 at HX ⊢;clear hq;have HC:=yB h;have hlt:=h.lt (by simp);clear h;go_enter Tryz.func127,Tryz.ntmps127
 go_upto_region 1 with fail
 obtain ⟨b1,hb1⟩:=eX w.heap.size;have hr1:zC (w.alloc (.cells #[.int .i64 x0, .string x1, .string x2, .int .i64 x3, .int .i64 x4, .string x5, .slice xa x6 xc, .int .i64 x7, .slice ta x8 tc, .slice ea x9 ec] 182)) b1 [.int .i64 x0, .string x1, .string x2, .int .i64 x3, .int .i64 x4, .string x5, .slice xa x6 xc, .int .i64 x7, .slice ta x8 tc, .slice ea x9 ec]:=J186 _;have hk1:Keeps zA w (w.alloc (.cells #[.int .i64 x0, .string x1, .string x2, .int .i64 x3, .int .i64 x4, .string x5, .slice xa x6 xc, .int .i64 x7, .slice ta x8 tc, .slice ea x9 ec] 182)):=(yC _ _).alloc _;rw [<- hb1];generalize w.alloc (.cells #[.int .i64 x0, .string x1, .string x2, .int .i64 x3, .int .i64 x4, .string x5, .slice xa x6 xc, .int .i64 x7, .slice ta x8 tc, .slice ea x9 ec] 182)=w1 at hr1 hk1 ⊢;have rc:=HC.out.keeps hk1 (fun h=>h);have cc:=rc.cell (k:=0) (v:=.bool b) rfl;have fc:=rc.free (k:=0) (by simp);obtain ⟨d0,d1,d2,d3,d4,d5,d6,d7,d8,d9⟩:=hr1.ten;have RC:=yB rc;have K1:=yB hk1;clear hr1 hk1 hb1 rc;cases b
 ·exact J95 _
 ·go_wp2_with (go_at_call 128;refine (HX.out _).mono ?_;rintro e w2 ⟨rfl,g1⟩;have r2:=RC.out.keeps g1 (fun h=>h);have cc2:=r2.cell (k:=0) (v:=.bool true) rfl;have fc2:=r2.free (k:=0) (by simp);have R2:=yB r2;have G1:=yB g1;clear g1 r2 cc fc)
  exact J97 _
theorem zNa:∀ (x:Ex),x.nice -> ∀ (w:World) (F:Nat -> Prop) (ad:Option Addr) (cap c d:Nat) (b:Bool),zN w F x.args ad -> ¬ F c -> zC w c [(.bool b)] -> d+x.cnt < 1000000000 →
 Calls Tryz.prog 147 #[.agg #[.func (.func 127) #[] #[.pointer (some ⟨c,0,none⟩)], .func (.func 129) #[] #[.pointer (some ⟨c,0,none⟩)]],exV x ad cap, .int .i64 d] w fun e w'=>e=.returned (.tuple #[]) /\ zC w' c [(.bool ((b&&Ex.zC5 x)))] /\ Keeps (fun q=>q=c) w w':=by
 refine Ex.ind (fun k num nm l ih hn w F ad cap c d b h hF hc hb=>?_)
 have HL:Hid (zN w F l ad):=h;have IH:=yB ih;have HF:=yB hF;have HCR:=yB hc;have HN:Hid (Ex.zBe l):=hn.args;have hl:=Ex.zAp l;have hcn:Ex.cnt (.mk k num nm l)=1+Ex.zW l:=by simp [Ex.cnt]
 rw [hcn] at hb;have hb2:l.length < 1000000000:=by omega
 have hd2:d < 1000000000:=by omega
 have HB:=yB hb;obtain ⟨tot,ht⟩:=eX (α:=Bool) ((b&&Ex.zC5 (Ex.mk k num nm l)))
 have HT:Hid (((b&&zA7 k num nm l.length)&&Ex.zDS l)=tot):=by
  show _=_
  rw [ht];simp only [Ex.zC5,Bool.and_assoc]
 rw [<- ht];have HCL:Hid (∀ W,zC W c [(.bool b)] -> Calls Tryz.prog 129 #[.agg #[.int .i64 k, .int .i64 num, .string nm, .slice ad l.length cap], .int .i64 d, .pointer (some ⟨c,0,none⟩)] W fun e w'=>e=.returned (.tuple #[]) /\ zC w' c [(.bool (b&&zA7 k num nm l.length))] /\ Keeps (fun q=>q=c) W w'):=fun W h=>zOp (.mk k num nm l) hn W ad cap c d b h
 have hlt0:=hc.lt (by simp);have hlt:=yB hlt0;clear h hF hc ih hl hcn hb ht hlt0 hn;show Calls _ _ #[_, .agg #[.int .i64 k, .int .i64 num, .string nm, .slice ad l.length cap],_] _ _
 have hw:IntKind.i64.wrap ((d:Int)+1)=(d:Int)+1:=kK _ (by omega) (by omega);go_enter Tryz.func147,Tryz.ntmps147
 go_upto_region 1 with fail
 obtain ⟨b3,hb3⟩:=eX w.heap.size;obtain ⟨b4,hb4⟩:=eX (w.heap.size+1);have hr3:zC ((w.alloc (.cells #[.func (.func 127) #[] #[.pointer (some ⟨c,0,none⟩)], .func (.func 129) #[] #[.pointer (some ⟨c,0,none⟩)]] 217)).alloc (.cells #[.int .i64 k, .int .i64 num, .string nm, .slice ad l.length cap] 65)) b3 [.func (.func 127) #[] #[.pointer (some ⟨c,0,none⟩)], .func (.func 129) #[] #[.pointer (some ⟨c,0,none⟩)]]:=J198 _;have hr4:zC ((w.alloc (.cells #[.func (.func 127) #[] #[.pointer (some ⟨c,0,none⟩)], .func (.func 129) #[] #[.pointer (some ⟨c,0,none⟩)]] 217)).alloc (.cells #[.int .i64 k, .int .i64 num, .string nm, .slice ad l.length cap] 65)) b4 [.int .i64 k, .int .i64 num, .string nm, .slice ad l.length cap]:=J205 _;have hk1:Keeps zA w ((w.alloc (.cells #[.func (.func 127) #[] #[.pointer (some ⟨c,0,none⟩)], .func (.func 129) #[] #[.pointer (some ⟨c,0,none⟩)]] 217)).alloc (.cells #[.int .i64 k, .int .i64 num, .string nm, .slice ad l.length cap] 65)):=((yC _ _).alloc _).alloc _;rw [<- hb4,<- hb3];generalize (w.alloc (.cells #[.func (.func 127) #[] #[.pointer (some ⟨c,0,none⟩)], .func (.func 129) #[] #[.pointer (some ⟨c,0,none⟩)]] 217)).alloc (.cells #[.int .i64 k, .int .i64 num, .string nm, .slice ad l.length cap] 65)=w1 at hr3 hr4 hk1 ⊢;have HNE:Hid (b3 ≠ c /\ b4 ≠ c):=⟨by have:=hlt.out;omega,by have:=hlt.out;omega⟩;have R3:=yB hr3;have R4:=yB hr4;have K1:=yB hk1;have RC:Hid (zC w1 c [(.bool b)]):=HCR.out.keeps hk1 (fun h=>h);have y0:=hr3.cell (k:=1) (v:=.func (.func 129) #[] #[.pointer (some ⟨c,0,none⟩)]) rfl;obtain ⟨d0,d1,d2,d3⟩:=hr4.four;clear hr3 hr4 hk1 hb3 hb4;go_upto_region 2 with (go_at_call 129;refine (HCL.out _ RC.out).mono ?_;rintro e w2 ⟨rfl,r2,g2⟩;have R2:=yB r2;have G2:=yB g2;clear r2 g2)
 have c3:=(R4.out.keeps G2.out (fun e=>HNE.out.2 e)).cell (k:=3) (v:=.slice ad l.length cap) rfl;clear d0 d1 d2 d3 y0 RC HCL HCR;go_wp2_with fail
 go_loopw [16] (fun iv wr=>∃ (i:Nat) (v:Bool),i <= l.length /\ iv=.int .i64 i /\ Hid (zC wr c [(.bool v)]) /\ Hid ((v&&Ex.zDS (l.drop i))=tot) /\ Hid (Keeps (fun q=>q=c) w1 wr)) (fun iv _=>l.length - (intOf iv).toNat)
 case atStart=>exact ⟨0,(b&&zA7 k num nm l.length),yJ _,rfl,R2,by show _=_;rw [yR];exact HT.out,G2⟩
 case round =>
  obtain ⟨i,v,hi,rfl,HV,HD,HK⟩:=hrel;by_cases hlt:i < l.length
  ·have i1:(0:Int) <= i:=by omega
   have i2:(i:Int) < l.length:=by omega
   have hd:=HD.out;rw [drop_at hlt] at hd;simp only [Ex.zDS] at hd;have hFc:∀ q,F q -> ¬ (fun q=>q=c) q:=fun q hq e=>HF.out (J203 _)
   obtain ⟨g,o,a,ca,e1,hg,d0,d1,d2,d3,hx⟩:=((HL.out.keeps K1.out (fun _ _ h=>h):zN w1 F l ad).keeps HK.out hFc).at hlt;subst e1
   have HC:Hid (∀ W,Keeps zA wr W -> Calls Tryz.prog 147 #[.agg #[.func (.func 127) #[] #[.pointer (some ⟨c,0,none⟩)], .func (.func 129) #[] #[.pointer (some ⟨c,0,none⟩)]], .agg #[.int .i64 l[i].kind, .int .i64 l[i].num, .string l[i].nm, .slice a l[i].args.length ca], .int .i64 ((d:Int)+1)] W fun e w'=>e=.returned (.tuple #[]) /\ zC w' c [(.bool ((v&&Ex.zC5 l[i])))] /\ Keeps (fun q=>q=c) W w'):=fun W hk=>by
    have e:((d+1:Nat):Int)=(d:Int)+1:=by omega
    rw [<- e];have hcl:=yk (yM hlt);have hbt:=HB.out;exact IH.out _ (yM hlt) (Ex.zD4 HN.out (yM hlt)) W F a ca c (d+1) v (hx.keeps hk (fun _ _ h=>h)) HF.out (HV.out.keeps hk (fun h=>h)) (by omega)
   obtain ⟨v2,hv2⟩:=eX (α:=Bool) ((v&&Ex.zC5 l[i]))
   have HD2:Hid ((v2&&Ex.zDS (l.drop (i+1)))=tot):=by
    show _=_
    rw [hv2,<- hd];rw [Bool.and_assoc]
   rw [<- hv2] at HC;clear hx hFc hd hv2;generalize l[i].kind=x0 at d0 HC;generalize l[i].num=x1 at d1 HC;generalize l[i].nm=x2 at d2 HC;generalize l[i].args.length=x3 at d3 HC;go_upto_region 5 with fail
   obtain ⟨b7,hb7⟩:=eX wr.heap.size;have hr7:zC (wr.alloc (.cells #[.int .i64 x0, .int .i64 x1, .string x2, .slice a x3 ca] 65)) b7 [.int .i64 x0, .int .i64 x1, .string x2, .slice a x3 ca]:=J191 _;have hk7:Keeps zA wr (wr.alloc (.cells #[.int .i64 x0, .int .i64 x1, .string x2, .slice a x3 ca] 65)):=(yC _ _).alloc _;rw [<- hb7];generalize wr.alloc (.cells #[.int .i64 x0, .int .i64 x1, .string x2, .slice a x3 ca] 65)=w7 at hr7 hk7 ⊢;obtain ⟨y0,y1,y2,y3⟩:=hr7.four;have r3:=(R3.out.keeps HK.out (fun e=>HNE.out.1 e)).keeps hk7 (fun h=>h);have q0:=r3.cell (k:=0) (v:=.func (.func 127) #[] #[.pointer (some ⟨c,0,none⟩)]) rfl;have q1:=r3.cell (k:=1) (v:=.func (.func 129) #[] #[.pointer (some ⟨c,0,none⟩)]) rfl;exact J26 _
  ·obtain rfl:i=l.length:=by omega
   have hd:=HD.out;rw [xO] at hd;simp only [Ex.zDS] at hd;have hd2:v=tot:=by rw [<- hd];simp
   exact J15 _
end Go.Proofs.YtfokdllgnblamaaGreatDoor
namespace Go.Proofs.YtfokdllgnblamaaGreatDoor
theorem Ex.zF1 (x:Ex):x.there=(x.kind != 0 || x.args.length != 0):=by
 obtain ⟨k,n,s,l⟩:=x;show (k != 0 || !l.isEmpty)=(k != 0 || l.length != 0)
 cases l <;> simp
theorem St.zNI (x:St):x.form=(zGS x.kind x.reg x.name x.ex x.count x.thn.length x.els.length&&(!x.ex.there || x.ex.zC5)&&St.zBL x.thn&&St.zBL x.els):=by
 cases x;simp only [St.form,St.kind,St.reg,St.name,St.ex,St.count,St.thn,St.els]
theorem St.zEE (x:St):x.cnt=1+(if x.ex.there then x.ex.cnt else 0)+St.zW x.thn+St.zW x.els:=by
 cases x;simp only [St.cnt];rfl
theorem St.zJf (d:Nat) (x:St):x.deep d=max (max d (if x.ex.there then x.ex.dep else 0)) (max (St.zw (d+1) x.thn) (St.zw (d+1) x.els)):=by
 cases x;simp only [St.deep];rfl
mutual
theorem St.zLf:(x:St) -> x.cnt <= x.sz
 | .mk k r n x c t e=>by
   have h1:=St.zDJ t;have h2:=St.zDJ e;simp only [St.cnt,St.sz];split <;> omega
theorem St.zDJ:(l:List St) -> St.zW l <= St.szL l
 | []=>yV _
 | x :: r=>by
   have h1:=St.zLf x;have h2:=St.zDJ r;simp only [St.zW,St.szL];omega
end
mutual
theorem St.zNi (d:Nat):(x:St) -> x.deep d <= d+x.sz
 | .mk k r n x c t e=>by
   have h1:=St.zCd (d+1) t;have h2:=St.zCd (d+1) e;have h3:=Ex.zHi x;simp only [St.deep,St.sz];split <;> omega
theorem St.zCd (d:Nat):(l:List St) -> St.zw d l <= d+St.szL l
 | []=>by simp only [St.zw];omega
 | x :: r=>by
   have h1:=St.zNi d x;have h2:=St.zCd d r;simp only [St.zw,St.szL];omega
end
theorem St.room:∀ (i:Nat) (l:List St),St.zW l+St.szL (l.drop i) <= St.szL l+St.zW (l.drop i)
 | 0,l=>by rw [yR];omega
 | i+1,[]=>by simp [St.zW,St.szL]
 | i+1,x :: r=>by
   have h1:=St.room i r;have h2:=St.zLf x;rw [yS];simp only [St.zW,St.szL];omega
end Go.Proofs.YtfokdllgnblamaaGreatDoor
namespace Go.Proofs.YtfokdllgnblamaaGreatDoor
open Go.RowKit
def zDe (l:List St):Prop:=∀ (w:World) (F:Nat -> Prop) (ad:Option Addr) (cap c d:Nat) (b:Bool),zy w F l ad -> St.zBe l -> ¬ F c -> zC w c [(.bool b)] -> d+St.szL l < 1000000000 →
 Calls Tryz.prog 143 #[.agg #[.func (.func 127) #[] #[.pointer (some ⟨c,0,none⟩)], .func (.func 129) #[] #[.pointer (some ⟨c,0,none⟩)]], .slice ad l.length cap, .int .i64 d] w fun e w'=>e=.returned (.tuple #[]) /\ zC w' c [(.bool (b&&St.zBL l))] /\ Keeps (fun q=>q=c) w w'
theorem zFK (l:List St) (ih:∀ y,y ∈ l -> zDe y.thn /\ zDe y.els):zDe l:=by
 intro w F ad cap c d b h hnn hF hc hb
 have HL:=yB h;have IH:=yB ih;have HF:=yB hF;have HCR:=yB hc;have HN:=yB hnn;have hl:=St.zAp l;have hb2:l.length < 1000000000:=by omega
 have hd2:d < 1000000000:=by omega
 have HB:=yB hb;obtain ⟨tot,ht⟩:=eX (α:=Bool) ((b&&St.zBL l));have HT0:=yB ht;rw [<- ht];have hlt0:=hc.lt (by simp);have hlt:=yB hlt0;clear h hF hc ih hl hb ht hlt0 hnn;have hw:IntKind.i64.wrap ((d:Int)+1)=(d:Int)+1:=kK _ (by omega) (by omega);go_enter Tryz.func143,Tryz.ntmps143
 go_upto_region 1 with fail
 obtain ⟨b3,hb3⟩:=eX w.heap.size;have hr3:zC (w.alloc (.cells #[.func (.func 127) #[] #[.pointer (some ⟨c,0,none⟩)], .func (.func 129) #[] #[.pointer (some ⟨c,0,none⟩)]] 217)) b3 [.func (.func 127) #[] #[.pointer (some ⟨c,0,none⟩)], .func (.func 129) #[] #[.pointer (some ⟨c,0,none⟩)]]:=J202 _;have hk1:Keeps zA w (w.alloc (.cells #[.func (.func 127) #[] #[.pointer (some ⟨c,0,none⟩)], .func (.func 129) #[] #[.pointer (some ⟨c,0,none⟩)]] 217)):=(yC _ _).alloc _;rw [<- hb3];generalize w.alloc (.cells #[.func (.func 127) #[] #[.pointer (some ⟨c,0,none⟩)], .func (.func 129) #[] #[.pointer (some ⟨c,0,none⟩)]] 217)=w1 at hr3 hk1 ⊢;have HNE:Hid (b3 ≠ c):=by show _ ≠ _;have:=hlt.out;omega
 have R3:=yB hr3;have K1:=yB hk1;have RC:Hid (zC w1 c [(.bool b)]):=HCR.out.keeps hk1 (fun h=>h);have HLC:Hid (c < w1.heap.size):=RC.out.lt (by simp);clear hr3 hk1 hb3 HCR;go_wp2_with fail
 go_loopw [10] (fun iv wr=>∃ (i:Nat) (v:Bool),i <= l.length /\ iv=.int .i64 i /\ Hid (zC wr c [(.bool v)]) /\ Hid ((v&&St.zBL (l.drop i))=tot) /\ Hid (Keeps (fun q=>q=c) w1 wr)) (fun iv _=>l.length - (intOf iv).toNat)
 case atStart=>exact ⟨0,b,yJ _,rfl,RC,by show _=_;rw [yR];exact HT0.out.symm,yC _ _⟩
 case round =>
  obtain ⟨i,v,hi,rfl,HV,HD,HK⟩:=hrel;by_cases hlt:i < l.length
  ·have i1:(0:Int) <= i:=by omega
   have i2:(i:Int) < l.length:=by omega
   have hd:=HD.out;rw [drop_at hlt] at hd;simp only [St.zBL,St.zNI] at hd;have hFc:∀ q,F q -> ¬ (fun q=>q=c) q:=fun q hq e=>HF.out (J203 _)
   obtain ⟨g,o,xa,xc,ta,tc,ea,ec,e1,hg,d0,d1,d2,d3,d4,d5,d6,d7,d8,d9,hx,hxt,hxe⟩:=((HL.out.keeps K1.out (fun _ _ h=>h):zy w1 F l ad).keeps HK.out hFc).at hlt;subst e1;have hsz:=St.zBy (yM hlt);rw [St.zCI] at hsz;have hB:=HB.out;have hni:=St.zJm (St.zD4 HN.out (yM hlt));have hnx:=St.zD4 HN.out (yM hlt);obtain ⟨v1,hv1⟩:=eX (α:=Bool) ((v&&zGS l[i].kind l[i].reg l[i].name l[i].ex l[i].count l[i].thn.length l[i].els.length))
   have HS:Hid (∀ W,zC W c [(.bool v)] -> Calls Tryz.prog 127 #[.agg #[.int .i64 l[i].kind, .string l[i].reg, .string l[i].name, .int .i64 l[i].ex.kind, .int .i64 l[i].ex.num, .string l[i].ex.nm, .slice xa l[i].ex.args.length xc, .int .i64 l[i].count, .slice ta l[i].thn.length tc, .slice ea l[i].els.length ec], .int .i64 d, .pointer (some ⟨c,0,none⟩)] W fun e w'=>e=.returned (.tuple #[]) /\ zC w' c [(.bool v1)] /\ Keeps (fun q=>q=c) W w'):=by
    rw [hv1];exact fun W h=>zPA l[i] hnx W xa ta ea xc tc ec c d v h
   have HX:Hid (∀ W,Keeps (fun q=>q=c) wr W -> zC W c [(.bool v1)] -> Calls Tryz.prog 147 #[.agg #[.func (.func 127) #[] #[.pointer (some ⟨c,0,none⟩)], .func (.func 129) #[] #[.pointer (some ⟨c,0,none⟩)]], .agg #[.int .i64 l[i].ex.kind, .int .i64 l[i].ex.num, .string l[i].ex.nm, .slice xa l[i].ex.args.length xc], .int .i64 1] W fun e w'=>e=.returned (.tuple #[]) /\ zC w' c [(.bool (v1&&Ex.zC5 l[i].ex))] /\ Keeps (fun q=>q=c) W w'):=fun W hk h =>
    zNa l[i].ex hni.2.2.2.1 W F xa xc c 1 v1 (hx.keeps hk hFc) HF.out h (by omega)
   have hth:l[i].ex.there=(l[i].ex.kind != 0 || l[i].ex.args.length != 0):=Ex.zF1 _
   have HT:Hid (∀ W (s:Bool),True -> Keeps (fun q=>q=c) wr W -> zC W c [(.bool s)] -> Calls Tryz.prog 143 #[.agg #[.func (.func 127) #[] #[.pointer (some ⟨c,0,none⟩)], .func (.func 129) #[] #[.pointer (some ⟨c,0,none⟩)]], .slice ta l[i].thn.length tc, .int .i64 ((d:Int)+1)] W fun e w'=>e=.returned (.tuple #[]) /\ zC w' c [(.bool (s&&St.zBL l[i].thn))] /\ Keeps (fun q=>q=c) W w'):=fun W s hs hk h=>by
    have e:((d+1:Nat):Int)=(d:Int)+1:=by omega
    rw [<- e];exact (IH.out _ (yM hlt)).1 W F ta tc c (d+1) s (hxt.keeps hk hFc) hni.2.2.2.2.1 HF.out h (by omega)
   have HE:Hid (∀ W (s:Bool),True -> Keeps (fun q=>q=c) wr W -> zC W c [(.bool s)] -> Calls Tryz.prog 143 #[.agg #[.func (.func 127) #[] #[.pointer (some ⟨c,0,none⟩)], .func (.func 129) #[] #[.pointer (some ⟨c,0,none⟩)]], .slice ea l[i].els.length ec, .int .i64 ((d:Int)+1)] W fun e w'=>e=.returned (.tuple #[]) /\ zC w' c [(.bool (s&&St.zBL l[i].els))] /\ Keeps (fun q=>q=c) W w'):=fun W s hs hk h=>by
    have e:((d+1:Nat):Int)=(d:Int)+1:=by omega
    rw [<- e];exact (IH.out _ (yM hlt)).2 W F ea ec c (d+1) s (hxe.keeps hk hFc) hni.2.2.2.2.2 HF.out h (by omega)
   have HDD:=yB hd;have HV1:=yB hv1;have HTH:=yB hth;have hz3:l[i].ex.kind=0 /\ l[i].ex.args.length=0 \/ l[i].ex.kind=0 /\ 0 < l[i].ex.args.length \/ ¬ l[i].ex.kind=0:=by omega
   obtain ⟨th,hthe⟩:=eX (l[i].ex.there);have HTE:=yB hthe;rw [<- hthe] at hth;clear hx hxt hxe hFc hd hv1 hsz hB hthe hni hnx;generalize l[i].kind=x0 at d0 HS;generalize l[i].reg=x1 at d1 HS;generalize l[i].name=x2 at d2 HS;generalize l[i].ex.kind=x3 at d3 HS HX hth hz3;generalize l[i].ex.num=x4 at d4 HS HX;generalize l[i].ex.nm=x5 at d5 HS HX;generalize l[i].ex.args.length=x6 at d6 HS HX hth hz3;generalize l[i].count=x7 at d7 HS;generalize l[i].thn.length=x8 at d8 HS HT;generalize l[i].els.length=x9 at d9 HS HE;go_upto_region 4 with fail
   obtain ⟨b7,hb7⟩:=eX wr.heap.size;have hr7:zC (wr.alloc (.cells #[.int .i64 x0, .string x1, .string x2, .int .i64 x3, .int .i64 x4, .string x5, .slice xa x6 xc, .int .i64 x7, .slice ta x8 tc, .slice ea x9 ec] 182)) b7 [.int .i64 x0, .string x1, .string x2, .int .i64 x3, .int .i64 x4, .string x5, .slice xa x6 xc, .int .i64 x7, .slice ta x8 tc, .slice ea x9 ec]:=J191 _;have hk7:Keeps zA wr (wr.alloc (.cells #[.int .i64 x0, .string x1, .string x2, .int .i64 x3, .int .i64 x4, .string x5, .slice xa x6 xc, .int .i64 x7, .slice ta x8 tc, .slice ea x9 ec] 182)):=(yC _ _).alloc _;have hn7:b7 ≠ c:=by have:=HLC.out;have:=HK.out.size;omega
   rw [<- hb7];generalize wr.alloc (.cells #[.int .i64 x0, .string x1, .string x2, .int .i64 x3, .int .i64 x4, .string x5, .slice xa x6 xc, .int .i64 x7, .slice ta x8 tc, .slice ea x9 ec] 182)=w7 at hr7 hk7 ⊢;obtain ⟨y0,y1,y2,y3,y4,y5,y6,y7,y8,y9⟩:=hr7.ten;have r3:=(R3.out.keeps HK.out (fun e=>HNE.out e)).keeps hk7 (fun h=>h);have q0:=r3.cell (k:=0) (v:=.func (.func 127) #[] #[.pointer (some ⟨c,0,none⟩)]) rfl;have q1:=r3.cell (k:=1) (v:=.func (.func 129) #[] #[.pointer (some ⟨c,0,none⟩)]) rfl;have K7:=yB hk7;have R7:=yB hr7;have R37:=yB r3;have HN7:=yB hn7;have RC7:Hid (zC w7 c [(.bool v)]):=HV.out.keeps hk7 (fun h=>h);clear hr7 hk7 r3 hb7 hn7 d0 d1 d2 d3 d4 d5 d6 d7 d8 d9;go_upto_region 5 with (go_at_call 127;refine (HS.out _ RC7.out).mono ?_;rintro e w8 ⟨rfl,r8,g8⟩;have R8:=yB r8;have G8:=yB g8;clear r8 g8)
   have KR8:Hid (Keeps (fun q=>q=c) wr w8):=(K7.out.mono (S:=fun q=>q=c) (fun _ _ h=>False.elim h)).trans G8.out (fun _ _ h=>h);have R78:Hid (zC w8 b7 [.int .i64 x0, .string x1, .string x2, .int .i64 x3, .int .i64 x4, .string x5, .slice xa x6 xc, .int .i64 x7, .slice ta x8 tc, .slice ea x9 ec]):=R7.out.keeps G8.out (fun e=>HN7.out e);have R38:Hid (zC w8 b3 [.func (.func 127) #[] #[.pointer (some ⟨c,0,none⟩)], .func (.func 129) #[] #[.pointer (some ⟨c,0,none⟩)]]):=R37.out.keeps G8.out (fun e=>HNE.out e);clear y0 y1 y2 y3 y4 y5 y6 y7 y8 y9 q0 q1;obtain ⟨y0,y1,y2,y3,y4,y5,y6,y7,y8,y9⟩:=R78.out.ten;have q0:=R38.out.cell (k:=0) (v:=.func (.func 127) #[] #[.pointer (some ⟨c,0,none⟩)]) rfl;have q1:=R38.out.cell (k:=1) (v:=.func (.func 129) #[] #[.pointer (some ⟨c,0,none⟩)]) rfl;clear HS;rcases hz3 with ⟨hz,hzl⟩ | ⟨hz,hzl⟩ | hz
   ·have hzi:(x6:Int)=0:=by omega
    have hTH:l[i].ex.there=false:=by rw [<- HTE.out,hth];simp [hz,hzl]
    have HTHE:=yB hTH;clear hTH hth;obtain ⟨v2,hv2⟩:=eX (α:=Bool) v1;have HV2:=yB hv2;go_upto_region 7 with fail
    obtain ⟨w9,hw9⟩:=eX w8;have G9:Hid (Keeps (fun q=>q=c) w8 w9):=by show Keeps _ _ _;rw [hw9];exact yC _ _
    have R9:Hid (zC w9 c [(.bool v2)]):=by show zC _ _ _;rw [hw9,hv2];exact R8.out
    rw [<- hw9];clear hw9;exact J157 _
   ·have hzi:(0:Int) < x6:=by omega
    subst hz;have hTH:l[i].ex.there=true:=by rw [<- HTE.out,hth];simp;omega
    have HTHE:=yB hTH;clear hTH hth;obtain ⟨v2,hv2⟩:=eX (α:=Bool) ((v1&&Ex.zC5 l[i].ex));have HV2:=yB hv2;go_upto_region 7 with (go_at_call 147;refine (HX.out _ KR8.out R8.out).mono ?_;rintro e w9 ⟨rfl,r9,g9⟩;rw [<- hv2] at r9;have R9:=yB r9;have G9:=yB g9;clear r9 g9)
    clear hv2 y0 y1 y2 y3 y4 y5 y6 y7 y8 y9 q0 q1;have KR9:Hid (Keeps (fun q=>q=c) wr w9):=KR8.out.trans G9.out (fun _ _ h=>h);have R79:Hid (zC w9 b7 [.int .i64 x0, .string x1, .string x2, .int .i64 0, .int .i64 x4, .string x5, .slice xa x6 xc, .int .i64 x7, .slice ta x8 tc, .slice ea x9 ec]):=R78.out.keeps G9.out (fun e=>HN7.out e);exact J6 _
   ·have hzb:(x3==0)=false:=by simpa using hz
    have hTH:l[i].ex.there=true:=by rw [<- HTE.out,hth];simp [hz]
    have HTHE:=yB hTH;clear hTH hth;obtain ⟨v2,hv2⟩:=eX (α:=Bool) ((v1&&Ex.zC5 l[i].ex));have HV2:=yB hv2;go_upto_region 7 with (go_at_call 147;refine (HX.out _ KR8.out R8.out).mono ?_;rintro e w9 ⟨rfl,r9,g9⟩;rw [<- hv2] at r9;have R9:=yB r9;have G9:=yB g9;clear r9 g9)
    exact J157 _
  ·obtain rfl:i=l.length:=by omega
   have hd:=HD.out;rw [xO] at hd;simp only [St.zBL] at hd;have hd2:v=tot:=by rw [<- hd];simp
   exact J15 _
theorem zOM (l:List St):zDe l:=by
 have key:∀ x:St,zDe x.thn /\ zDe x.els:=fun x=>St.ind (P:=fun x=>zDe x.thn /\ zDe x.els) (fun k r o x c t e h1 h2=>⟨zFK t h1,zFK e h2⟩) x
 exact zFK l (fun y _=>key y)
end Go.Proofs.YtfokdllgnblamaaGreatDoor
namespace Go.Proofs.YtfokdllgnblamaaGreatDoor
def zA0:List (List St) -> Bool
 | []=>true
 | t :: r=>St.zBL t&&zA0 r
def zAJ:List (List St) -> Nat
 | []=>0
 | t :: r=>max (St.zw 1 t) (zAJ r)
def zAb:List (List St) -> Nat
 | []=>0
 | t :: r=>St.zW t+zAb r
def zBj:List (List St) -> Nat
 | []=>0
 | t :: r=>1+St.szL t+zBj r
def zDN:List (List St) -> Prop
 | []=>True
 | t :: r=>St.zBe t /\ zDN r
theorem zDk {ts:List (List St)} {t:List St} (h:t ∈ ts):St.szL t < zBj ts:=by
 induction ts with
 | nil=>cases h
 | cons x r ih =>
   simp only [zBj];rcases xX.1 h with e | e
   ·subst e;omega
   ·have:=ih e;omega
theorem zJF {ts:List (List St)} (hn:zDN ts) {t:List St} (h:t ∈ ts):St.zBe t:=by
 induction ts with
 | nil=>cases h
 | cons x r ih =>
   simp only [zDN] at hn;rcases xX.1 h with e | e
   ·subst e;exact hn.1
   ·exact ih hn.2 e
theorem zFC (ts:List (List St)):zAJ ts <= 1+zBj ts:=by
 induction ts with
 | nil=>simp [zAJ]
 | cons t r ih =>
   have:=St.zCd 1 t
   simp only [zAJ,zBj];omega
theorem zIK (ts:List (List St)):zAb ts <= zBj ts:=by
 induction ts with
 | nil=>simp [zAb]
 | cons t r ih =>
   have:=St.zDJ t
   simp only [zAb,zBj];omega
theorem zH8 (ts:List (List St)):ts.length <= zBj ts:=by
 induction ts with
 | nil=>simp
 | cons t r ih=>simp only [zBj,xZ];omega
theorem zLA:∀ (i:Nat) (l:List (List St)),zAb l+zBj (l.drop i) <= zBj l+zAb (l.drop i)
 | 0,l=>by rw [yR];omega
 | i+1,[]=>by simp [zAb,zBj]
 | i+1,x :: r=>by
   have h1:=zLA i r;have h2:=St.zDJ x;rw [yS];simp only [zAb,zBj];omega
def zAw (w:World) (F:Nat -> Prop) (nm:ByteArray) (ts:List (List St)) (ad:Option Addr):Prop :=
 ts.length <= 1000 /\ ∀ i (hi:i < ts.length),∃ g o ba bc,ad=some ⟨g,o,none⟩ /\ F g /\ w.cell? ⟨g,o+i*2,none⟩=some (.string nm) /\ w.cell? ⟨g,o+i*2+1,none⟩=some (.slice ba ts[i].length bc) /\ zy w F ts[i] ba
theorem zAw.len {w:World} {F:Nat -> Prop} {nm:ByteArray} {ts:List (List St)} {ad:Option Addr} (h:zAw w F nm ts ad):ts.length <= 1000:=h.1
theorem zAw.at {w:World} {F:Nat -> Prop} {nm:ByteArray} {ts:List (List St)} {ad:Option Addr} (h:zAw w F nm ts ad) {i:Nat} (hi:i < ts.length) :
 ∃ g o ba bc,ad=some ⟨g,o,none⟩ /\ F g /\ w.cell? ⟨g,o+i*2,none⟩=some (.string nm) /\ w.cell? ⟨g,o+i*2+1,none⟩=some (.slice ba ts[i].length bc) /\ zy w F ts[i] ba:=h.2 i hi
theorem zAw.keeps {S F:Nat -> Prop} {w w':World} {nm:ByteArray} {ts:List (List St)} {ad:Option Addr} (h:zAw w F nm ts ad) (hk:Keeps S w w') (hS:∀ k,F k -> ¬ S k):zAw w' F nm ts ad:=by
 refine ⟨h.1,fun i hi=>?_⟩
 obtain ⟨g,o,ba,bc,e,hg,c0,c1,hx⟩:=h.2 i hi;exact ⟨g,o,ba,bc,e,hg,hk.cell (p:=⟨g,_,none⟩) (hS g hg) c0,hk.cell (p:=⟨g,_,none⟩) (hS g hg) c1,hx.keeps hk hS⟩
theorem zAw.mono {F F':Nat -> Prop} {w:World} {nm:ByteArray} {ts:List (List St)} {ad:Option Addr} (h:zAw w F nm ts ad) (hF:∀ k,F k -> F' k):zAw w F' nm ts ad:=by
 refine ⟨h.1,fun i hi=>?_⟩
 obtain ⟨g,o,ba,bc,e,hg,c0,c1,hx⟩:=h.2 i hi;exact ⟨g,o,ba,bc,e,hF g hg,c0,c1,hx.mono hF⟩
end Go.Proofs.YtfokdllgnblamaaGreatDoor
namespace Go.Proofs.YtfokdllgnblamaaGreatDoor
open Go.RowKit
theorem zJ5 (nm:ByteArray) (ts:List (List St)) (w:World) (F:Nat -> Prop) (pca pma ta:Option Addr) (pcn pcc pmn pmc tc c:Nat) (b:Bool) (h:zAw w F nm ts ta) (hnn:zDN ts) (hF:¬ F c) (hc:zC w c [(.bool b)]) (hb:zBj ts < 900000000) :
 Calls Tryz.prog 131 #[.agg #[.func (.func 127) #[] #[.pointer (some ⟨c,0,none⟩)], .func (.func 129) #[] #[.pointer (some ⟨c,0,none⟩)]], .agg #[.slice pca pcn pcc, .slice pma pmn pmc, .slice ta ts.length tc]] w fun e w'=>e=.returned (.tuple #[]) /\ zC w' c [(.bool (b&&zA0 ts))] /\ Keeps (fun q=>q=c) w w':=by
 have HL:=yB h;have HF:=yB hF;have HCR:=yB hc;have HN:=yB hnn;have hl:ts.length <= 1000000000:=by have:=h.len;omega
 have HB:=yB hb;obtain ⟨tot,ht⟩:=eX (α:=Bool) ((b&&zA0 ts));have HT0:=yB ht;rw [<- ht];have hlt0:=hc.lt (by simp);have hlt:=yB hlt0;clear h hF hc hb ht hlt0 hnn;go_enter Tryz.func131,Tryz.ntmps131
 go_upto_region 1 with fail
 obtain ⟨b3,hb3⟩:=eX w.heap.size;obtain ⟨b4,hb4⟩:=eX (w.heap.size+1);have hr3:zC ((w.alloc (.cells #[.func (.func 127) #[] #[.pointer (some ⟨c,0,none⟩)], .func (.func 129) #[] #[.pointer (some ⟨c,0,none⟩)]] 217)).alloc (.cells #[.slice pca pcn pcc, .slice pma pmn pmc, .slice ta ts.length tc] 150)) b3 [.func (.func 127) #[] #[.pointer (some ⟨c,0,none⟩)], .func (.func 129) #[] #[.pointer (some ⟨c,0,none⟩)]]:=J198 _;have hr4:zC ((w.alloc (.cells #[.func (.func 127) #[] #[.pointer (some ⟨c,0,none⟩)], .func (.func 129) #[] #[.pointer (some ⟨c,0,none⟩)]] 217)).alloc (.cells #[.slice pca pcn pcc, .slice pma pmn pmc, .slice ta ts.length tc] 150)) b4 [.slice pca pcn pcc, .slice pma pmn pmc, .slice ta ts.length tc]:=J205 _;have hk1:Keeps zA w ((w.alloc (.cells #[.func (.func 127) #[] #[.pointer (some ⟨c,0,none⟩)], .func (.func 129) #[] #[.pointer (some ⟨c,0,none⟩)]] 217)).alloc (.cells #[.slice pca pcn pcc, .slice pma pmn pmc, .slice ta ts.length tc] 150)):=((yC _ _).alloc _).alloc _;rw [<- hb4,<- hb3];generalize (w.alloc (.cells #[.func (.func 127) #[] #[.pointer (some ⟨c,0,none⟩)], .func (.func 129) #[] #[.pointer (some ⟨c,0,none⟩)]] 217)).alloc (.cells #[.slice pca pcn pcc, .slice pma pmn pmc, .slice ta ts.length tc] 150)=w1 at hr3 hr4 hk1 ⊢;have HNE:Hid (b3 ≠ c):=by show _ ≠ _;have:=hlt.out;omega
 have R3:=yB hr3;have K1:=yB hk1;have RC:Hid (zC w1 c [(.bool b)]):=HCR.out.keeps hk1 (fun h=>h);have HLC:Hid (c < w1.heap.size):=RC.out.lt (by simp);obtain ⟨d0,d1,d2⟩:=hr4.three;clear hr3 hr4 hk1 hb3 hb4 HCR;go_wp2_with fail
 clear d0 d1 d2;go_loopw [9] (fun iv wr=>∃ (i:Nat) (v:Bool),i <= ts.length /\ iv=.int .i64 i /\ Hid (zC wr c [(.bool v)]) /\ Hid ((v&&zA0 (ts.drop i))=tot) /\ Hid (Keeps (fun q=>q=c) w1 wr)) (fun iv _=>ts.length - (intOf iv).toNat)
 case atStart=>exact ⟨0,b,yJ _,rfl,RC,by show _=_;rw [yR];exact HT0.out.symm,yC _ _⟩
 case round =>
  obtain ⟨i,v,hi,rfl,HV,HD,HK⟩:=hrel;by_cases hlt:i < ts.length
  ·have i1:(0:Int) <= i:=by omega
   have i2:(i:Int) < ts.length:=by omega
   have hd:=HD.out;rw [drop_at hlt] at hd;simp only [zA0] at hd;have hFc:∀ q,F q -> ¬ (fun q=>q=c) q:=fun q hq e=>HF.out (J203 _)
   obtain ⟨g,o,ba,bc,e1,hg,d0,d1,hx⟩:=((HL.out.keeps K1.out (fun _ _ h=>h):zAw w1 F nm ts ta).keeps HK.out hFc).at hlt;subst e1;have hsz:=zDk (yM hlt);have hB:=HB.out;obtain ⟨v1,hv1⟩:=eX (α:=Bool) ((v&&St.zBL ts[i]))
   have HS:Hid (∀ W,Keeps zA wr W -> Calls Tryz.prog 143 #[.agg #[.func (.func 127) #[] #[.pointer (some ⟨c,0,none⟩)], .func (.func 129) #[] #[.pointer (some ⟨c,0,none⟩)]], .slice ba ts[i].length bc, .int .i64 1] W fun e w'=>e=.returned (.tuple #[]) /\ zC w' c [(.bool v1)] /\ Keeps (fun q=>q=c) W w'):=by
    rw [hv1];exact fun W hk=>zOM ts[i] W F ba bc c 1 v (hx.keeps hk (fun _ _ h=>h)) (zJF HN.out (yM hlt)) HF.out (HV.out.keeps hk (fun h=>h)) (by omega)
   have HDN:Hid ((v1&&zA0 (ts.drop (i+1)))=tot):=by
    show _=_
    rw [hv1];rw [<- hd];simp [Bool.and_assoc]
   clear hx hFc hd hsz hB hv1;generalize ts[i].length=x1 at d1 HS;go_upto_region 4 with fail
   obtain ⟨b7,hb7⟩:=eX wr.heap.size;have hr7:zC (wr.alloc (.cells #[.string nm, .slice ba x1 bc] 155)) b7 [.string nm, .slice ba x1 bc]:=J191 _;have hk7:Keeps zA wr (wr.alloc (.cells #[.string nm, .slice ba x1 bc] 155)):=(yC _ _).alloc _;rw [<- hb7];generalize wr.alloc (.cells #[.string nm, .slice ba x1 bc] 155)=w7 at hr7 hk7 ⊢;have y1:=hr7.cell (k:=1) (v:=.slice ba x1 bc) rfl;have r3:=(R3.out.keeps HK.out (fun e=>HNE.out e)).keeps hk7 (fun h=>h);have q0:=r3.cell (k:=0) (v:=.func (.func 127) #[] #[.pointer (some ⟨c,0,none⟩)]) rfl;have q1:=r3.cell (k:=1) (v:=.func (.func 129) #[] #[.pointer (some ⟨c,0,none⟩)]) rfl;exact J28 _
  ·obtain rfl:i=ts.length:=by omega
   have hd:=HD.out;rw [xO] at hd;simp only [zA0] at hd;have hd2:v=tot:=by rw [<- hd];simp
   exact J15 _
end Go.Proofs.YtfokdllgnblamaaGreatDoor
