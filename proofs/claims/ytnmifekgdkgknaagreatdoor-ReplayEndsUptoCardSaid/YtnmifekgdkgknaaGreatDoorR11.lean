/- Layer R: texts joined. -/
import Derived.Test.YtnmifekgdkgknaaGreatDoorR04
import Derived.Test.YtnmifekgdkgknaaGreatDoorR06
import Derived.Test.YtnmifekgdkgknaaGreatDoorR02
import Derived.Test.YtnmifekgdkgknaaGreatDoorR10
set_option linter.unusedVariables false
set_option linter.unusedSimpArgs false
set_option linter.unnecessarySimpa false
namespace Go.Proofs.YtnmifekgdkgknaaGreatDoor
open Go.RowKit
def nmOk (s:ByteArray):Prop:=s=xNm \/ s=noNm
def kOk (k:Int):Prop:=-9223372036854775808 <= k /\ k < 9223372036854775808
mutual
def Ex.nice:Ex -> Prop
 | .mk k _ nm l=>(k=2 -> nmOk nm) /\ Ex.niceL l
def Ex.niceL:List Ex -> Prop
 | []=>True
 | x :: r=>Ex.nice x /\ Ex.niceL r
end
mutual
def St.nice:St -> Prop
 | .mk k r n x _ t e=>kOk k /\ nmOk r /\ nmOk n /\ x.nice /\ St.niceL t /\ St.niceL e
def St.niceL:List St -> Prop
 | []=>True
 | x :: r=>St.nice x /\ St.niceL r
end
mutual
def Ac.kinds:Ac -> Prop
 | .mk k _ _ _ _ t e=>kOk k /\ Ac.kindsL t /\ Ac.kindsL e
def Ac.kindsL:List Ac -> Prop
 | []=>True
 | x :: r=>Ac.kinds x /\ Ac.kindsL r
end
theorem Ex.nice.kind {x:Ex} (h:x.nice):x.kind=2 -> x.nm=xNm \/ x.nm=noNm:=by
 cases x;simp only [Ex.nice] at h;exact h.1
theorem Ex.nice.args {x:Ex} (h:x.nice):Ex.niceL x.args:=by
 cases x;simp only [Ex.nice] at h;exact h.2
theorem Ex.niceL_mem {l:List Ex} (h:Ex.niceL l) {y:Ex} (hy:y ∈ l):y.nice:=by
 induction l with
 | nil=>cases hy
 | cons x r ih =>
   simp only [Ex.niceL] at h;rcases List.mem_cons.1 hy with e | e
   ·subst e;exact h.1
   ·exact ih h.2 e
theorem St.niceL_mem {l:List St} (h:St.niceL l) {y:St} (hy:y ∈ l):y.nice:=by
 induction l with
 | nil=>cases hy
 | cons x r ih =>
   simp only [St.niceL] at h;rcases List.mem_cons.1 hy with e | e
   ·subst e;exact h.1
   ·exact ih h.2 e
theorem St.nice_eq {x:St} (h:x.nice):kOk x.kind /\ nmOk x.reg /\ nmOk x.name /\ x.ex.nice /\ St.niceL x.thn /\ St.niceL x.els:=by
 cases x;simp only [St.nice] at h;exact h
theorem nameAt_ok (n i:Int):nmOk (nameAt n i):=by
 unfold nameAt;split
 ·exact .inl rfl
 ·exact .inr rfl
mutual
theorem Ex.nice_named (regs:Int):(x:Ex) -> (x.named regs).nice
 | .mk k num nm l=>by
   have h:=Ex.niceL_named regs l;simp only [Ex.named,Ex.nice];refine ⟨fun hk=>?_,h⟩
   rw [if_pos hk];split
   ·exact nameAt_ok _ _
   ·exact .inr rfl
theorem Ex.niceL_named (regs:Int):(l:List Ex) -> Ex.niceL (Ex.namedL regs l)
 | []=>trivial
 | x :: r=>by
   have h1:=Ex.nice_named regs x;have h2:=Ex.niceL_named regs r;simp only [Ex.namedL,Ex.niceL];exact ⟨h1,h2⟩
end
mutual
theorem Ac.nice_named (u:Un) (regs:Int):(x:Ac) -> x.kinds -> (x.named u regs).nice
 | .mk k reg obj ex c t e,h=>by
   simp only [Ac.kinds] at h;have h1:=Ac.niceL_named u regs t h.2.1;have h2:=Ac.niceL_named u regs e h.2.2;simp only [Ac.named,St.nice];refine ⟨?_,?_,?_,Ex.nice_named regs ex,h1,h2⟩
   ·unfold stKind
    split
    ·exact ⟨by decide,by decide⟩
    ·exact h.1
   ·split
    ·exact nameAt_ok _ _
    ·exact .inr rfl
   ·unfold stName
    split
    ·exact nameAt_ok _ _
    ·exact .inr rfl
theorem Ac.niceL_named (u:Un) (regs:Int):(l:List Ac) -> Ac.kindsL l -> St.niceL (Ac.namedL u regs l)
 | [],_=>trivial
 | x :: r,h=>by
   simp only [Ac.kindsL] at h;have h1:=Ac.nice_named u regs x h.1;have h2:=Ac.niceL_named u regs r h.2;simp only [Ac.namedL,St.niceL];exact ⟨h1,h2⟩
end
theorem stmtIs_any (x:St) (hn:x.nice) (w:World) (xa ta ea:Option Addr) (xc tc ec:Nat) :
 Calls Tryz.prog 126 #[stV x xa xc ta tc ea ec] w fun e w'=>e=.returned (.bool (stIs x.kind x.reg x.name x.ex x.count x.thn.length x.els.length)) /\ Keeps NoBlk w w':=by
 obtain ⟨h1,h2,h3,_⟩:=St.nice_eq hn
 have e1:(x.ex.kind==0&&x.ex.num==0&&noName x.ex.nm&&x.ex.args.length==0)=x.ex.none:=by
  obtain ⟨k,r,o,⟨a,b,c,l⟩,cn,t,e⟩:=x;show (a==0&&b==0&&noName c&&l.length==0)=(a==0&&b==0&&noName c&&l.isEmpty)
  cases l <;> simp
 exact stmtIs_walk x.kind x.ex.kind x.ex.num x.count x.reg x.name x.ex.nm xa ta ea x.ex.args.length xc x.thn.length tc x.els.length ec (decide (1 <= x.kind /\ x.kind <= 11)) (fields x.kind).reg (fields x.kind).name (fields x.kind).ex (fields x.kind).count (fields x.kind).thn (fields x.kind).els
  (isMust x.reg (fields x.kind).reg) (isMust x.name (fields x.kind).name) x.ex.none (x.count==0 || (fields x.kind).count&&decide (0 < x.count)&&decide (x.count <= 1000)) _ w
  (fun W g h=>look_shape x.kind h1 W g h) (fun W=>is_any _ h2 _ W) (fun W=>is_any _ h3 _ W) e1.symm rfl rfl
theorem clx_f (x:Ex) (hn:x.nice) (w:World) (ad:Option Addr) (cap c:Nat) (d:Int) (b:Bool) (h:RowAt w c [.bool b]) :
 Calls Tryz.prog 127 #[exV x ad cap, .int .i64 d, .pointer (some ⟨c,0,none⟩)] w fun e w'=>e=.returned (.tuple #[]) /\ RowAt w' c [.bool (b&&exIs x.kind x.num x.nm x.args.length)] /\ Keeps (fun q=>q=c) w w':=by
 have HX:Hid (∀ W,Calls Tryz.prog 128 #[.agg #[.int .i64 x.kind, .int .i64 x.num, .string x.nm, .slice ad x.args.length cap]] W fun e w'=>e=.returned (.bool (exIs x.kind x.num x.nm x.args.length)) /\ Keeps NoBlk W w'):=fun W=>exprIs_any x hn.kind W ad cap
 show Calls _ _ #[.agg #[.int .i64 x.kind, .int .i64 x.num, .string x.nm, .slice ad x.args.length cap],_,_] _ _
 obtain ⟨q,hq⟩:∃ q,q=exIs x.kind x.num x.nm x.args.length:=⟨_,rfl⟩
 rw [<- hq] at HX ⊢;generalize x.kind=x0 at HX ⊢;generalize x.num=x1 at HX ⊢;generalize x.nm=x2 at HX ⊢;generalize x.args.length=x3 at HX ⊢;clear hq;have HC:=Lib.hid h;have hlt:=h.lt (by simp);clear h;go_enter Tryz.func127,Tryz.ntmps127
 go_upto_region 1 with fail
 obtain ⟨b1,hb1⟩:∃ z,z=w.heap.size:=⟨_,rfl⟩
 have hr1:RowAt (w.alloc (.cells #[.int .i64 x0, .int .i64 x1, .string x2, .slice ad x3 cap] 72)) b1 [.int .i64 x0, .int .i64 x1, .string x2, .slice ad x3 cap]:=by rw [hb1];exact RowAt.ofBlock (heap_alloc_new w _)
 have hk1:Keeps NoBlk w (w.alloc (.cells #[.int .i64 x0, .int .i64 x1, .string x2, .slice ad x3 cap] 72)):=(Keeps.refl _ _).alloc _;rw [<- hb1];generalize w.alloc (.cells #[.int .i64 x0, .int .i64 x1, .string x2, .slice ad x3 cap] 72)=w1 at hr1 hk1 ⊢;have rc:=HC.out.keeps hk1 (fun h=>h);have cc:=rc.cell (k:=0) (v:=.bool b) rfl;have fc:=rc.free (k:=0) (by simp);obtain ⟨d0,d1,d2,d3⟩:=hr1.four;have RC:=Lib.hid rc;have K1:=Lib.hid hk1;clear hr1 hk1 hb1 rc;cases b
 ·go_wp2_with fail
  go_end0
  exact ⟨rfl,RC.out.set 0 (by simp) _,(K1.out.mono (S:=fun q=>q=c) (fun _ _ h=>False.elim h)).setCell (p:=⟨c,0,none⟩) (fun _=>rfl) _⟩
 ·go_wp2_with (go_at_call 128;refine (HX.out _).mono ?_;rintro e w2 ⟨rfl,g1⟩;have r2:=RC.out.keeps g1 (fun h=>h);have cc2:=r2.cell (k:=0) (v:=.bool true) rfl;have fc2:=r2.free (k:=0) (by simp);have R2:=Lib.hid r2;have G1:=Lib.hid g1;clear g1 r2 cc fc)
  go_end0
  exact ⟨rfl,R2.out.set 0 (by simp) _,((K1.out.trans0 G1.out).mono (S:=fun q=>q=c) (fun _ _ h=>False.elim h)).setCell (p:=⟨c,0,none⟩) (fun _=>rfl) _⟩
theorem cls_f (x:St) (hn:x.nice) (w:World) (xa ta ea:Option Addr) (xc tc ec c:Nat) (d:Int) (b:Bool) (h:RowAt w c [.bool b]) :
 Calls Tryz.prog 125 #[stV x xa xc ta tc ea ec, .int .i64 d, .pointer (some ⟨c,0,none⟩)] w fun e w'=>e=.returned (.tuple #[]) /\ RowAt w' c [.bool (b&&stIs x.kind x.reg x.name x.ex x.count x.thn.length x.els.length)] /\ Keeps (fun q=>q=c) w w':=by
 have HX:=Lib.hid (fun W=>stmtIs_any x hn W xa ta ea xc tc ec);obtain ⟨q,hq⟩:∃ q,q=stIs x.kind x.reg x.name x.ex x.count x.thn.length x.els.length:=⟨_,rfl⟩
 rw [<- hq] at HX ⊢;unfold stV at HX ⊢;generalize x.kind=x0 at HX ⊢;generalize x.reg=x1 at HX ⊢;generalize x.name=x2 at HX ⊢;generalize x.ex.kind=x3 at HX ⊢;generalize x.ex.num=x4 at HX ⊢;generalize x.ex.nm=x5 at HX ⊢;generalize x.ex.args.length=x6 at HX ⊢;generalize x.count=x7 at HX ⊢;generalize x.thn.length=x8 at HX ⊢;generalize x.els.length=x9 at HX ⊢;clear hq;have HC:=Lib.hid h;have hlt:=h.lt (by simp);clear h;go_enter Tryz.func125,Tryz.ntmps125
 go_upto_region 1 with fail
 obtain ⟨b1,hb1⟩:∃ z,z=w.heap.size:=⟨_,rfl⟩
 have hr1:RowAt (w.alloc (.cells #[.int .i64 x0, .string x1, .string x2, .int .i64 x3, .int .i64 x4, .string x5, .slice xa x6 xc, .int .i64 x7, .slice ta x8 tc, .slice ea x9 ec] 152)) b1 [.int .i64 x0, .string x1, .string x2, .int .i64 x3, .int .i64 x4, .string x5, .slice xa x6 xc, .int .i64 x7, .slice ta x8 tc, .slice ea x9 ec]:=by rw [hb1];exact RowAt.ofBlock (heap_alloc_new w _)
 have hk1:Keeps NoBlk w (w.alloc (.cells #[.int .i64 x0, .string x1, .string x2, .int .i64 x3, .int .i64 x4, .string x5, .slice xa x6 xc, .int .i64 x7, .slice ta x8 tc, .slice ea x9 ec] 152)):=(Keeps.refl _ _).alloc _;rw [<- hb1];generalize w.alloc (.cells #[.int .i64 x0, .string x1, .string x2, .int .i64 x3, .int .i64 x4, .string x5, .slice xa x6 xc, .int .i64 x7, .slice ta x8 tc, .slice ea x9 ec] 152)=w1 at hr1 hk1 ⊢;have rc:=HC.out.keeps hk1 (fun h=>h);have cc:=rc.cell (k:=0) (v:=.bool b) rfl;have fc:=rc.free (k:=0) (by simp);obtain ⟨d0,d1,d2,d3,d4,d5,d6,d7,d8,d9⟩:=hr1.ten;have RC:=Lib.hid rc;have K1:=Lib.hid hk1;clear hr1 hk1 hb1 rc;cases b
 ·go_wp2_with fail
  go_end0
  exact ⟨rfl,RC.out.set 0 (by simp) _,(K1.out.mono (S:=fun q=>q=c) (fun _ _ h=>False.elim h)).setCell (p:=⟨c,0,none⟩) (fun _=>rfl) _⟩
 ·go_wp2_with (go_at_call 126;refine (HX.out _).mono ?_;rintro e w2 ⟨rfl,g1⟩;have r2:=RC.out.keeps g1 (fun h=>h);have cc2:=r2.cell (k:=0) (v:=.bool true) rfl;have fc2:=r2.free (k:=0) (by simp);have R2:=Lib.hid r2;have G1:=Lib.hid g1;clear g1 r2 cc fc)
  go_end0
  exact ⟨rfl,R2.out.set 0 (by simp) _,((K1.out.trans0 G1.out).mono (S:=fun q=>q=c) (fun _ _ h=>False.elim h)).setCell (p:=⟨c,0,none⟩) (fun _=>rfl) _⟩
theorem exprs_f:∀ (x:Ex),x.nice -> ∀ (w:World) (F:Nat -> Prop) (ad:Option Addr) (cap c d:Nat) (b:Bool),ExsAt w F x.args ad -> ¬ F c -> RowAt w c [(.bool b)] -> d+x.cnt < 1000000000 →
 Calls Tryz.prog 145 #[.agg #[.func (.func 125) #[] #[.pointer (some ⟨c,0,none⟩)], .func (.func 127) #[] #[.pointer (some ⟨c,0,none⟩)]],exV x ad cap, .int .i64 d] w fun e w'=>e=.returned (.tuple #[]) /\ RowAt w' c [(.bool ((b&&Ex.allIs x)))] /\ Keeps (fun q=>q=c) w w':=by
 refine Ex.ind (fun k num nm l ih hn w F ad cap c d b h hF hc hb=>?_)
 have HL:Hid (ExsAt w F l ad):=h;have IH:=Lib.hid ih;have HF:=Lib.hid hF;have HCR:=Lib.hid hc;have HN:Hid (Ex.niceL l):=hn.args;have hl:=Ex.len_le l;have hcn:Ex.cnt (.mk k num nm l)=1+Ex.cntL l:=by simp [Ex.cnt]
 rw [hcn] at hb;have hb2:l.length < 1000000000:=by omega
 have hd2:d < 1000000000:=by omega
 have HB:=Lib.hid hb;obtain ⟨tot,ht⟩:∃ t:Bool,t=(b&&Ex.allIs (Ex.mk k num nm l)):=⟨_,rfl⟩
 have HT:Hid (((b&&exIs k num nm l.length)&&Ex.allIsL l)=tot):=by
  show _=_
  rw [ht];simp only [Ex.allIs,Bool.and_assoc]
 rw [<- ht];have HCL:Hid (∀ W,RowAt W c [(.bool b)] -> Calls Tryz.prog 127 #[.agg #[.int .i64 k, .int .i64 num, .string nm, .slice ad l.length cap], .int .i64 d, .pointer (some ⟨c,0,none⟩)] W fun e w'=>e=.returned (.tuple #[]) /\ RowAt w' c [(.bool (b&&exIs k num nm l.length))] /\ Keeps (fun q=>q=c) W w'):=fun W h=>clx_f (.mk k num nm l) hn W ad cap c d b h
 have hlt0:=hc.lt (by simp);have hlt:=Lib.hid hlt0;clear h hF hc ih hl hcn hb ht hlt0 hn;show Calls _ _ #[_, .agg #[.int .i64 k, .int .i64 num, .string nm, .slice ad l.length cap],_] _ _
 have hw:IntKind.i64.wrap ((d:Int)+1)=(d:Int)+1:=wrap_small _ (by omega) (by omega);go_enter Tryz.func145,Tryz.ntmps145
 go_upto_region 1 with fail
 obtain ⟨b3,hb3⟩:∃ z,z=w.heap.size:=⟨_,rfl⟩
 obtain ⟨b4,hb4⟩:∃ z,z=w.heap.size+1:=⟨_,rfl⟩
 have hr3:RowAt ((w.alloc (.cells #[.func (.func 125) #[] #[.pointer (some ⟨c,0,none⟩)], .func (.func 127) #[] #[.pointer (some ⟨c,0,none⟩)]] 189)).alloc (.cells #[.int .i64 k, .int .i64 num, .string nm, .slice ad l.length cap] 72)) b3 [.func (.func 125) #[] #[.pointer (some ⟨c,0,none⟩)], .func (.func 127) #[] #[.pointer (some ⟨c,0,none⟩)]]:=by rw [hb3];exact (RowAt.ofBlock (heap_alloc_new w _)).alloc _
 have hr4:RowAt ((w.alloc (.cells #[.func (.func 125) #[] #[.pointer (some ⟨c,0,none⟩)], .func (.func 127) #[] #[.pointer (some ⟨c,0,none⟩)]] 189)).alloc (.cells #[.int .i64 k, .int .i64 num, .string nm, .slice ad l.length cap] 72)) b4 [.int .i64 k, .int .i64 num, .string nm, .slice ad l.length cap]:=by rw [hb4];exact RowAt.ofBlock (heap_alloc2 w _ _)
 have hk1:Keeps NoBlk w ((w.alloc (.cells #[.func (.func 125) #[] #[.pointer (some ⟨c,0,none⟩)], .func (.func 127) #[] #[.pointer (some ⟨c,0,none⟩)]] 189)).alloc (.cells #[.int .i64 k, .int .i64 num, .string nm, .slice ad l.length cap] 72)):=((Keeps.refl _ _).alloc _).alloc _;rw [<- hb4,<- hb3];generalize (w.alloc (.cells #[.func (.func 125) #[] #[.pointer (some ⟨c,0,none⟩)], .func (.func 127) #[] #[.pointer (some ⟨c,0,none⟩)]] 189)).alloc (.cells #[.int .i64 k, .int .i64 num, .string nm, .slice ad l.length cap] 72)=w1 at hr3 hr4 hk1 ⊢;have HNE:Hid (b3 ≠ c /\ b4 ≠ c):=⟨by have:=hlt.out;omega,by have:=hlt.out;omega⟩;have R3:=Lib.hid hr3;have R4:=Lib.hid hr4;have K1:=Lib.hid hk1;have RC:Hid (RowAt w1 c [(.bool b)]):=HCR.out.keeps hk1 (fun h=>h);have y0:=hr3.cell (k:=1) (v:=.func (.func 127) #[] #[.pointer (some ⟨c,0,none⟩)]) rfl;obtain ⟨d0,d1,d2,d3⟩:=hr4.four;clear hr3 hr4 hk1 hb3 hb4;go_upto_region 2 with (go_at_call 127;refine (HCL.out _ RC.out).mono ?_;rintro e w2 ⟨rfl,r2,g2⟩;have R2:=Lib.hid r2;have G2:=Lib.hid g2;clear r2 g2)
 have c3:=(R4.out.keeps G2.out (fun e=>HNE.out.2 e)).cell (k:=3) (v:=.slice ad l.length cap) rfl;clear d0 d1 d2 d3 y0 RC HCL HCR;go_wp2_with fail
 go_loopw [16] (fun iv wr=>∃ (i:Nat) (v:Bool),i <= l.length /\ iv=.int .i64 i /\ Hid (RowAt wr c [(.bool v)]) /\ Hid ((v&&Ex.allIsL (l.drop i))=tot) /\ Hid (Keeps (fun q=>q=c) w1 wr)) (fun iv _=>l.length - (intOf iv).toNat)
 case atStart=>exact ⟨0,(b&&exIs k num nm l.length),Nat.zero_le _,rfl,R2,by show _=_;rw [List.drop_zero];exact HT.out,G2⟩
 case round =>
  obtain ⟨i,v,hi,rfl,HV,HD,HK⟩:=hrel;by_cases hlt:i < l.length
  ·have i1:(0:Int) <= i:=by omega
   have i2:(i:Int) < l.length:=by omega
   have hd:=HD.out;rw [drop_at hlt] at hd;simp only [Ex.allIsL] at hd;have hFc:∀ q,F q -> ¬ (fun q=>q=c) q:=fun q hq e=>HF.out (by have e':q=c:=e;rw [<- e'];exact hq)
   obtain ⟨g,o,a,ca,e1,hg,d0,d1,d2,d3,hx⟩:=((HL.out.keeps K1.out (fun _ _ h=>h):ExsAt w1 F l ad).keeps HK.out hFc).at hlt;subst e1
   have HC:Hid (∀ W,Keeps NoBlk wr W -> Calls Tryz.prog 145 #[.agg #[.func (.func 125) #[] #[.pointer (some ⟨c,0,none⟩)], .func (.func 127) #[] #[.pointer (some ⟨c,0,none⟩)]], .agg #[.int .i64 l[i].kind, .int .i64 l[i].num, .string l[i].nm, .slice a l[i].args.length ca], .int .i64 ((d:Int)+1)] W fun e w'=>e=.returned (.tuple #[]) /\ RowAt w' c [(.bool ((v&&Ex.allIs l[i])))] /\ Keeps (fun q=>q=c) W w'):=fun W hk=>by
    have e:((d+1:Nat):Int)=(d:Int)+1:=by omega
    rw [<- e];have hcl:=Ex.cnt_mem (List.getElem_mem hlt);have hbt:=HB.out;exact IH.out _ (List.getElem_mem hlt) (Ex.niceL_mem HN.out (List.getElem_mem hlt)) W F a ca c (d+1) v (hx.keeps hk (fun _ _ h=>h)) HF.out (HV.out.keeps hk (fun h=>h)) (by omega)
   obtain ⟨v2,hv2⟩:∃ v2:Bool,v2=(v&&Ex.allIs l[i]):=⟨_,rfl⟩
   have HD2:Hid ((v2&&Ex.allIsL (l.drop (i+1)))=tot):=by
    show _=_
    rw [hv2,<- hd];rw [Bool.and_assoc]
   rw [<- hv2] at HC;clear hx hFc hd hv2;generalize l[i].kind=x0 at d0 HC;generalize l[i].num=x1 at d1 HC;generalize l[i].nm=x2 at d2 HC;generalize l[i].args.length=x3 at d3 HC;go_upto_region 5 with fail
   obtain ⟨b7,hb7⟩:∃ z,z=wr.heap.size:=⟨_,rfl⟩
   have hr7:RowAt (wr.alloc (.cells #[.int .i64 x0, .int .i64 x1, .string x2, .slice a x3 ca] 72)) b7 [.int .i64 x0, .int .i64 x1, .string x2, .slice a x3 ca]:=by rw [hb7];exact RowAt.ofBlock (heap_alloc_new wr _)
   have hk7:Keeps NoBlk wr (wr.alloc (.cells #[.int .i64 x0, .int .i64 x1, .string x2, .slice a x3 ca] 72)):=(Keeps.refl _ _).alloc _;rw [<- hb7];generalize wr.alloc (.cells #[.int .i64 x0, .int .i64 x1, .string x2, .slice a x3 ca] 72)=w7 at hr7 hk7 ⊢;obtain ⟨y0,y1,y2,y3⟩:=hr7.four;have r3:=(R3.out.keeps HK.out (fun e=>HNE.out.1 e)).keeps hk7 (fun h=>h);have q0:=r3.cell (k:=0) (v:=.func (.func 125) #[] #[.pointer (some ⟨c,0,none⟩)]) rfl;have q1:=r3.cell (k:=1) (v:=.func (.func 127) #[] #[.pointer (some ⟨c,0,none⟩)]) rfl;have K7:=Lib.hid hk7;clear hr7 hk7 r3 hb7 d0 d1 d2 d3 c3;go_wp2_with (go_at_call 145;refine (HC.out _ K7.out).mono ?_;rintro e w8 ⟨rfl,r8,g8⟩;have R8:=Lib.hid r8;have G8:=Lib.hid g8;clear r8 g8)
   go_roundw
   case rel=>exact ⟨i+1,v2,by omega,by go_num,R8,HD2,(HK.out.trans K7.out (fun _ _ h=>False.elim h)).trans G8.out (fun _ _ h=>h)⟩
   case measure=>simp [intOf];omega
  ·obtain rfl:i=l.length:=by omega
   have hd:=HD.out;rw [List.drop_length] at hd;simp only [Ex.allIsL] at hd;have hd2:v=tot:=by rw [<- hd];simp
   subst hd2;go_wp2_with fail
   go_end0
   exact ⟨rfl,HV.out,(K1.out.mono (S:=fun q=>q=c) (fun _ _ h=>False.elim h)).trans HK.out (fun _ _ h=>h)⟩
end Go.Proofs.YtnmifekgdkgknaaGreatDoor
namespace Go.Proofs.YtnmifekgdkgknaaGreatDoor
theorem Ex.there_eq (x:Ex):x.there=(x.kind != 0 || x.args.length != 0):=by
 obtain ⟨k,n,s,l⟩:=x;show (k != 0 || !l.isEmpty)=(k != 0 || l.length != 0)
 cases l <;> simp
theorem St.form_eq (x:St):x.form=(stIs x.kind x.reg x.name x.ex x.count x.thn.length x.els.length&&(!x.ex.there || x.ex.allIs)&&St.formL x.thn&&St.formL x.els):=by
 cases x;simp only [St.form,St.kind,St.reg,St.name,St.ex,St.count,St.thn,St.els]
theorem St.cnt_eq (x:St):x.cnt=1+(if x.ex.there then x.ex.cnt else 0)+St.cntL x.thn+St.cntL x.els:=by
 cases x;simp only [St.cnt];rfl
theorem St.deep_eq (d:Nat) (x:St):x.deep d=max (max d (if x.ex.there then x.ex.dep else 0)) (max (St.deepL (d+1) x.thn) (St.deepL (d+1) x.els)):=by
 cases x;simp only [St.deep];rfl
mutual
theorem St.cnt_le:(x:St) -> x.cnt <= x.sz
 | .mk k r n x c t e=>by
   have h1:=St.cntL_le t;have h2:=St.cntL_le e;simp only [St.cnt,St.sz];split <;> omega
theorem St.cntL_le:(l:List St) -> St.cntL l <= St.szL l
 | []=>Nat.le_refl _
 | x :: r=>by
   have h1:=St.cnt_le x;have h2:=St.cntL_le r;simp only [St.cntL,St.szL];omega
end
mutual
theorem St.deep_le (d:Nat):(x:St) -> x.deep d <= d+x.sz
 | .mk k r n x c t e=>by
   have h1:=St.deepL_le (d+1) t;have h2:=St.deepL_le (d+1) e;have h3:=Ex.dep_le x;simp only [St.deep,St.sz];split <;> omega
theorem St.deepL_le (d:Nat):(l:List St) -> St.deepL d l <= d+St.szL l
 | []=>by simp only [St.deepL];omega
 | x :: r=>by
   have h1:=St.deep_le d x;have h2:=St.deepL_le d r;simp only [St.deepL,St.szL];omega
end
theorem St.room:∀ (i:Nat) (l:List St),St.cntL l+St.szL (l.drop i) <= St.szL l+St.cntL (l.drop i)
 | 0,l=>by rw [List.drop_zero];omega
 | i+1,[]=>by simp [St.cntL,St.szL]
 | i+1,x :: r=>by
   have h1:=St.room i r;have h2:=St.cnt_le x;rw [List.drop_succ_cons];simp only [St.cntL,St.szL];omega
end Go.Proofs.YtnmifekgdkgknaaGreatDoor
