/- Layer D: texts joined. -/
import Derived.Test.YtoapgjjepiopbaaGreatDoorD05
set_option linter.all false
set_option maxHeartbeats 8000000
set_option maxRecDepth 8000
namespace Go.Proofs.YtoapgjjepiopbaaGreatDoor
open Go.RowKit
theorem J8(P:Prop) (h:P:=by
 have e0:b=false:=by(rw[HB.out,Bool.eq_false_iff];intro h;simp[acB] at h <;> omega)
 have E0:=yA e0;clear e0 HB;go_wp2_with fail
 go_ret
 exact⟨by rw[E0.out];rfl,K0.out.zC GO.out⟩):P:=h
theorem J114(P:Prop) (h:P:=by
 go_enter Tryz.func93,Tryz.ntmps93
 go_wp2_with fail
 go_ret
 exact⟨rfl,((yB _ _).alloc _).alloc _⟩):P:=h
theorem J135x15(P:Prop) (h:P:=by
 have e2:vs 2=_:=hd 2 (by kernel_rfl);rw[e2] at hK ⊢;exact J2 _):P:=h
inductive Bt(b:Bool):Prop
 | mk:Bt b
def zJP (k:Int) (f1 f2 f3 f4 f5 f6:Bool):Prop:=∀(reg regs obj xk xn count mu most:Int)(nm:ByteArray)(xa ta ea ca tha:Option Addr)(nx xc nt tc ne ec nc cc nth thc:Nat)(m z one two b:Bool)(w:World),¬k<1->¬11<k →
    Hid (Bt f1)->Hid (Bt f2)->Hid (Bt f3)->Hid (Bt f4)->Hid (Bt f5)->Hid (Bt f6) →
    Hid (∀W,Calls Tryz.prog 147 #[k] W λe w'=>e=.returned (.tuple #[f1,f2,f3,f4,f5,f6])/\Keeps zA W w') →
    Hid (∀W,Calls Tryz.prog 150 #[k,.agg #[.slice ca nc cc,mu,.slice tha nth thc]] W λe w'=>e=.returned most/\Keeps zA W w') →
    Hid (∀W,Keeps zA w W->Calls Tryz.prog 148 #[.agg #[xk,xn,nm,.slice xa nx xc],regs] W λe w'=>e=.returned m/\Keeps zA W w') →
    Hid (∀W,Calls Tryz.prog 149 #[.agg #[xk,xn,nm,.slice xa nx xc]] W λe w'=>e=.returned z/\Keeps zA W w') →
    Hid (∀W,Keeps zA w W->Calls Tryz.prog 48 #[.slice ta nt tc,regs,.agg #[.slice ca nc cc,mu,.slice tha nth thc]] W λe w'=>e=.returned one/\Keeps zA W w') →
    Hid (∀W,Keeps zA w W->Calls Tryz.prog 48 #[.slice ea ne ec,regs,.agg #[.slice ca nc cc,mu,.slice tha nth thc]] W λe w'=>e=.returned two/\Keeps zA W w') →
    Hid (b=(acB ⟨f1,f2,f3,f4,f5,f6⟩ reg regs obj most count m z nt ne&&one&&two)) →
    Calls Tryz.prog 93 #[.agg #[k,reg,obj,xk,xn,nm,.slice xa nx xc,count,.slice ta nt tc,.slice ea ne ec],regs,.agg #[.slice ca nc cc,mu,.slice tha nth thc]] w λe w'=>e=.returned b/\Keeps zA w w'
theorem zFn(P:Prop) (h:P:=by
 intro reg regs obj xk xn count mu most nm xa ta ea ca tha nx xc nt tc ne ec nc cc nth thc m z one two b w hk1 hk2 T1 T2 T3 T4 T5 T6 HF HO HM HZ HT HE HB
 go_enter Tryz.func93,Tryz.ntmps93
 go_upto_region 1 with fail
 obtain⟨b1,hb1⟩:=eX w.heap.size;obtain⟨b2,hb2⟩:=eX (w.heap.size+1);obtain⟨w1,hw1⟩:=eX ((w.alloc (.cells #[k,reg,obj,xk,xn,nm,.slice xa nx xc,count,.slice ta nt tc,.slice ea ne ec] 146)).alloc (.cells #[.slice ca nc cc,mu,.slice tha nth thc] 25));have hr1:zB w1 b1 [k,reg,obj,xk,xn,nm,.slice xa nx xc,count,.slice ta nt tc,.slice ea ne ec]:=by rw[hb1,hw1];exact(yK (yG w _)).alloc _
 have hr2:zB w1 b2 [.slice ca nc cc,mu,.slice tha nth thc]:=by rw[hb2,hw1];exact yK (zAH w _ _)
 have hkk:Keeps zA w w1:=by rw[hw1];exact((yB _ _).alloc _).alloc _
 rw[<-hb2,<-hb1,<-hw1];have R1:=yA hr1;have R2:=yA hr2;have K0:=yA hkk;obtain⟨c0,c1,c2,c3,c4,c5,c6,c7,c8,c9⟩:=hr1.ten;obtain⟨d0,d1,d2⟩:=hr2.three;clear hr1 hr2 hkk hb1 hb2 hw1;go_upto_region 7 with(first|(go_at_call 147;refine(HF.out w1).mono ?_;rintro e wGF ⟨rfl,g0⟩;have g:=(yB zA w1).zC g0;clear g0 c0 c1 c2 c3 c4 c5 c6 c7 c8 c9 d0 d1 d2;obtain⟨c0,c1,c2,c3,c4,c5,c6,c7,c8,c9⟩:=(R1.out.keeps g (λh=>h)).ten;obtain⟨d0,d1,d2⟩:=(R2.out.keeps g (λh=>h)).three;have GF:=yA g;clear g)|(go_at_call 148;refine(HM.out _ (K0.out.zC GF.out)).mono ?_;rintro e wGM ⟨rfl,g0⟩;have g:=GF.out.zC g0;clear g0 c0 c1 c2 c3 c4 c5 c6 c7 c8 c9 d0 d1 d2;obtain⟨c0,c1,c2,c3,c4,c5,c6,c7,c8,c9⟩:=(R1.out.keeps g (λh=>h)).ten;obtain⟨d0,d1,d2⟩:=(R2.out.keeps g (λh=>h)).three;have GM:=yA g;clear g)|(go_at_call 149;refine(HZ.out _).mono ?_;rintro e wGZ ⟨rfl,g0⟩;have g:=GM.out.zC g0;clear g0 c0 c1 c2 c3 c4 c5 c6 c7 c8 c9 d0 d1 d2;obtain⟨c0,c1,c2,c3,c4,c5,c6,c7,c8,c9⟩:=(R1.out.keeps g (λh=>h)).ten;obtain⟨d0,d1,d2⟩:=(R2.out.keeps g (λh=>h)).three;have GZ:=yA g;clear g)|(go_at_call 150;refine(HO.out _).mono ?_;rintro e wGO ⟨rfl,g0⟩;have g:=GZ.out.zC g0;clear g0 c0 c1 c2 c3 c4 c5 c6 c7 c8 c9 d0 d1 d2;obtain⟨c0,c1,c2,c3,c4,c5,c6,c7,c8,c9⟩:=(R1.out.keeps g (λh=>h)).ten;obtain⟨d0,d1,d2⟩:=(R2.out.keeps g (λh=>h)).three;have GO:=yA g;clear g))
 first
 | have hq:Bt true:=T1.out
   clear hq;rcases (show reg<0\/0<=reg by omega) with h|h1
   ·exact J8 _
   rcases (show regs<=reg\/reg<regs by omega) with h|h2
   ·exact J8 _
 | skip
   rcases (show¬reg=0\/reg=0 by omega) with h|h
   ·exact J8 _
   subst h
 first
 | have hq:Bt true:=T2.out
   clear hq;rcases (show obj<0\/0<=obj by omega) with h|h3
   ·exact J8 _
   rcases (show most<=obj\/obj<most by omega) with h|h4
   ·exact J8 _
 | skip
   rcases (show¬obj=0\/obj=0 by omega) with h|h
   ·exact J8 _
   subst h
 first
 | have hq:Bt true:=T3.out
   clear hq;rcases (show m=false\/m=true by(cases m <;> simp)) with h|h
   ·subst h
    exact J8 _
   subst h
 | skip
   rcases (show z=false\/z=true by(cases z <;> simp)) with h|h
   ·subst h
    exact J8 _
   subst h
 first
 | have hq:Bt true:=T4.out
   clear hq;rcases (show count<0\/0<=count by omega) with h|h5
   ·exact J8 _
   rcases (show 1000<count\/count<=1000 by omega) with h|h6
   ·exact J8 _
 | skip
   rcases (show¬count=0\/count=0 by omega) with h|h
   ·exact J8 _
   subst h
 first
 | have hq:Bt true:=T5.out
   clear hq
 | skip
   rcases (show 0<nt\/nt=0 by omega) with h|h
   ·have hi:(0:Int)<nt:=by omega
    exact J8 _
   subst h
 first
 | have hq:Bt true:=T6.out
   clear hq
 | skip
   rcases (show 0<ne\/ne=0 by omega) with h|h
   ·have hi:(0:Int)<ne:=by omega
    exact J8 _
   subst h
 have e0:b=(one&&two):=by(have e1:∀q:Bool,q=true->(q&&one&&two)=(one&&two):=(λq h=>by rw[h,Bool.true_and]);rw[HB.out];exact e1 _ (by simp[acB] <;> omega))
 have E0:=yA e0;clear e0 HB;go_upto_region 12 with(go_at_call 48;refine(HT.out _ (K0.out.zC GO.out)).mono ?_;rintro e wT ⟨rfl,g0⟩;have g:=GO.out.zC g0;clear g0 c0 c1 c2 c3 c4 c5 c6 c7 c8 c9 d0 d1 d2;obtain⟨c0,c1,c2,c3,c4,c5,c6,c7,c8,c9⟩:=(R1.out.keeps g (λh=>h)).ten;obtain⟨d0,d1,d2⟩:=(R2.out.keeps g (λh=>h)).three;have GT:=yA g;clear g)
 cases one <;> cases two
 all_goals
  go_wp2_with (go_at_call 48;refine(HE.out _ (K0.out.zC GT.out)).mono ?_;rintro e wE ⟨rfl,g0⟩;have g:=GT.out.zC g0;clear g0;have GE:=yA g;clear g)
  go_ret
  exact⟨by rw[E0.out];rfl,K0.out.zC GE.out⟩):P:=h
theorem zR3(k:Int):zJP k true false true false false false:=zFn _
theorem zRZ(k:Int):zJP k true true false false false false:=zFn _
theorem zRU(k:Int):zJP k false true true false false false:=zFn _
theorem zRO(k:Int):zJP k true true true false false false:=zFn _
theorem zRM(k:Int):zJP k false true false false false false:=zFn _
theorem zRK(k:Int):zJP k false false true false false false:=zFn _
theorem zRE(k:Int):zJP k false false true false true true:=zFn _
theorem zRf(k:Int):zJP k false false false true true false:=zFn _
def unV(u:Un)(ca:Option Addr)(cc:Nat)(tha:Option Addr)(thc:Nat):Value:=.agg #[.slice ca u.cells.length cc,u.mutexes,.slice tha u.threads.length thc]
def zMo(x:Ac):Prop:=∀(u:Un)(regs:Int)(w:World)(F:Nat->Prop)(ca:Option Addr)(cc:Nat)(tha:Option Addr)(thc:Nat)(xa:Option Addr)(xc:Nat)(ta:Option Addr)(tc:Nat)(ea:Option Addr)(ec:Nat),
 zR w F x.ex.args xa->zAl w F x.thn ta->zAl w F x.els ea->x.sz<1000000000 →
 Calls Tryz.prog 93 #[acV x xa xc ta tc ea ec,regs,unV u ca cc tha thc] w λe w'=>e=.returned (.bool (x.may u regs))/\Keeps zA w w'
def zIM(l:List Ac):Prop:=∀(u:Un)(regs:Int)(w:World)(F:Nat->Prop)(ca:Option Addr)(cc:Nat)(tha:Option Addr)(thc:Nat)(ad:Option Addr)(cap:Nat),
 zAl w F l ad->Ac.szL l<1000000000 →
 Calls Tryz.prog 48 #[.slice ad l.length cap,regs,unV u ca cc tha thc] w λe w'=>e=.returned (.bool (Ac.zAC u regs l))/\Keeps zA w w'
theorem zKV(k reg obj xk xn count mu regs:Int)(nm:ByteArray)(xa ta ea ca tha:Option Addr)(nx xc nt tc ne ec nc cc nth thc:Nat)(w:World)(hk:¬(1<=k/\k<=11)):
 Calls Tryz.prog 93 #[.agg #[k,reg,obj,xk,xn,nm,.slice xa nx xc,count,.slice ta nt tc,.slice ea ne ec],regs,.agg #[.slice ca nc cc,mu,.slice tha nth thc]] w
  λe w'=>e=.returned false/\Keeps zA w w':=by
 rcases (show k<1\/(1<=k/\11<k) by omega) with h|⟨h1,h2⟩
 ·clear hk
  exact J114 _
 ·clear hk
  have h3:¬k<1:=by omega
  exact J114 _
theorem bt(f:Bool):Hid (Bt f):=yA (.mk)
theorem zMl(x:Ac)(ht:zIM x.thn)(he:zIM x.els):zMo x:=by
 intro u regs w F ca cc tha thc xa xc ta tc ea ec hx h1 h2 hb
 rw[Ac.zCZ] at hb
 have hm:x.may u regs=(zBH u regs x.kind x.reg x.obj x.ex x.count x.thn.length x.els.length&&Ac.zAC u regs x.thn&&Ac.zAC u regs x.els):=by
  cases x;simp only[Ac.may,Ac.kind,Ac.reg,Ac.obj,Ac.ex,Ac.count,Ac.thn,Ac.els]
 rw[hm,zGH];by_cases hk:1<=x.kind/\x.kind<=11
 ·have hkk:(decide (1<=x.kind)&&decide (x.kind<=11))=true:=by simp[hk.1,hk.2]
  rw[hkk,Bool.true_and]
  have HO:Hid (∀W,Calls Tryz.prog 150 #[x.kind,.agg #[.slice ca u.cells.length cc,u.mutexes,.slice tha u.threads.length thc]] W λe w'=>e=.returned (.int .i64 (zBJ u x.kind))/\Keeps zA W w'):=
   λW=>zKh u x.kind W ca tha cc thc
  have HM:Hid (∀W,Keeps zA w W->Calls Tryz.prog 148 #[.agg #[x.ex.kind,x.ex.num,x.ex.nm,.slice xa x.ex.args.length xc],regs] W λe w'=>e=.returned (.bool (x.ex.may regs))/\Keeps zA W w'):=
   λW hW=>zIb x.ex regs W F xa xc (hx.keeps hW (λ_ _ h=>h)) (by omega)
  have HZ:Hid (∀W,Calls Tryz.prog 149 #[.agg #[x.ex.kind,x.ex.num,x.ex.nm,.slice xa x.ex.args.length xc]] W λe w'=>e=.returned x.ex.none/\Keeps zA W w'):=
   λW=>zJ4 x.ex W xa xc
  have HT:Hid (∀W,Keeps zA w W->Calls Tryz.prog 48 #[.slice ta x.thn.length tc,regs,.agg #[.slice ca u.cells.length cc,u.mutexes,.slice tha u.threads.length thc]] W λe w'=>e=.returned (.bool (Ac.zAC u regs x.thn))/\Keeps zA W w'):=
   λW hW=>ht u regs W F ca cc tha thc ta tc (h1.keeps hW (λ_ _ h=>h)) (by omega)
  have HE:Hid (∀W,Keeps zA w W->Calls Tryz.prog 48 #[.slice ea x.els.length ec,regs,.agg #[.slice ca u.cells.length cc,u.mutexes,.slice tha u.threads.length thc]] W λe w'=>e=.returned (.bool (Ac.zAC u regs x.els))/\Keeps zA W w'):=
   λW hW=>he u regs W F ca cc tha thc ea ec (h2.keeps hW (λ_ _ h=>h)) (by omega)
  unfold acV unV;obtain⟨k,ek⟩:=eX x.kind;rw[<-ek] at HO hk ⊢;rcases (show k=1\/k=2\/k=3\/k=4\/k=5\/k=6\/k=7\/k=8\/k=9\/k=10\/k=11 by omega) with h|h|h|h|h|h|h|h|h|h|h
  all_goals (clear ek hk;subst h)
  all_goals first
  | exact zR3 _ _ _ _ _ _ _ _ _ _ _ _ _ _ _ _ _ _ _ _ _ _ _ _ _ _ _ _ _ _ _ (by omega) (by omega) (bt _) (bt _) (bt _) (bt _) (bt _) (bt _) (λW=>zBM _ W) HO HM HZ HT HE rfl
  | exact zRZ _ _ _ _ _ _ _ _ _ _ _ _ _ _ _ _ _ _ _ _ _ _ _ _ _ _ _ _ _ _ _ (by omega) (by omega) (bt _) (bt _) (bt _) (bt _) (bt _) (bt _) (λW=>zBM _ W) HO HM HZ HT HE rfl
  | exact zRU _ _ _ _ _ _ _ _ _ _ _ _ _ _ _ _ _ _ _ _ _ _ _ _ _ _ _ _ _ _ _ (by omega) (by omega) (bt _) (bt _) (bt _) (bt _) (bt _) (bt _) (λW=>zBM _ W) HO HM HZ HT HE rfl
  | exact zRO _ _ _ _ _ _ _ _ _ _ _ _ _ _ _ _ _ _ _ _ _ _ _ _ _ _ _ _ _ _ _ (by omega) (by omega) (bt _) (bt _) (bt _) (bt _) (bt _) (bt _) (λW=>zBM _ W) HO HM HZ HT HE rfl
  | exact zRM _ _ _ _ _ _ _ _ _ _ _ _ _ _ _ _ _ _ _ _ _ _ _ _ _ _ _ _ _ _ _ (by omega) (by omega) (bt _) (bt _) (bt _) (bt _) (bt _) (bt _) (λW=>zBM _ W) HO HM HZ HT HE rfl
  | exact zRK _ _ _ _ _ _ _ _ _ _ _ _ _ _ _ _ _ _ _ _ _ _ _ _ _ _ _ _ _ _ _ (by omega) (by omega) (bt _) (bt _) (bt _) (bt _) (bt _) (bt _) (λW=>zBM _ W) HO HM HZ HT HE rfl
  | exact zRE _ _ _ _ _ _ _ _ _ _ _ _ _ _ _ _ _ _ _ _ _ _ _ _ _ _ _ _ _ _ _ (by omega) (by omega) (bt _) (bt _) (bt _) (bt _) (bt _) (bt _) (λW=>zBM _ W) HO HM HZ HT HE rfl
  | exact zRf _ _ _ _ _ _ _ _ _ _ _ _ _ _ _ _ _ _ _ _ _ _ _ _ _ _ _ _ _ _ _ (by omega) (by omega) (bt _) (bt _) (bt _) (bt _) (bt _) (bt _) (λW=>zBM _ W) HO HM HZ HT HE rfl
 ·have hkk:(decide (1<=x.kind)&&decide (x.kind<=11))=false:=by
   by_cases h:1<=x.kind
   ·have:¬x.kind<=11:=λe=>hk ⟨h,e⟩
    simp[this]
   ·simp[h]
  rw[hkk];exact zKV _ _ _ _ _ _ _ _ _ _ _ _ _ _ _ _ _ _ _ _ _ _ _ _ w hk
def AyF(v0:Value)(i:Int)(p:Addr)(v3:Value)(regs:Int)(uv:Value)(m:Bool)(j:Nat)(v:Value)(W:World):Prop:=
 match j with
 | 0=>v=v0
 | 1=>v=.int .i64 i
 | 2=>v=.pointer (some p)
 | 3=>v=v3
 | 4=>v=.int .i64 regs
 | 5=>v=uv
 | 6=>v=.bool m
 | _=>True
theorem AyF.st{v0:Value}{i:Int}{p:Addr}{v3:Value}{regs:Int}{uv:Value}{m:Bool}(j:Nat)(v:Value)(W W':World)(h:AyF v0 i p v3 regs uv m j v W)(hk:Keeps zA W W'):AyF v0 i p v3 regs uv m j v W':=by
 unfold AyF at *;split at h <;> first|exact h|trivial
theorem Ac.zDC{u:Un}{regs:Int}{l:List Ac}{i:Nat}(h:i<l.length):Ac.zAC u regs (l.drop i)=(l[i].may u regs&&Ac.zAC u regs (l.drop (i+1))):=by
 rw[drop_at h];rfl
theorem zFV(l:List Ac)(ih:∀y,y∈l->zMo y):zIM l:=by
 intro u regs w F ca cc tha thc ad cap h hb
 have HL:=yA h;have IH:=yA ih;have hl:=Ac.zAe l;have hb2:l.length<1000000000:=by omega
 have HB:=yA hb;obtain⟨res,hres⟩:=eX (Ac.zAC u regs l);have HR:=yA hres;rw[<-hres];clear h ih hl hb hres;unfold unV;obtain⟨nc,hnc⟩:=eX u.cells.length;obtain⟨nth,hnth⟩:=eX u.threads.length;obtain⟨mu,hmu⟩:=eX u.mutexes
 have HU:Hid (∀(x:Ac)(w:World)(F:Nat->Prop)(xa:Option Addr)(xc:Nat)(ta:Option Addr)(tc:Nat)(ea:Option Addr)(ec:Nat),x∈l->zR w F x.ex.args xa->zAl w F x.thn ta->zAl w F x.els ea →
  Calls Tryz.prog 93 #[acV x xa xc ta tc ea ec,regs,.agg #[.slice ca nc cc,mu,.slice tha nth thc]] w λe w'=>e=.returned (.bool (x.may u regs))/\Keeps zA w w'):=by
  rw[hnc,hnth,hmu];exact λx w F xa xc ta tc ea ec hm h1 h2 h3=>IH.out x hm u regs w F ca cc tha thc xa xc ta tc ea ec h1 h2 h3 (by have:=Ac.zCI hm;have:=HB.out;omega)
 rw[<-hnc,<-hnth,<-hmu];clear hnc hnth hmu IH;go_enter Tryz.func48,Tryz.ntmps48
 go_upto_region 1 with fail
 obtain⟨b1,hb1⟩:=eX w.heap.size;have hr1:zB (w.alloc (.cells #[.slice ca nc cc,mu,.slice tha nth thc] 25)) b1 [.slice ca nc cc,.int .i64 mu,.slice tha nth thc]:=J169 _;have hk1:Keeps zA w (w.alloc (.cells #[.slice ca nc cc,mu,.slice tha nth thc] 25)):=(yB _ _).alloc _;rw[<-hb1];generalize w.alloc (.cells #[.slice ca nc cc,mu,.slice tha nth thc] 25)=w1 at hr1 hk1 ⊢;have R1:=yA hr1;have K1:=yA hk1;clear hr1 hk1 hb1;go_wp2_with fail
 go_loopw [7,8] (λiv bv wr=>∃i:Nat,i<=l.length/\iv=.int .i64 i/\Hid (Ac.zAC u regs (l.drop i)=res)/\Hid (Keeps zA w1 wr)) (λiv _ _=>l.length-(intOf iv).toNat)
 case atStart=>exact⟨0,yF _,rfl,by show _=_;rw[yU,HR.out],yB _ _⟩
 case round =>
  obtain⟨i,hi,rfl,HN,HK⟩:=hrel;by_cases hlt:i<l.length
  ·have i1:(0:Int)<=i:=by omega
   have i2:(i:Int)<l.length:=by omega
   have hd:=HN.out;rw[Ac.zDC hlt] at hd;obtain⟨g,o,xa,xc,ta,tc,ea,ec,e1,hg,d0,d1,d2,d3,d4,d5,d6,d7,d8,d9,hx,hxt,hxe⟩:=(HL.out.keeps (K1.out.zC HK.out) (λ_ _ h=>h)).at hlt;subst e1
   have HC:Hid (∀W,Keeps zA wr W->Calls Tryz.prog 93 #[.agg #[.int .i64 l[i].kind,.int .i64 l[i].reg,.int .i64 l[i].obj,.int .i64 l[i].ex.kind,.int .i64 l[i].ex.num,.string l[i].ex.nm,.slice xa l[i].ex.args.length xc,.int .i64 l[i].count,.slice ta l[i].thn.length tc,.slice ea l[i].els.length ec],regs,.agg #[.slice ca nc cc,mu,.slice tha nth thc]] W λe w'=>e=.returned (.bool (l[i].may u regs))/\Keeps zA W w'):=
    λW hk=>HU.out _ W F xa xc ta tc ea ec (yI hlt) (hx.keeps hk (λ_ _ h=>h)) (hxt.keeps hk (λ_ _ h=>h)) (hxe.keeps hk (λ_ _ h=>h))
   obtain⟨m,hm⟩:=eX (l[i].may u regs);rw[<-hm] at HC hd;have HD:=yA hd;clear hx hxt hxe hm hd;generalize l[i].kind=x0 at d0 HC;generalize l[i].reg=x1 at d1 HC;generalize l[i].obj=x2 at d2 HC;generalize l[i].ex.kind=x3 at d3 HC;generalize l[i].ex.num=x4 at d4 HC;generalize l[i].ex.nm=x5 at d5 HC;generalize l[i].ex.args.length=x6 at d6 HC;generalize l[i].count=x7 at d7 HC;generalize l[i].thn.length=x8 at d8 HC;generalize l[i].els.length=x9 at d9 HC;go_upto_region 4 with fail
   refine zW 7 (by kernel_rfl) (by kernel_rfl) (Keeps zA) (yB zA) (λa b c h h'=>xJ h h') (AyF (.slice (some ⟨g,o,none⟩) l.length cap) i ⟨g,o+i*10,none⟩ (.agg #[x0,x1,x2,x3,x4,x5,.slice xa x6 xc,x7,.slice ta x8 tc,.slice ea x9 ec]) regs (.agg #[.slice ca nc cc,mu,.slice tha nth thc]) m) AyF.st ?_ ?_
   ·intro q oo hq ho vs W Q' hR hd hK
    have HR':Keeps zA wr W:=((yB zA wr).drew).zC hR;obtain⟨u0,u1,u2⟩:=(R1.out.keeps (HK.out.zC HR') (λh=>h)).three;have c0:=HR'.cell (p:=⟨g,o+i*10,none⟩) (λh=>h) d0;have c1:=HR'.cell (p:=⟨g,o+i*10+1,none⟩) (λh=>h) d1;have c2:=HR'.cell (p:=⟨g,o+i*10+2,none⟩) (λh=>h) d2;have c3:=HR'.cell (p:=⟨g,o+i*10+3,none⟩) (λh=>h) d3;have c4:=HR'.cell (p:=⟨g,o+i*10+4,none⟩) (λh=>h) d4;have c5:=HR'.cell (p:=⟨g,o+i*10+5,none⟩) (λh=>h) d5;have c6:=HR'.cell (p:=⟨g,o+i*10+6,none⟩) (λh=>h) d6;have c7:=HR'.cell (p:=⟨g,o+i*10+7,none⟩) (λh=>h) d7;have c8:=HR'.cell (p:=⟨g,o+i*10+8,none⟩) (λh=>h) d8;have c9:=HR'.cell (p:=⟨g,o+i*10+9,none⟩) (λh=>h) d9;have HCW:=yA (HC.out W HR');clear d0 d1 d2 d3 d4 d5 d6 d7 d8 d9 HR' HC;rcases (show q=0\/q=1\/q=2\/q=3\/q=4\/q=5\/q=6 by omega) with rfl|rfl|rfl|rfl|rfl|rfl|rfl
    all_goals (simp only[yC,yD,yN] at ho;subst ho;simp only[zJ,yC,yD,yO,Option.bind,Act.put,yE,yM,yJ] at hK ⊢;clear hq)
    ·exact J2 _
    ·exact J2 _
    ·have e0:vs 0=_:=hd 0 (by kernel_rfl)
     have e1:vs 1=_:=hd 1 (by kernel_rfl);rw[e0,e1] at hK ⊢;exact J2 _
    ·exact J135x15 _
    ·exact J2 _
    ·exact J2 _
    ·have e3:vs 3=_:=hd 3 (by kernel_rfl)
     have e4:vs 4=_:=hd 4 (by kernel_rfl);have e5:vs 5=_:=hd 5 (by kernel_rfl);rw[e3,e4,e5] at hK ⊢;clear hd;go_wp2_with (go_at_call 93;refine HCW.out.mono ?_;rintro e W1 ⟨rfl,g1⟩)
     exact hK _ _ g1 rfl
   ·intro vs W hR hF
    have HR':Keeps zA wr W:=((yB zA wr).drew).zC hR;have HKW:Hid (Keeps zA w1 W):=HK.out.zC HR';have e6:vs 6=.bool m:=hF 6 (by decide);simp only[zJ,yC,yD,yO,Option.bind,Act.put,yE,yM,yJ,yZ,yU];rw[e6];clear hF e6 d0 d1 d2 d3 d4 d5 d6 d7 d8 d9 HC HR' hR;generalize vs 0=y0;generalize vs 1=y1;generalize vs 2=y2;generalize vs 3=y3;generalize vs 4=y4;generalize vs 5=y5;cases m
    ·go_wp2_with fail
     go_ret
     exact⟨by rw[<-HD.out];rfl,K1.out.zC HKW.out⟩
    ·go_wp2_with fail
     go_roundw
     case rel=>exact⟨i+1,by omega,by go_num,by show _=_;rw[<-HD.out];rfl,HKW.out⟩
     case measure=>simp[intOf];omega
  ·obtain rfl:i=l.length:=by omega
   have hd:=HN.out;rw[xO] at hd;exact J43 _
theorem zRH(x:Ac):zMo x:=Ac.ind (λk r o x c t e h1 h2=>zMl _ (zFV t h1) (zFV e h2)) x
theorem zQ4(l:List Ac):zIM l:=zFV l (λy _=>zRH y)
