/- Layer D: texts joined. -/
import Derived.Test.YtoapgjjepiopbaaGreatDoorD02
set_option linter.all false
namespace Go.Proofs.YtoapgjjepiopbaaGreatDoor
open Go.RowKit
abbrev yk:=@Go.Proofs.Tryz.ntmps148
abbrev uM:=@Nat.eq_zero_or_pos
abbrev uL:=@Classical.em
abbrev xK:=@Go.bodyPost_ret
abbrev yV:=@decide_eq_true_eq
theorem J7(P:Prop) (h:P:=by
 have hl2:i<l.length:=by rw[<-HNL.out];exact hlt
 have hd:=HN.out;rw[Ex.zDC hl2] at hd;obtain⟨g,o,a,c,e1,hg,d0,d1,d2,d3,hx⟩:=(HL.out.keeps (K1.out.zC HK.out) (λ_ _ h=>h)).at hl2;subst e1;have HC:Hid (∀W,Keeps zA wr W->Calls Tryz.prog 148 #[.agg #[.int .i64 l[i].kind,.int .i64 l[i].num,.string l[i].nm,.slice a l[i].args.length c],regs] W λe w'=>e=.returned (.bool (l[i].may regs))/\Keeps zA W w'):=λW hk=>IH.out _ (yI hl2) regs W F a c (hx.keeps hk (λ_ _ h=>h)) (by have:=Ex.zCP (yI hl2);have:=HB.out;omega)
 obtain⟨m,hm⟩:=eX (l[i].may regs);rw[<-hm] at HC hd;have HD:=yA hd;clear hx hm hd;generalize l[i].kind=x0 at d0 HC;generalize l[i].num=x1 at d1 HC;generalize l[i].nm=x2 at d2 HC;generalize l[i].args.length=x3 at d3 HC;cases m
 ·go_wp2_with (go_at_call 148;refine(HC.out _ (yB _ _)).mono ?_;rintro e w2 ⟨rfl,g1⟩;have G1:=yA g1;clear g1)
  go_ret
  exact⟨by rw[<-HD.out];rfl,(K1.out.zC HK.out).zC G1.out⟩
 ·go_wp2_with (go_at_call 148;refine(HC.out _ (yB _ _)).mono ?_;rintro e w2 ⟨rfl,g1⟩;have G1:=yA g1;clear g1)
  go_roundw
  case rel=>exact⟨i+1,by omega,by go_num,by show _=_;rw[<-HD.out];rfl,HK.out.zC G1.out⟩
  case measure=>simp[intOf];omega):P:=h
theorem J22(P:Prop) (h:P:=by
 go_enter Tryz.func148,yk
 go_wp2_with fail
 go_ret
 exact⟨by first|rfl|simp,(yB _ _).alloc _⟩):P:=h
theorem J31(P:Prop) (h:P:=by
 go_wp2_with fail
 go_ret
 exact⟨rfl,yB _ _⟩):P:=h
theorem J40(P:Prop) (h:P:=by
 clear hb;go_enter Tryz.func148,yk
 go_wp2_with fail
 go_ret
 exact⟨rfl,(yB _ _).alloc _⟩):P:=h
theorem J81(P:Prop) (h:P:=by
 have H3:=yA h3;rw[e0];clear hx e0;go_enter Tryz.func148,yk
 go_wp2_with fail
 go_ret
 exact⟨by have:=H3.out;first|rfl|(simp;omega),(yB _ _).alloc _⟩):P:=h
theorem J82(P:Prop) (h:P:=by
 clear hb;rcases zDP k with rfl|rfl|⟨k3,k4⟩
 all_goals (
  go_enter Tryz.func148,yk
  go_wp2_with fail
  go_ret
  exact⟨rfl,(yB _ _).alloc _⟩)):P:=h
theorem J97(P:Prop) (h:P:=by
 go_wp2_with fail
 go_ret
 exact⟨by simp[hk],(yB _ _).alloc _⟩):P:=h
theorem J134(P:Prop) (h:P:=by
 have c1:=hr1.cell (k:=1) (v:=.int .i64 0) rfl;have c2:=hr1.cell (k:=2) (v:=.string nm) rfl;have c3:=hr1.cell (k:=3) (v:=.slice ad 1 cap) rfl;clear hr1 hk1 hb1;go_upto_region 13 with fail
 clear c0 c1 c2;go_loopw [6,7] (λiv bv wr=>∃i:Nat,i<=1/\iv=.int .i64 i/\Hid (Ex.zAC regs (l.drop i)=res)/\Hid (Keeps zA w1 wr)) (λiv _ _=>1-(intOf iv).toNat)
 case atStart=>exact⟨0,yF _,rfl,by show _=_;rw[yU,HR.out],yB _ _⟩
 case round =>
  obtain⟨i,hi,rfl,HN,HK⟩:=hrel;have c3':=(R1.out.keeps HK.out (λh=>h)).cell (k:=3) (v:=.slice ad 1 cap) rfl;clear c3;by_cases hlt:i<1
  ·have i1:(0:Int)<=i:=by omega
   have i2:(i:Int)<1:=by omega
   exact J7 _
  ·obtain rfl:i=1:=by omega
   have hd:=HN.out;rw[HNL.out,xO] at hd;exact J43 _):P:=h
theorem J156(P:Prop) (h:P:=by
 rw[e0];clear hx e0;exact J22 _):P:=h
theorem zKP(s:ByteArray):ze s=true↔s=zw:=by
 constructor
 ·intro h
  obtain⟨a⟩:=s;have h1:a.size=0:=by simpa [ze,ByteArray.size] using h
  have:a=#[]:=Array.eq_empty_of_size_eq_zero h1
  subst this;rfl
 ·rintro rfl;rfl
theorem zBB{s:ByteArray}(h:ze s=true):s.toList=[]:=by
 rw[(zKP s).1 h,ByteArray.toList_eq];rfl
theorem zBC{s:ByteArray}(h:ze s=false):¬s.toList=[]:=by
 intro e
 have:s=zw:=by
  obtain⟨a⟩:=s;rw[ByteArray.toList_eq] at e;have:a=#[]:=by simpa using e
  rw[this];rfl
 rw[this,zHo] at h;cases h
theorem zA2{s:ByteArray}(h:ze s=false):s.toList.isEmpty=false:=by
 have:=zBC h
 simpa using this
theorem zJ4(x:Ex)(w:World)(ad:Option Addr)(cap:Nat):
 Calls Tryz.prog 149 #[exV x ad cap] w λe w'=>e=.returned x.none/\Keeps zA w w':=by
 obtain⟨k,num,nm,l⟩:=x;show Calls _ _ #[.agg #[k,num,nm,.slice ad l.length cap]] _ _
 have hx:Ex.none (.mk k num nm l)=(k==0&&num==0&&ze nm&&l.isEmpty):=rfl;rw[hx];clear hx;rcases uL (k=0) with hk|hk
 ·rcases uL (num=0) with hn|hn
  ·cases hs:ze nm
   ·have h1:=zBC hs
    have h2:=zA2 hs;go_enter Tryz.func149,Tryz.ntmps149
    go_wp2_with fail
    go_ret
    exact⟨by simp,(yB _ _).alloc _⟩
   ·have h1:=zBB hs
    rcases uM l.length with hl|hl
    ·have e0:l.isEmpty=true:=by cases l <;> simp_all
     rw[hl,e0];go_enter Tryz.func149,Tryz.ntmps149
     go_wp2_with fail
     go_ret
     exact⟨by simp[hk,hn],(yB _ _).alloc _⟩
    ·have e0:l.isEmpty=false:=by cases l <;> simp_all
     have e1:¬((l.length:Nat):Int)=0:=by omega
     have e2:¬l=[]:=by intro e;subst e;simp at hl
     rw[e0];go_enter Tryz.func149,Tryz.ntmps149
     go_wp2_with fail
     go_ret
     exact⟨by simp[e2],(yB _ _).alloc _⟩
  ·have e1:(num==0)=false:=by simpa using hn
   go_enter Tryz.func149,Tryz.ntmps149
   go_wp2_with fail
   go_ret
   exact⟨by simp[hn],(yB _ _).alloc _⟩
 ·have e1:(k==0)=false:=by simpa using hk
  go_enter Tryz.func149,Tryz.ntmps149
  exact J97 _
theorem zFl(x:Ex)(w:World)(ad:Option Addr)(cap:Nat):
 Calls Tryz.prog 151 #[exV x ad cap] w λe w'=>e=.returned x.there/\Keeps zA w w':=by
 obtain⟨k,num,nm,l⟩:=x;show Calls _ _ #[.agg #[k,num,nm,.slice ad l.length cap]] _ _
 have hx:Ex.there (.mk k num nm l)=(k != 0 || !l.isEmpty):=rfl;rw[hx];clear hx;rcases uL (k=0) with hk|hk
 ·rcases uM l.length with hl|hl
  ·have e0:l.isEmpty=true:=by cases l <;> simp_all
   rw[hl,e0];go_enter Tryz.func151,Tryz.ntmps151
   exact J97 _
  ·have e0:l.isEmpty=false:=by cases l <;> simp_all
   have e1:(0:Int)<l.length:=by omega
   have e2:¬l=[]:=by intro e;subst e;simp at hl
   rw[e0];go_enter Tryz.func151,Tryz.ntmps151
   go_wp2_with fail
   go_ret
   exact⟨by simp,(yB _ _).alloc _⟩
 ·have e1:(k==0)=false:=by simpa using hk
  go_enter Tryz.func151,Tryz.ntmps151
  exact J97 _
def flV(f:Fl):Value:=.tuple #[f.reg,f.name,f.ex,f.count,f.thn,f.els]
theorem zIC{fn:Func}{t u v x y z:Tmp}(h:fn.results=#[.tmp t,.tmp u,.tmp v,.tmp x,.tmp y,.tmp z])(tmps:Array Value)(P:Program)(w:World):
 (results fn tmps).run P w=.ok (.tuple #[tmps.getD t undef,tmps.getD u undef,tmps.getD v undef,tmps.getD x undef,tmps.getD y undef,tmps.getD z undef]) w:=by
 simp[results,h]
theorem zEe(k:Int):k=1\/k=2\/k=3\/k=4\/k=5\/k=6\/k=7\/k=8\/k=9\/k=10\/k=11\/¬(1<=k/\k<=11):=by omega
theorem zBM(k:Int)(w:World):
 Calls Tryz.prog 147 #[k] w λe w'=>e=.returned (flV (fields k))/\Keeps zA w w':=by
 rcases zEe k with rfl|rfl|rfl|rfl|rfl|rfl|rfl|rfl|rfl|rfl|rfl|h
 case' inr.inr.inr.inr.inr.inr.inr.inr.inr.inr.inr =>
  rw[zDt h];have n1:¬k=1:=by omega
  have n2:¬k=2:=by omega
  have n3:¬k=3:=by omega
  have n4:¬k=4:=by omega
  have n5:¬k=5:=by omega
  have n6:¬k=6:=by omega
  have n7:¬k=7:=by omega
  have n8:¬k=8:=by omega
  have n9:¬k=9:=by omega
  have n10:¬k=10:=by omega
  have n11:¬k=11:=by omega
  clear h
 all_goals (
  go_enter Tryz.func147,Tryz.ntmps147
  go_wp2_with fail
  refine xK (zIC rfl _ _ _) rfl ?_
  exact⟨rfl,yB _ _⟩)
def zCg(k:Int):Bool:=k==1 || k==2 || k==4
def zB3(k:Int):Int:=if 2<=k/\k<=4 then 1 else if k=5\/k=6 then 2 else if k=7\/k=8 then 3 else 0
theorem zJt(k:Int)(w:World):
 Calls Tryz.prog 144 #[k] w λe w'=>e=.returned (.bool (zCg k))/\Keeps zA w w':=by
 rcases (show k=1\/k=2\/k=4\/(¬k=1/\¬k=2/\¬k=4) by omega) with rfl|rfl|rfl|⟨h1,h2,h4⟩
 all_goals (
  go_enter Tryz.func144,Tryz.ntmps144
  go_wp2_with fail
  go_ret
  exact⟨by simp[zCg, *],yB _ _⟩)
theorem zLb(k:Int)(w:World):
 Calls Tryz.prog 146 #[k] w λe w'=>e=.returned (.int .i64 (zB3 k))/\Keeps zA w w':=by
 rcases (show k=2\/k=3\/k=4\/k=5\/k=6\/k=7\/k=8\/(¬k=2/\¬k=3/\¬k=4/\¬k=5/\¬k=6/\¬k=7/\¬k=8) by omega) with rfl|rfl|rfl|rfl|rfl|rfl|rfl|⟨h2,h3,h4,h5,h6,h7,h8⟩;case' inr.inr.inr.inr.inr.inr.inr=>have e:zB3 k=0:=by unfold zB3;repeat' (first|rw[if_neg (by omega)])
 case' inr.inr.inr.inr.inr.inr.inr=>rw[e]
 all_goals (
  go_enter Tryz.func146,Tryz.ntmps146
  go_wp2_with fail
  go_ret
  exact⟨rfl,yB _ _⟩)
def zk(w:World)(F:Nat->Prop)(v:Value)(n:Nat):Prop:=∃ad cap,v=.slice ad n cap/\∀i,i<n->∃g o,ad=some ⟨g,o,none⟩/\F g/\w.cell? ⟨g,o+i,none⟩=some (.string xNm)
theorem zk.keeps{S F:Nat->Prop}{w w':World}{v:Value}{n:Nat}(h:zk w F v n)(hk:Keeps S w w')(hS:∀k,F k->¬S k):zk w' F v n:=by
 obtain⟨ad,cap,e,h1⟩:=h;refine⟨ad,cap,e,λi hi=>?_⟩
 obtain⟨g,o,e1,hg,hc⟩:=h1 i hi;exact⟨g,o,e1,hg,hk.cell (p:=⟨g,o+i,none⟩) (hS g hg) hc⟩
theorem zGM{F:Nat->Prop}(v:Value)(n:Nat)(i:Int)(w:World)(h:zk w F v n):
 Calls Tryz.prog 145 #[v,i] w λe w'=>e=.returned (.string (nameAt n i))/\Keeps zA w w':=by
 obtain⟨ad,cap,rfl,h1⟩:=h;rcases (show i<0\/0<=i by omega) with h0|h0
 ·have e:nameAt n i=zw:=by unfold nameAt;rw[if_neg (by omega)]
  rw[e];go_enter Tryz.func145,Tryz.ntmps145
  exact J31 _
 ·obtain⟨k,rfl⟩:∃k:Nat,i=k:=⟨i.toNat,by omega⟩
  rcases xR k n with hk|hk
  ·have e:nameAt n k=xNm:=by unfold nameAt;rw[if_pos (by omega)]
   rw[e];obtain⟨g,o,e1,_,hc⟩:=h1 k hk;subst e1;have i2:(k:Int)<n:=by omega
   have i3:¬(n:Int)<=k:=by omega
   clear h1;go_enter Tryz.func145,Tryz.ntmps145
   exact J31 _
  ·have e:nameAt n k=zw:=by unfold nameAt;rw[if_neg (by omega)]
   rw[e];have i3:(n:Int)<=k:=by omega
   clear h1;go_enter Tryz.func145,Tryz.ntmps145
   exact J31 _
theorem zKh(u:Un)(k:Int)(w:World)(ca ta:Option Addr)(cc tc:Nat):
 Calls Tryz.prog 150 #[k,.agg #[.slice ca u.cells.length cc,u.mutexes,.slice ta u.threads.length tc]] w λe w'=>e=.returned (.int .i64 (zBJ u k))/\Keeps zA w w':=by
 rcases (show k=2\/k=3\/k=4\/k=5\/k=6\/(¬k=2/\¬k=3/\¬k=4/\¬k=5/\¬k=6) by omega) with rfl|rfl|rfl|rfl|rfl|⟨h2,h3,h4,h5,h6⟩
 case' inr.inr.inr.inr.inr =>
  have e:zBJ u k=u.threads.length:=by unfold zBJ;rw[if_neg (by omega),if_neg (by omega)]
  rw[e]
 all_goals (
  go_enter Tryz.func150,Tryz.ntmps150
  go_wp2_with fail
  go_ret
  exact⟨by first|rfl|simp[zBJ],(yB _ _).alloc _⟩)
theorem zJf(num:Int)(nm:ByteArray)(n:Nat)(regs:Int)(w:World)(ad:Option Addr)(cap:Nat):
 Calls Tryz.prog 148 #[.agg #[(1:Int),num,nm,.slice ad n cap],regs] w λe w'=>e=.returned (.bool (zAE 1 num nm n regs))/\Keeps zA w w':=by
 have hx:zAE 1 num nm n regs=(decide (0<=num)&&decide (num<=2147483647)&&ze nm&&n==0):=rfl;rcases uL (0<=num) with h1|h1
 ·rcases uL (num<=2147483647) with h2|h2
  ·cases hs:ze nm
   ·have s1:=zBC hs
    have s2:=zA2 hs;have e0:zAE 1 num nm n regs=false:=by rw[hx];simp[hs]
    exact J156 _
   ·have s1:=zBB hs
    rcases uL (n=0) with h3|h3
    ·have e0:zAE 1 num nm n regs=true:=by rw[hx];simp[h1,h2,hs,h3]
     rw[e0];clear hx e0;subst h3;exact J22 _
    ·have h4:¬(n:Int)=0:=by omega
     have e0:zAE 1 num nm n regs=false:=by rw[hx];simp[h3]
     exact J81 _
  ·have e0:zAE 1 num nm n regs=false:=by rw[hx];simp[h2]
   exact J156 _
 ·have e0:zAE 1 num nm n regs=false:=by rw[hx];simp[h1]
  exact J156 _
theorem zIm(num:Int)(nm:ByteArray)(n:Nat)(regs:Int)(w:World)(ad:Option Addr)(cap:Nat):
 Calls Tryz.prog 148 #[.agg #[(2:Int),num,nm,.slice ad n cap],regs] w λe w'=>e=.returned (.bool (zAE 2 num nm n regs))/\Keeps zA w w':=by
 have hx:zAE 2 num nm n regs=(decide (0<=num)&&decide (num<regs)&&ze nm&&n==0):=rfl;rcases uL (0<=num) with h1|h1
 ·rcases uL (num<regs) with h2|h2
  ·cases hs:ze nm
   ·have s1:=zBC hs
    have s2:=zA2 hs;have e0:zAE 2 num nm n regs=false:=by rw[hx];simp[hs]
    exact J156 _
   ·have s1:=zBB hs
    rcases uL (n=0) with h3|h3
    ·have e0:zAE 2 num nm n regs=true:=by rw[hx];simp[h1,h2,hs,h3]
     rw[e0];clear hx e0;subst h3;exact J22 _
    ·have h4:¬(n:Int)=0:=by omega
     have e0:zAE 2 num nm n regs=false:=by rw[hx];simp[h3]
     exact J81 _
  ·have e0:zAE 2 num nm n regs=false:=by rw[hx];simp[h2]
   exact J156 _
 ·have e0:zAE 2 num nm n regs=false:=by rw[hx];simp[h1]
  exact J156 _
theorem zDP(k:Int):(k=3)\/(k=4)\/(¬k=3/\¬k=4):=by omega
theorem zFr{k num:Int}{nm:ByteArray}{n:Nat}{regs:Int}(h1:¬k=1)(h2:¬k=2):
 zAE k num nm n regs=(decide (3<=k)&&decide (k<=17)&&num==0&&ze nm&&n==(if k=3\/k=4 then 1 else 2)):=by
 unfold zAE;rw[if_neg h1,if_neg h2]
theorem zIa(k num:Int)(nm:ByteArray)(n:Nat)(regs:Int)(w:World)(ad:Option Addr)(cap:Nat)(k1:¬k=1)(k2:¬k=2)(hb:zAE k num nm n regs=false):
 Calls Tryz.prog 148 #[.agg #[k,num,nm,.slice ad n cap],regs] w λe w'=>e=.returned false/\Keeps zA w w':=by
 rw[zFr k1 k2] at hb;rcases uL (k<1) with h1|h1
 ·have k3:¬k=3:=by omega
  have k4:¬k=4:=by omega
  exact J40 _
 ·have h1':3<=k:=by omega
  rw[uC h1'] at hb;rcases uL (17<k) with h2|h2
  ·have k3:¬k=3:=by omega
   have k4:¬k=4:=by omega
   exact J40 _
  ·have h2':k<=17:=by omega
   rw[uC h2'] at hb;rcases uL (num=0) with h3|h3
   ·subst h3
    cases hs:ze nm
    ·have s1:=zBC hs
     have s2:=zA2 hs;exact J82 _
    ·have s1:=zBB hs
     rw[hs] at hb;rcases zDP k with rfl|rfl|⟨k3,k4⟩
     ·have h5:¬n=1:=by simpa using hb
      have h6:¬(n:Int)=1:=by omega
      exact J40 _
     ·have h5:¬n=1:=by simpa using hb
      have h6:¬(n:Int)=1:=by omega
      exact J40 _
     ·have h5:¬n=2:=by simpa [k3,k4] using hb
      have h6:¬(n:Int)=2:=by omega
      exact J40 _
   ·exact J82 _
theorem Ex.zDC{regs:Int}{l:List Ex}{i:Nat}(h:i<l.length):Ex.zAC regs (l.drop i)=(l[i].may regs&&Ex.zAC regs (l.drop (i+1))):=by
 rw[drop_at h];rfl
theorem zIb:∀(x:Ex)(regs:Int)(w:World)(F:Nat->Prop)(ad:Option Addr)(cap:Nat),zR w F x.args ad->x.cnt<1000000000 →
 Calls Tryz.prog 148 #[exV x ad cap,regs] w λe w'=>e=.returned (.bool (x.may regs))/\Keeps zA w w':=by
 refine Ex.ind (λk num nm l ih regs w F ad cap h hb=>?_)
 have HL:Hid (zR w F l ad):=h;have IH:=yA ih;have hl:=Ex.zAe l;have hcn:Ex.cnt (.mk k num nm l)=1+Ex.zT l:=by simp[Ex.cnt]
 rw[hcn] at hb;have hmay:Ex.may regs (.mk k num nm l)=(zAE k num nm l.length regs&&Ex.zAC regs l):=by simp[Ex.may]
 rw[hmay];clear h ih hcn hmay;show Calls _ _ #[.agg #[k,num,nm,.slice ad l.length cap],_] _ _
 by_cases k1:k=1
 ·subst k1
  have e:(zAE 1 num nm l.length regs&&Ex.zAC regs l)=zAE 1 num nm l.length regs:=by
   cases l with
   | nil=>simp[Ex.zAC]
   | cons x r=>simp[zAE]
  rw[e];exact zJf num nm _ regs w ad cap
 by_cases k2:k=2
 ·subst k2
  have e:(zAE 2 num nm l.length regs&&Ex.zAC regs l)=zAE 2 num nm l.length regs:=by
   cases l with
   | nil=>simp[Ex.zAC]
   | cons x r=>simp[zAE]
  rw[e];exact zIm num nm _ regs w ad cap
 cases hlf:zAE k num nm l.length regs
 ·exact zIa k num nm _ regs w ad cap k1 k2 hlf
 rw[zFr k1 k2] at hlf;simp only[yS,yV,beq_iff_eq] at hlf;obtain⟨⟨⟨⟨p1,p2⟩,p3⟩,p4⟩,p5⟩:=hlf;have s1:=zBB p4;have p6:¬k<1:=by omega
 have p7:¬17<k:=by omega
 subst p3;have p8:(l.length:Int)=if k=3\/k=4 then 1 else 2:=by split <;> simp_all
 obtain⟨nl,hnl⟩:=eX l.length;have HNL:=yA hnl;rw[<-hnl] at hl p8 ⊢;simp only[Bool.true_and];obtain⟨res,hres⟩:=eX (Ex.zAC regs l);have HR:=yA hres;rw[<-hres];have hnb:nl<3:=by split at p8 <;> omega
 clear p5 hres hnl p4;rcases zDP k with h3|h3|⟨k3,k4⟩
 ·subst h3
  obtain rfl:nl=1:=by(have p9:(nl:Int)=1:=(by simpa using p8));omega
  have hb2:Ex.zT l<1000000000:=by omega
  have HB:=yA hb2;clear p8 hb hb2 hl hnb;go_enter Tryz.func148,yk
  go_upto_region 1 with fail
  obtain⟨b1,hb1⟩:=eX w.heap.size;have hr1:zB (w.alloc (.cells #[(3:Int),(0:Int),nm,.slice ad 1 cap] 144)) b1 [.int .i64 3,.int .i64 0,.string nm,.slice ad 1 cap]:=J169 _;have hk1:Keeps zA w (w.alloc (.cells #[(3:Int),(0:Int),nm,.slice ad 1 cap] 144)):=(yB _ _).alloc _;rw[<-hb1];generalize w.alloc (.cells #[(3:Int),(0:Int),nm,.slice ad 1 cap] 144)=w1 at hr1 hk1 ⊢;have R1:=yA hr1;have K1:=yA hk1;have c0:=hr1.cell (k:=0) (v:=.int .i64 3) rfl;exact J134 _
 ·subst h3
  obtain rfl:nl=1:=by(have p9:(nl:Int)=1:=(by simpa using p8));omega
  have hb2:Ex.zT l<1000000000:=by omega
  have HB:=yA hb2;clear p8 hb hb2 hl hnb;go_enter Tryz.func148,yk
  go_upto_region 1 with fail
  obtain⟨b1,hb1⟩:=eX w.heap.size;have hr1:zB (w.alloc (.cells #[(4:Int),(0:Int),nm,.slice ad 1 cap] 144)) b1 [.int .i64 4,.int .i64 0,.string nm,.slice ad 1 cap]:=J169 _;have hk1:Keeps zA w (w.alloc (.cells #[(4:Int),(0:Int),nm,.slice ad 1 cap] 144)):=(yB _ _).alloc _;rw[<-hb1];generalize w.alloc (.cells #[(4:Int),(0:Int),nm,.slice ad 1 cap] 144)=w1 at hr1 hk1 ⊢;have R1:=yA hr1;have K1:=yA hk1;have c0:=hr1.cell (k:=0) (v:=.int .i64 4) rfl;exact J134 _
 ·skip
  obtain rfl:nl=2:=by rw[if_neg (by omega)] at p8;omega
  have hb2:Ex.zT l<1000000000:=by omega
  have HB:=yA hb2;clear p8 hb hb2 hl hnb;go_enter Tryz.func148,yk
  go_upto_region 1 with fail
  obtain⟨b1,hb1⟩:=eX w.heap.size;have hr1:zB (w.alloc (.cells #[k,(0:Int),nm,.slice ad 2 cap] 144)) b1 [.int .i64 k,.int .i64 0,.string nm,.slice ad 2 cap]:=J169 _;have hk1:Keeps zA w (w.alloc (.cells #[k,(0:Int),nm,.slice ad 2 cap] 144)):=(yB _ _).alloc _;rw[<-hb1];generalize w.alloc (.cells #[k,(0:Int),nm,.slice ad 2 cap] 144)=w1 at hr1 hk1 ⊢;have R1:=yA hr1;have K1:=yA hk1;have c0:=hr1.cell (k:=0) (v:=.int .i64 k) rfl;have c1:=hr1.cell (k:=1) (v:=.int .i64 0) rfl;have c2:=hr1.cell (k:=2) (v:=.string nm) rfl;have c3:=hr1.cell (k:=3) (v:=.slice ad 2 cap) rfl;clear hr1 hk1 hb1;go_upto_region 13 with fail
  clear c0 c1 c2;go_loopw [6,7] (λiv bv wr=>∃i:Nat,i<=2/\iv=.int .i64 i/\Hid (Ex.zAC regs (l.drop i)=res)/\Hid (Keeps zA w1 wr)) (λiv _ _=>2-(intOf iv).toNat)
  case atStart=>exact⟨0,yF _,rfl,by show _=_;rw[yU,HR.out],yB _ _⟩
  case round =>
   obtain⟨i,hi,rfl,HN,HK⟩:=hrel;have c3':=(R1.out.keeps HK.out (λh=>h)).cell (k:=3) (v:=.slice ad 2 cap) rfl;clear c3;by_cases hlt:i<2
   ·have i1:(0:Int)<=i:=by omega
    have i2:(i:Int)<2:=by omega
    exact J7 _
   ·obtain rfl:i=2:=by omega
    have hd:=HN.out;rw[HNL.out,xO] at hd;exact J43 _
