/- Layer M: texts joined. -/
import Derived.Test.YtfokdllgnblamaaGreatDoorM01
set_option linter.all false
namespace Go.Proofs.YtfokdllgnblamaaGreatDoor
open Go.RowKit
abbrev xe:=@Go.Proofs.Tryz.ntmps121
abbrev uX:=@Nat.eq_zero_or_pos
abbrev uO:=@Classical.em
abbrev xG:=@Go.bodyPost_ret
abbrev yV:=@decide_eq_true_eq
abbrev yD:=@Keeps.refl
theorem J7 (P:Prop) (h:P:=by
 have hl2:i < l.length:=by rw [<- HNL.out];exact hlt
 have hd:=HN.out;rw [Ex.zC3 hl2] at hd;obtain ⟨g,o,a,c,e1,hg,d0,d1,d2,d3,hx⟩:=(HL.out.keeps (K1.out.zB HK.out) (fun _ _ h=>h)).at hl2;subst e1;have HC:Hid (∀ W,Keeps zA wr W -> Calls Tryz.prog 121 #[.agg #[.int .i64 l[i].kind, .int .i64 l[i].num, .string l[i].nm, .slice a l[i].args.length c], .int .i64 regs] W fun e w'=>e=.returned (.bool (l[i].may regs)) /\ Keeps zA W w'):=fun W hk=>IH.out _ (yO hl2) regs W F a c (hx.keeps hk (fun _ _ h=>h)) (by have:=Ex.zCA (yO hl2);have:=HB.out;omega)
 obtain ⟨m,hm⟩:=eX (l[i].may regs);rw [<- hm] at HC hd;have HD:=yC hd;clear hx hm hd;generalize l[i].kind=x0 at d0 HC;generalize l[i].num=x1 at d1 HC;generalize l[i].nm=x2 at d2 HC;generalize l[i].args.length=x3 at d3 HC;cases m
 ·go_wp2_with (go_at_call 121;refine (HC.out _ (yD _ _)).mono ?_;rintro e w2 ⟨rfl,g1⟩;have G1:=yC g1;clear g1)
  go_ret
  exact ⟨by rw [<- HD.out];rfl,(K1.out.zB HK.out).zB G1.out⟩
 ·go_wp2_with (go_at_call 121;refine (HC.out _ (yD _ _)).mono ?_;rintro e w2 ⟨rfl,g1⟩;have G1:=yC g1;clear g1)
  go_roundw
  case rel=>exact ⟨i+1,by omega,by go_num,by show _=_;rw [<- HD.out];rfl,HK.out.zB G1.out⟩
  case measure=>simp [intOf];omega):P:=h
theorem J26 (P:Prop) (h:P:=by
 go_enter Tryz.func121,xe
 go_wp2_with fail
 go_ret
 exact ⟨by first | rfl | simp,(yD _ _).alloc _⟩):P:=h
theorem J38 (P:Prop) (h:P:=by
 go_wp2_with fail
 go_ret
 exact ⟨rfl,yD _ _⟩):P:=h
theorem J41 (P:Prop) (h:P:=by
 clear hb;go_enter Tryz.func121,xe
 go_wp2_with fail
 go_ret
 exact ⟨rfl,(yD _ _).alloc _⟩):P:=h
theorem J87 (P:Prop) (h:P:=by
 have H3:=yC h3;rw [e0];clear hx e0;go_enter Tryz.func121,xe
 go_wp2_with fail
 go_ret
 exact ⟨by have:=H3.out;first | rfl | (simp;omega),(yD _ _).alloc _⟩):P:=h
theorem J88 (P:Prop) (h:P:=by
 clear hb;rcases zDL k with rfl | rfl | ⟨k3,k4⟩
 all_goals (
  go_enter Tryz.func121,xe
  go_wp2_with fail
  go_ret
  exact ⟨rfl,(yD _ _).alloc _⟩)):P:=h
theorem J110 (P:Prop) (h:P:=by
 go_wp2_with fail
 go_ret
 exact ⟨by simp [hk],(yD _ _).alloc _⟩):P:=h
theorem J155 (P:Prop) (h:P:=by
 have c1:=hr1.cell (k:=1) (v:=.int .i64 0) rfl;have c2:=hr1.cell (k:=2) (v:=.string nm) rfl;have c3:=hr1.cell (k:=3) (v:=.slice ad 1 cap) rfl;clear hr1 hk1 hb1;go_upto_region 13 with fail
 clear c0 c1 c2;go_loopw [6,7] (fun iv bv wr=>∃ i:Nat,i <= 1 /\ iv=.int .i64 i /\ Hid (Ex.zAM regs (l.drop i)=res) /\ Hid (Keeps zA w1 wr)) (fun iv _ _=>1 - (intOf iv).toNat)
 case atStart=>exact ⟨0,yK _,rfl,by show _=_;rw [yS,HR.out],yD _ _⟩
 case round =>
  obtain ⟨i,hi,rfl,HN,HK⟩:=hrel;have c3':=(R1.out.keeps HK.out (fun h=>h)).cell (k:=3) (v:=.slice ad 1 cap) rfl;clear c3;by_cases hlt:i < 1
  ·have i1:(0:Int) <= i:=by omega
   have i2:(i:Int) < 1:=by omega
   exact J7 _
  ·obtain rfl:i=1:=by omega
   have hd:=HN.out;rw [HNL.out,xQ] at hd;exact J48 _):P:=h
theorem J177 (P:Prop) (h:P:=by
 rw [e0];clear hx e0;exact J26 _):P:=h
theorem zIq (s:ByteArray):zZ s=true ↔ s=zq:=by
 constructor
 ·intro h
  obtain ⟨a⟩:=s;have h1:a.size=0:=by simpa [zZ,ByteArray.size] using h
  have:a=#[]:=Array.eq_empty_of_size_eq_zero h1
  subst this;rfl
 ·rintro rfl;rfl
theorem zBO {s:ByteArray} (h:zZ s=true):s.toList=[]:=by
 rw [(zIq s).1 h,ByteArray.toList_eq];rfl
theorem zBN {s:ByteArray} (h:zZ s=false):¬ s.toList=[]:=by
 intro e
 have:s=zq:=by
  obtain ⟨a⟩:=s;rw [ByteArray.toList_eq] at e;have:a=#[]:=by simpa using e
  rw [this];rfl
 rw [this,zHD] at h;cases h
theorem zBG {s:ByteArray} (h:zZ s=false):s.toList.isEmpty=false:=by
 have:=zBN h
 simpa using this
theorem zJA (x:Ex) (w:World) (ad:Option Addr) (cap:Nat) :
 Calls Tryz.prog 122 #[exV x ad cap] w fun e w'=>e=.returned (.bool x.none) /\ Keeps zA w w':=by
 obtain ⟨k,num,nm,l⟩:=x;show Calls _ _ #[.agg #[.int .i64 k, .int .i64 num, .string nm, .slice ad l.length cap]] _ _
 have hx:Ex.none (.mk k num nm l)=(k==0&&num==0&&zZ nm&&l.isEmpty):=rfl;rw [hx];clear hx;rcases uO (k=0) with hk | hk
 ·rcases uO (num=0) with hn | hn
  ·cases hs:zZ nm
   ·have h1:=zBN hs
    have h2:=zBG hs;go_enter Tryz.func122,Tryz.ntmps122
    go_wp2_with fail
    go_ret
    exact ⟨by simp,(yD _ _).alloc _⟩
   ·have h1:=zBO hs
    rcases uX l.length with hl | hl
    ·have e0:l.isEmpty=true:=by cases l <;> simp_all
     rw [hl,e0];go_enter Tryz.func122,Tryz.ntmps122
     go_wp2_with fail
     go_ret
     exact ⟨by simp [hk,hn],(yD _ _).alloc _⟩
    ·have e0:l.isEmpty=false:=by cases l <;> simp_all
     have e1:¬ ((l.length:Nat):Int)=0:=by omega
     have e2:¬ l=[]:=by intro e;subst e;simp at hl
     rw [e0];go_enter Tryz.func122,Tryz.ntmps122
     go_wp2_with fail
     go_ret
     exact ⟨by simp [e2],(yD _ _).alloc _⟩
  ·have e1:(num==0)=false:=by simpa using hn
   go_enter Tryz.func122,Tryz.ntmps122
   go_wp2_with fail
   go_ret
   exact ⟨by simp [hn],(yD _ _).alloc _⟩
 ·have e1:(k==0)=false:=by simpa using hk
  go_enter Tryz.func122,Tryz.ntmps122
  exact J110 _
theorem zFU (x:Ex) (w:World) (ad:Option Addr) (cap:Nat) :
 Calls Tryz.prog 124 #[exV x ad cap] w fun e w'=>e=.returned (.bool x.there) /\ Keeps zA w w':=by
 obtain ⟨k,num,nm,l⟩:=x;show Calls _ _ #[.agg #[.int .i64 k, .int .i64 num, .string nm, .slice ad l.length cap]] _ _
 have hx:Ex.there (.mk k num nm l)=(k != 0 || !l.isEmpty):=rfl;rw [hx];clear hx;rcases uO (k=0) with hk | hk
 ·rcases uX l.length with hl | hl
  ·have e0:l.isEmpty=true:=by cases l <;> simp_all
   rw [hl,e0];go_enter Tryz.func124,Tryz.ntmps124
   exact J110 _
  ·have e0:l.isEmpty=false:=by cases l <;> simp_all
   have e1:(0:Int) < l.length:=by omega
   have e2:¬ l=[]:=by intro e;subst e;simp at hl
   rw [e0];go_enter Tryz.func124,Tryz.ntmps124
   go_wp2_with fail
   go_ret
   exact ⟨by simp,(yD _ _).alloc _⟩
 ·have e1:(k==0)=false:=by simpa using hk
  go_enter Tryz.func124,Tryz.ntmps124
  exact J110 _
def flV (f:Fl):Value:=.tuple #[.bool f.reg, .bool f.name, .bool f.ex, .bool f.count, .bool f.thn, .bool f.els]
theorem zHF {fn:Func} {t u v x y z:Tmp} (h:fn.results=#[.tmp t, .tmp u, .tmp v, .tmp x, .tmp y, .tmp z]) (tmps:Array Value) (P:Program) (w:World) :
 (results fn tmps).run P w=.ok (.tuple #[tmps.getD t undef,tmps.getD u undef,tmps.getD v undef,tmps.getD x undef,tmps.getD y undef,tmps.getD z undef]) w:=by
 simp [results,h]
theorem zEU (k:Int):k=1 \/ k=2 \/ k=3 \/ k=4 \/ k=5 \/ k=6 \/ k=7 \/ k=8 \/ k=9 \/ k=10 \/ k=11 \/ ¬ (1 <= k /\ k <= 11):=by omega
theorem zAw (k:Int) (w:World) :
 Calls Tryz.prog 120 #[.int .i64 k] w fun e w'=>e=.returned (flV (fields k)) /\ Keeps zA w w':=by
 rcases zEU k with rfl | rfl | rfl | rfl | rfl | rfl | rfl | rfl | rfl | rfl | rfl | h
 case' inr.inr.inr.inr.inr.inr.inr.inr.inr.inr.inr =>
  rw [zD1 h];have n1:¬ k=1:=by omega
  have n2:¬ k=2:=by omega
  have n3:¬ k=3:=by omega
  have n4:¬ k=4:=by omega
  have n5:¬ k=5:=by omega
  have n6:¬ k=6:=by omega
  have n7:¬ k=7:=by omega
  have n8:¬ k=8:=by omega
  have n9:¬ k=9:=by omega
  have n10:¬ k=10:=by omega
  have n11:¬ k=11:=by omega
  clear h
 all_goals (
  go_enter Tryz.func120,Tryz.ntmps120
  go_wp2_with fail
  refine xG (zHF rfl _ _ _) rfl ?_
  exact ⟨rfl,yD _ _⟩)
def zCY (k:Int):Bool:=k==1 || k==2 || k==4
def zBw (k:Int):Int:=if 2 <= k /\ k <= 4 then 1 else if k=5 \/ k=6 then 2 else if k=7 \/ k=8 then 3 else 0
theorem zI9 (k:Int) (w:World) :
 Calls Tryz.prog 137 #[.int .i64 k] w fun e w'=>e=.returned (.bool (zCY k)) /\ Keeps zA w w':=by
 rcases (show k=1 \/ k=2 \/ k=4 \/ (¬ k=1 /\ ¬ k=2 /\ ¬ k=4) by omega) with rfl | rfl | rfl | ⟨h1,h2,h4⟩
 all_goals (
  go_enter Tryz.func137,Tryz.ntmps137
  go_wp2_with fail
  go_ret
  exact ⟨by simp [zCY, *],yD _ _⟩)
theorem zKU (k:Int) (w:World) :
 Calls Tryz.prog 139 #[.int .i64 k] w fun e w'=>e=.returned (.int .i64 (zBw k)) /\ Keeps zA w w':=by
 rcases (show k=2 \/ k=3 \/ k=4 \/ k=5 \/ k=6 \/ k=7 \/ k=8 \/ (¬ k=2 /\ ¬ k=3 /\ ¬ k=4 /\ ¬ k=5 /\ ¬ k=6 /\ ¬ k=7 /\ ¬ k=8) by omega) with rfl | rfl | rfl | rfl | rfl | rfl | rfl | ⟨h2,h3,h4,h5,h6,h7,h8⟩;case' inr.inr.inr.inr.inr.inr.inr=>have e:zBw k=0:=by unfold zBw;repeat' (first | rw [if_neg (by omega)])
 case' inr.inr.inr.inr.inr.inr.inr=>rw [e]
 all_goals (
  go_enter Tryz.func139,Tryz.ntmps139
  go_wp2_with fail
  go_ret
  exact ⟨rfl,yD _ _⟩)
def zh (w:World) (F:Nat -> Prop) (v:Value) (n:Nat):Prop:=∃ ad cap,v=.slice ad n cap /\ ∀ i,i < n -> ∃ g o,ad=some ⟨g,o,none⟩ /\ F g /\ w.cell? ⟨g,o+i,none⟩=some (.string xNm)
theorem zh.keeps {S F:Nat -> Prop} {w w':World} {v:Value} {n:Nat} (h:zh w F v n) (hk:Keeps S w w') (hS:∀ k,F k -> ¬ S k):zh w' F v n:=by
 obtain ⟨ad,cap,e,h1⟩:=h;refine ⟨ad,cap,e,fun i hi=>?_⟩
 obtain ⟨g,o,e1,hg,hc⟩:=h1 i hi;exact ⟨g,o,e1,hg,hk.cell (p:=⟨g,o+i,none⟩) (hS g hg) hc⟩
theorem zF3 {F:Nat -> Prop} (v:Value) (n:Nat) (i:Int) (w:World) (h:zh w F v n) :
 Calls Tryz.prog 138 #[v, .int .i64 i] w fun e w'=>e=.returned (.string (nameAt n i)) /\ Keeps zA w w':=by
 obtain ⟨ad,cap,rfl,h1⟩:=h;rcases (show i < 0 \/ 0 <= i by omega) with h0 | h0
 ·have e:nameAt n i=zq:=by unfold nameAt;rw [if_neg (by omega)]
  rw [e];go_enter Tryz.func138,Tryz.ntmps138
  exact J38 _
 ·obtain ⟨k,rfl⟩:∃ k:Nat,i=k:=⟨i.toNat,by omega⟩
  rcases xM k n with hk | hk
  ·have e:nameAt n k=xNm:=by unfold nameAt;rw [if_pos (by omega)]
   rw [e];obtain ⟨g,o,e1,_,hc⟩:=h1 k hk;subst e1;have i2:(k:Int) < n:=by omega
   have i3:¬ (n:Int) <= k:=by omega
   clear h1;go_enter Tryz.func138,Tryz.ntmps138
   exact J38 _
  ·have e:nameAt n k=zq:=by unfold nameAt;rw [if_neg (by omega)]
   rw [e];have i3:(n:Int) <= k:=by omega
   clear h1;go_enter Tryz.func138,Tryz.ntmps138
   exact J38 _
theorem zIj (u:Un) (k:Int) (w:World) (ca ta:Option Addr) (cc tc:Nat) :
 Calls Tryz.prog 123 #[.int .i64 k, .agg #[.slice ca u.cells.length cc, .int .i64 u.mutexes, .slice ta u.threads.length tc]] w fun e w'=>e=.returned (.int .i64 (zBR u k)) /\ Keeps zA w w':=by
 rcases (show k=2 \/ k=3 \/ k=4 \/ k=5 \/ k=6 \/ (¬ k=2 /\ ¬ k=3 /\ ¬ k=4 /\ ¬ k=5 /\ ¬ k=6) by omega) with rfl | rfl | rfl | rfl | rfl | ⟨h2,h3,h4,h5,h6⟩
 case' inr.inr.inr.inr.inr =>
  have e:zBR u k=u.threads.length:=by unfold zBR;rw [if_neg (by omega),if_neg (by omega)]
  rw [e]
 all_goals (
  go_enter Tryz.func123,Tryz.ntmps123
  go_wp2_with fail
  go_ret
  exact ⟨by first | rfl | simp [zBR],(yD _ _).alloc _⟩)
theorem zHu (num:Int) (nm:ByteArray) (n:Nat) (regs:Int) (w:World) (ad:Option Addr) (cap:Nat) :
 Calls Tryz.prog 121 #[.agg #[.int .i64 1, .int .i64 num, .string nm, .slice ad n cap], .int .i64 regs] w fun e w'=>e=.returned (.bool (zAK 1 num nm n regs)) /\ Keeps zA w w':=by
 have hx:zAK 1 num nm n regs=(decide (0 <= num)&&decide (num <= 2147483647)&&zZ nm&&n==0):=rfl;rcases uO (0 <= num) with h1 | h1
 ·rcases uO (num <= 2147483647) with h2 | h2
  ·cases hs:zZ nm
   ·have s1:=zBN hs
    have s2:=zBG hs;have e0:zAK 1 num nm n regs=false:=by rw [hx];simp [hs]
    exact J177 _
   ·have s1:=zBO hs
    rcases uO (n=0) with h3 | h3
    ·have e0:zAK 1 num nm n regs=true:=by rw [hx];simp [h1,h2,hs,h3]
     rw [e0];clear hx e0;subst h3;exact J26 _
    ·have h4:¬ (n:Int)=0:=by omega
     have e0:zAK 1 num nm n regs=false:=by rw [hx];simp [h3]
     exact J87 _
  ·have e0:zAK 1 num nm n regs=false:=by rw [hx];simp [h2]
   exact J177 _
 ·have e0:zAK 1 num nm n regs=false:=by rw [hx];simp [h1]
  exact J177 _
theorem zIO (num:Int) (nm:ByteArray) (n:Nat) (regs:Int) (w:World) (ad:Option Addr) (cap:Nat) :
 Calls Tryz.prog 121 #[.agg #[.int .i64 2, .int .i64 num, .string nm, .slice ad n cap], .int .i64 regs] w fun e w'=>e=.returned (.bool (zAK 2 num nm n regs)) /\ Keeps zA w w':=by
 have hx:zAK 2 num nm n regs=(decide (0 <= num)&&decide (num < regs)&&zZ nm&&n==0):=rfl;rcases uO (0 <= num) with h1 | h1
 ·rcases uO (num < regs) with h2 | h2
  ·cases hs:zZ nm
   ·have s1:=zBN hs
    have s2:=zBG hs;have e0:zAK 2 num nm n regs=false:=by rw [hx];simp [hs]
    exact J177 _
   ·have s1:=zBO hs
    rcases uO (n=0) with h3 | h3
    ·have e0:zAK 2 num nm n regs=true:=by rw [hx];simp [h1,h2,hs,h3]
     rw [e0];clear hx e0;subst h3;exact J26 _
    ·have h4:¬ (n:Int)=0:=by omega
     have e0:zAK 2 num nm n regs=false:=by rw [hx];simp [h3]
     exact J87 _
  ·have e0:zAK 2 num nm n regs=false:=by rw [hx];simp [h2]
   exact J177 _
 ·have e0:zAK 2 num nm n regs=false:=by rw [hx];simp [h1]
  exact J177 _
theorem zDL (k:Int):(k=3) \/ (k=4) \/ (¬ k=3 /\ ¬ k=4):=by omega
theorem zFZ {k num:Int} {nm:ByteArray} {n:Nat} {regs:Int} (h1:¬ k=1) (h2:¬ k=2) :
 zAK k num nm n regs=(decide (3 <= k)&&decide (k <= 17)&&num==0&&zZ nm&&n==(if k=3 \/ k=4 then 1 else 2)):=by
 unfold zAK;rw [if_neg h1,if_neg h2]
theorem zID (k num:Int) (nm:ByteArray) (n:Nat) (regs:Int) (w:World) (ad:Option Addr) (cap:Nat) (k1:¬ k=1) (k2:¬ k=2) (hb:zAK k num nm n regs=false) :
 Calls Tryz.prog 121 #[.agg #[.int .i64 k, .int .i64 num, .string nm, .slice ad n cap], .int .i64 regs] w fun e w'=>e=.returned (.bool false) /\ Keeps zA w w':=by
 rw [zFZ k1 k2] at hb;rcases uO (k < 1) with h1 | h1
 ·have k3:¬ k=3:=by omega
  have k4:¬ k=4:=by omega
  exact J41 _
 ·have h1':3 <= k:=by omega
  rw [uA h1'] at hb;rcases uO (17 < k) with h2 | h2
  ·have k3:¬ k=3:=by omega
   have k4:¬ k=4:=by omega
   exact J41 _
  ·have h2':k <= 17:=by omega
   rw [uA h2'] at hb;rcases uO (num=0) with h3 | h3
   ·subst h3
    cases hs:zZ nm
    ·have s1:=zBN hs
     have s2:=zBG hs;exact J88 _
    ·have s1:=zBO hs
     rw [hs] at hb;rcases zDL k with rfl | rfl | ⟨k3,k4⟩
     ·have h5:¬ n=1:=by simpa using hb
      have h6:¬ (n:Int)=1:=by omega
      exact J41 _
     ·have h5:¬ n=1:=by simpa using hb
      have h6:¬ (n:Int)=1:=by omega
      exact J41 _
     ·have h5:¬ n=2:=by simpa [k3,k4] using hb
      have h6:¬ (n:Int)=2:=by omega
      exact J41 _
   ·exact J88 _
theorem Ex.zC3 {regs:Int} {l:List Ex} {i:Nat} (h:i < l.length):Ex.zAM regs (l.drop i)=(l[i].may regs&&Ex.zAM regs (l.drop (i+1))):=by
 rw [drop_at h];rfl
theorem zHj:∀ (x:Ex) (regs:Int) (w:World) (F:Nat -> Prop) (ad:Option Addr) (cap:Nat),zO w F x.args ad -> x.cnt < 1000000000 →
 Calls Tryz.prog 121 #[exV x ad cap, .int .i64 regs] w fun e w'=>e=.returned (.bool (x.may regs)) /\ Keeps zA w w':=by
 refine Ex.ind (fun k num nm l ih regs w F ad cap h hb=>?_)
 have HL:Hid (zO w F l ad):=h;have IH:=yC ih;have hl:=Ex.zAx l;have hcn:Ex.cnt (.mk k num nm l)=1+Ex.zX l:=by simp [Ex.cnt]
 rw [hcn] at hb;have hmay:Ex.may regs (.mk k num nm l)=(zAK k num nm l.length regs&&Ex.zAM regs l):=by simp [Ex.may]
 rw [hmay];clear h ih hcn hmay;show Calls _ _ #[.agg #[.int .i64 k, .int .i64 num, .string nm, .slice ad l.length cap],_] _ _
 by_cases k1:k=1
 ·subst k1
  have e:(zAK 1 num nm l.length regs&&Ex.zAM regs l)=zAK 1 num nm l.length regs:=by
   cases l with
   | nil=>simp [Ex.zAM]
   | cons x r=>simp [zAK]
  rw [e];exact zHu num nm _ regs w ad cap
 by_cases k2:k=2
 ·subst k2
  have e:(zAK 2 num nm l.length regs&&Ex.zAM regs l)=zAK 2 num nm l.length regs:=by
   cases l with
   | nil=>simp [Ex.zAM]
   | cons x r=>simp [zAK]
  rw [e];exact zIO num nm _ regs w ad cap
 cases hlf:zAK k num nm l.length regs
 ·exact zID k num nm _ regs w ad cap k1 k2 hlf
 rw [zFZ k1 k2] at hlf;simp only [yU,yV,beq_iff_eq] at hlf;obtain ⟨⟨⟨⟨p1,p2⟩,p3⟩,p4⟩,p5⟩:=hlf;have s1:=zBO p4;have p6:¬ k < 1:=by omega
 have p7:¬ 17 < k:=by omega
 subst p3;have p8:(l.length:Int)=if k=3 \/ k=4 then 1 else 2:=by split <;> simp_all
 obtain ⟨nl,hnl⟩:=eX l.length;have HNL:=yC hnl;rw [<- hnl] at hl p8 ⊢;simp only [Bool.true_and];obtain ⟨res,hres⟩:=eX (Ex.zAM regs l);have HR:=yC hres;rw [<- hres];have hnb:nl < 3:=by split at p8 <;> omega
 clear p5 hres hnl p4;rcases zDL k with h3 | h3 | ⟨k3,k4⟩
 ·subst h3
  obtain rfl:nl=1:=by (have p9:(nl:Int)=1:=(by simpa using p8));omega
  have hb2:Ex.zX l < 1000000000:=by omega
  have HB:=yC hb2;clear p8 hb hb2 hl hnb;go_enter Tryz.func121,xe
  go_upto_region 1 with fail
  obtain ⟨b1,hb1⟩:=eX w.heap.size;have hr1:zC (w.alloc (.cells #[.int .i64 3, .int .i64 0, .string nm, .slice ad 1 cap] 65)) b1 [.int .i64 3, .int .i64 0, .string nm, .slice ad 1 cap]:=J189 _;have hk1:Keeps zA w (w.alloc (.cells #[.int .i64 3, .int .i64 0, .string nm, .slice ad 1 cap] 65)):=(yD _ _).alloc _;rw [<- hb1];generalize w.alloc (.cells #[.int .i64 3, .int .i64 0, .string nm, .slice ad 1 cap] 65)=w1 at hr1 hk1 ⊢;have R1:=yC hr1;have K1:=yC hk1;have c0:=hr1.cell (k:=0) (v:=.int .i64 3) rfl;exact J155 _
 ·subst h3
  obtain rfl:nl=1:=by (have p9:(nl:Int)=1:=(by simpa using p8));omega
  have hb2:Ex.zX l < 1000000000:=by omega
  have HB:=yC hb2;clear p8 hb hb2 hl hnb;go_enter Tryz.func121,xe
  go_upto_region 1 with fail
  obtain ⟨b1,hb1⟩:=eX w.heap.size;have hr1:zC (w.alloc (.cells #[.int .i64 4, .int .i64 0, .string nm, .slice ad 1 cap] 65)) b1 [.int .i64 4, .int .i64 0, .string nm, .slice ad 1 cap]:=J189 _;have hk1:Keeps zA w (w.alloc (.cells #[.int .i64 4, .int .i64 0, .string nm, .slice ad 1 cap] 65)):=(yD _ _).alloc _;rw [<- hb1];generalize w.alloc (.cells #[.int .i64 4, .int .i64 0, .string nm, .slice ad 1 cap] 65)=w1 at hr1 hk1 ⊢;have R1:=yC hr1;have K1:=yC hk1;have c0:=hr1.cell (k:=0) (v:=.int .i64 4) rfl;exact J155 _
 ·skip
  obtain rfl:nl=2:=by rw [if_neg (by omega)] at p8;omega
  have hb2:Ex.zX l < 1000000000:=by omega
  have HB:=yC hb2;clear p8 hb hb2 hl hnb;go_enter Tryz.func121,xe
  go_upto_region 1 with fail
  obtain ⟨b1,hb1⟩:=eX w.heap.size;have hr1:zC (w.alloc (.cells #[.int .i64 k, .int .i64 0, .string nm, .slice ad 2 cap] 65)) b1 [.int .i64 k, .int .i64 0, .string nm, .slice ad 2 cap]:=J189 _;have hk1:Keeps zA w (w.alloc (.cells #[.int .i64 k, .int .i64 0, .string nm, .slice ad 2 cap] 65)):=(yD _ _).alloc _;rw [<- hb1];generalize w.alloc (.cells #[.int .i64 k, .int .i64 0, .string nm, .slice ad 2 cap] 65)=w1 at hr1 hk1 ⊢;have R1:=yC hr1;have K1:=yC hk1;have c0:=hr1.cell (k:=0) (v:=.int .i64 k) rfl;have c1:=hr1.cell (k:=1) (v:=.int .i64 0) rfl;have c2:=hr1.cell (k:=2) (v:=.string nm) rfl;have c3:=hr1.cell (k:=3) (v:=.slice ad 2 cap) rfl;clear hr1 hk1 hb1;go_upto_region 13 with fail
  clear c0 c1 c2;go_loopw [6,7] (fun iv bv wr=>∃ i:Nat,i <= 2 /\ iv=.int .i64 i /\ Hid (Ex.zAM regs (l.drop i)=res) /\ Hid (Keeps zA w1 wr)) (fun iv _ _=>2 - (intOf iv).toNat)
  case atStart=>exact ⟨0,yK _,rfl,by show _=_;rw [yS,HR.out],yD _ _⟩
  case round =>
   obtain ⟨i,hi,rfl,HN,HK⟩:=hrel;have c3':=(R1.out.keeps HK.out (fun h=>h)).cell (k:=3) (v:=.slice ad 2 cap) rfl;clear c3;by_cases hlt:i < 2
   ·have i1:(0:Int) <= i:=by omega
    have i2:(i:Int) < 2:=by omega
    exact J7 _
   ·obtain rfl:i=2:=by omega
    have hd:=HN.out;rw [HNL.out,xQ] at hd;exact J48 _
end Go.Proofs.YtfokdllgnblamaaGreatDoor
