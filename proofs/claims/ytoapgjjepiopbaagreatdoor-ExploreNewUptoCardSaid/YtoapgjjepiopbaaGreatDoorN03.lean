/- Layer N: texts joined. -/
import Derived.Test.YtoapgjjepiopbaaGreatDoorN02
set_option linter.all false
namespace Go.Proofs.YtoapgjjepiopbaaGreatDoor
theorem J21 (P:Prop) (h:P:=by
 go_enter Tryz.func148,Tryz.ntmps148
 go_wp2_with fail
 go_ret
 exact ⟨by first | rfl | simp,(Keeps.refl _ _).alloc _⟩):P:=h
theorem J32 (P:Prop) (h:P:=by
 go_wp2_with fail
 go_ret
 exact ⟨rfl,Keeps.refl _ _⟩):P:=h
theorem J37 (P:Prop) (h:P:=by
 clear hb;go_enter Tryz.func148,Tryz.ntmps148
 go_wp2_with fail
 go_ret
 exact ⟨rfl,(Keeps.refl _ _).alloc _⟩):P:=h
theorem J74 (P:Prop) (h:P:=by
 have H3:=Lib.hid h3;rw [e0];clear hx e0;go_enter Tryz.func148,Tryz.ntmps148
 go_wp2_with fail
 go_ret
 exact ⟨by have:=H3.out;first | rfl | (simp;omega),(Keeps.refl _ _).alloc _⟩):P:=h
theorem J75 (P:Prop) (h:P:=by
 clear hb;rcases zCl k with rfl | rfl | ⟨k3,k4⟩
 all_goals (
  go_enter Tryz.func148,Tryz.ntmps148
  go_wp2_with fail
  go_ret
  exact ⟨rfl,(Keeps.refl _ _).alloc _⟩)):P:=h
theorem J92 (P:Prop) (h:P:=by
 go_wp2_with fail
 go_ret
 exact ⟨by simp [hk],(Keeps.refl _ _).alloc _⟩):P:=h
theorem J138 (P:Prop) (h:P:=by
 rw [e0];clear hx e0;exact J21 _):P:=h
def xNm:ByteArray:=⟨#[120]⟩
def zn:ByteArray:=⟨#[]⟩
def zFw (s:ByteArray):Bool:=s.data.toList==[120]
def nameAt (n i:Int):ByteArray:=if 0 <= i /\ i < n then xNm else zn
theorem zEe (n i:Int):zFw (nameAt n i)=(decide (0 <= i)&&decide (i < n)):=by
 unfold nameAt;split
 ·rename_i h;simp [zFw,xNm,h.1,h.2]
 ·rename_i h
  by_cases h0:0 <= i
  ·have:¬ i < n:=fun e=>h ⟨h0,e⟩
   simp [zFw,zn,this]
  ·simp [zFw,zn,h0]
theorem zGU:zV zn=true:=rfl
theorem zMO:zFw zn=false:=rfl
mutual
def Ex.named (regs:Int):Ex -> Ex
 | .mk k num nm l=>.mk k (if k=2 then 0 else num) (if k=2 then (if zV nm then nameAt regs num else zn) else nm) (Ex.zQ regs l)
def Ex.zQ (regs:Int):List Ex -> List Ex
 | []=>[]
 | x :: r=>Ex.named regs x :: Ex.zQ regs r
end
theorem Ex.zAL (regs:Int) (l:List Ex):Ex.zQ regs l=l.map (Ex.named regs):=by
 induction l with
 | nil=>rfl
 | cons x r ih=>simp [Ex.zQ,ih]
def zAX (k num:Int) (nm:ByteArray) (n:Nat):Bool :=
 if k=1 then decide (0 <= num)&&decide (num <= 2147483647)&&zV nm&&n==0
 else if k=2 then zFw nm&&num==0&&n==0
 else decide (3 <= k)&&decide (k <= 17)&&n==(if k=3 \/ k=4 then 1 else 2)&&num==0&&zV nm
mutual
def Ex.zCa:Ex -> Bool
 | .mk k num nm l=>zAX k num nm l.length&&Ex.zCf l
def Ex.zCf:List Ex -> Bool
 | []=>true
 | x :: r=>Ex.zCa x&&Ex.zCf r
end
theorem zH8 (k num regs:Int) (nm:ByteArray) (n:Nat) :
 zAX k (if k=2 then 0 else num) (if k=2 then (if zV nm then nameAt regs num else zn) else nm) n=zx k num nm n regs:=by
 unfold zAX zx;by_cases h1:k=1
 ·subst h1;simp
 ·by_cases h2:k=2
  ·subst h2
   by_cases h3:zV nm=true
   ·simp [h3,zEe]
   ·simp [h3,zMO]
  ·simp only [h1,h2,if_false]
   cases decide (3 <= k) <;> cases decide (k <= 17) <;> cases (num==0) <;> cases zV nm <;> simp
mutual
theorem Ex.zEl (regs:Int):(x:Ex) -> Ex.zCa (x.named regs)=x.may regs
 | .mk k num nm l=>by
   have h:=Ex.zD2 regs l;have hl:(Ex.zQ regs l).length=l.length:=by rw [Ex.zAL];simp
   simp only [Ex.named,Ex.zCa,Ex.may,hl,h,zH8]
theorem Ex.zD2 (regs:Int):(l:List Ex) -> Ex.zCf (Ex.zQ regs l)=Ex.zq regs l
 | []=>rfl
 | x :: r=>by
   have h1:=Ex.zEl regs x;have h2:=Ex.zD2 regs r;simp only [Ex.zQ,Ex.zCf,Ex.zq,h1,h2]
end
mutual
theorem Ex.zCZ (regs:Int):(x:Ex) -> (x.named regs).cnt=x.cnt
 | .mk k num nm l=>by
   have h:=Ex.zBF regs l;simp only [Ex.named,Ex.cnt,h]
theorem Ex.zBF (regs:Int):(l:List Ex) -> Ex.zM (Ex.zQ regs l)=Ex.zM l
 | []=>rfl
 | x :: r=>by
   have h1:=Ex.zCZ regs x;have h2:=Ex.zBF regs r;simp only [Ex.zQ,Ex.zM,h1,h2]
end
mutual
theorem Ex.zGE (regs:Int):(x:Ex) -> (x.named regs).dep=x.dep
 | .mk k num nm l=>by
   have h:=Ex.zFO regs l;simp only [Ex.named,Ex.dep,h]
theorem Ex.zFO (regs:Int):(l:List Ex) -> Ex.zB9 (Ex.zQ regs l)=Ex.zB9 l
 | []=>rfl
 | x :: r=>by
   have h1:=Ex.zGE regs x;have h2:=Ex.zFO regs r;simp only [Ex.zQ,Ex.zB9,h1,h2]
end
theorem Ex.zDF (regs:Int) (x:Ex):(x.named regs).there=x.there:=by
 cases x with
 | mk k num nm l =>
   simp only [Ex.named,Ex.there,Ex.zAL];cases l <;> rfl
theorem Ex.zHs (regs:Int) (x:Ex):(x.named regs).none=x.none:=by
 cases x with
 | mk k num nm l =>
   simp only [Ex.named,Ex.none,Ex.zAL];by_cases h:k=0
   ·subst h;cases l <;> simp
   ·have:(k==0)=false:=by simpa using h
    simp [this]
theorem Ex.zHw (regs:Int) (x:Ex):(x.named regs).kind=x.kind:=by cases x;rfl
def zBh (k reg obj:Int):Int:=if ((fields k).reg=false /\ reg ≠ 0) \/ ((fields k).name=false /\ obj ≠ 0) then 0 else k
def stName (u:Un) (k obj:Int):ByteArray :=
 if (fields k).name then nameAt (zAv u k) obj else zn
mutual
def Ac.named (u:Un) (regs:Int):Ac -> St
 | .mk k reg obj ex count t e=>.mk (zBh k reg obj) (if (fields k).reg then nameAt regs reg else zn) (stName u k obj) (ex.named regs) count (Ac.zQ u regs t) (Ac.zQ u regs e)
def Ac.zQ (u:Un) (regs:Int):List Ac -> List St
 | []=>[]
 | x :: r=>Ac.named u regs x :: Ac.zQ u regs r
end
theorem Ac.zAL (u:Un) (regs:Int) (l:List Ac):Ac.zQ u regs l=l.map (Ac.named u regs):=by
 induction l with
 | nil=>rfl
 | cons x r ih=>simp [Ac.zQ,ih]
def zBi (s:ByteArray) (must:Bool):Bool:=must&&zFw s || !must&&zV s
def zFf (k:Int) (reg name:ByteArray) (ex:Ex) (count:Int) (nt ne:Nat):Bool :=
 decide (1 <= k /\ k <= 11)&&zBi reg (fields k).reg&&zBi name (fields k).name&&((fields k).ex&&ex.kind != 0 || !(fields k).ex&&ex.none) &&
 (count==0 || (fields k).count&&decide (0 < count)&&decide (count <= 1000))&&((fields k).thn || nt==0)&&((fields k).els || ne==0)
mutual
def St.form:St -> Bool
 | .mk k reg name ex count t e=>zFf k reg name ex count t.length e.length&&(!ex.there || ex.zCa)&&St.zAl t&&St.zAl e
def St.zAl:List St -> Bool
 | []=>true
 | x :: r=>St.form x&&St.zAl r
end
mutual
def St.cnt:St -> Nat
 | .mk _ _ _ ex _ t e=>1+(if ex.there then ex.cnt else 0)+St.zM t+St.zM e
def St.zM:List St -> Nat
 | []=>0
 | x :: r=>St.cnt x+St.zM r
end
mutual
def St.deep (d:Nat):St -> Nat
 | .mk _ _ _ ex _ t e=>max (max d (if ex.there then ex.dep else 0)) (max (St.zk (d+1) t) (St.zk (d+1) e))
def St.zk (d:Nat):List St -> Nat
 | []=>0
 | x :: r=>max (St.deep d x) (St.zk d r)
end
theorem zAk {regs:Int} {x:Ex} (h:x.may regs=true):x.kind ≠ 0:=by
 cases x with
 | mk k num nm l =>
   intro e
   have e':k=0:=e;subst e';simp [Ex.may,zx] at h
theorem zDM {k:Int} (h:¬ (1 <= k /\ k <= 11)):fields k=⟨false,false,false,false,false,false⟩:=by
 unfold fields;repeat' (first | rw [if_neg (by omega)])
theorem zId (u:Un) (regs k reg obj:Int) (ex:Ex) (count:Int) (nt ne:Nat) :
 (zFf (zBh k reg obj) (if (fields k).reg then nameAt regs reg else zn) (stName u k obj) (ex.named regs) count nt ne&&(!ex.there || ex.may regs))=zAr u regs k reg obj ex count nt ne:=by
 by_cases hk:1 <= k /\ k <= 11
 ·by_cases hz:((fields k).reg=false /\ reg ≠ 0) \/ ((fields k).name=false /\ obj ≠ 0)
  ·have e1:zBh k reg obj=0:=if_pos hz
   have e2:zAr u regs k reg obj ex count nt ne=false:=by
    unfold zAr;rcases hz with ⟨h1,h2⟩ | ⟨h1,h2⟩
    ·have:(reg==0)=false:=by simpa using h2
     simp [h1,this]
    ·have:(obj==0)=false:=by simpa using h2
     simp [h1,this]
   rw [e1,e2];simp [zFf]
  ·have e1:zBh k reg obj=k:=if_neg hz
   rw [e1]
   have hr:zBi (if (fields k).reg then nameAt regs reg else zn) (fields k).reg=(if (fields k).reg then decide (0 <= reg)&&decide (reg < regs) else reg==0):=by
    cases h:(fields k).reg
    ·have:reg=0:=Classical.byContradiction fun e=>hz (.inl ⟨h,e⟩)
     simp [zBi,zGU,this]
    ·simp [zBi,zEe]
   have hn:zBi (stName u k obj) (fields k).name=(if (fields k).name then decide (0 <= obj)&&decide (obj < zAv u k) else obj==0):=by
    unfold stName;cases h:(fields k).name
    ·have:obj=0:=Classical.byContradiction fun e=>hz (.inr ⟨h,e⟩)
     simp [zBi,zGU,this]
    ·simp [zBi,zEe]
   have hc:(count==0 || (fields k).count&&decide (0 < count)&&decide (count <= 1000))=(if (fields k).count then decide (0 <= count)&&decide (count <= 1000) else count==0):=by
    cases (fields k).count
    ·simp
    ·by_cases h0:count=0
     ·subst h0;simp
     ·have h1:(count==0)=false:=by simpa using h0
      have h2:decide (0 < count)=decide (0 <= count):=by rw [decide_eq_decide];omega
      simp [h1,h2]
   have hx:(((fields k).ex&&(ex.named regs).kind != 0 || !(fields k).ex&&(ex.named regs).none)&&(!ex.there || ex.may regs))=(if (fields k).ex then ex.may regs else ex.none):=by
    rw [Ex.zHw,Ex.zHs];cases (fields k).ex
    ·cases hn:ex.none
     ·simp
     ·have:ex.there=false:=by
       cases ex with
       | mk a b c l =>
         simp only [Ex.none,Bool.and_eq_true,beq_iff_eq,List.isEmpty_iff] at hn;simp [Ex.there,hn.1.1.1,hn.2]
      simp [this]
    ·cases hm:ex.may regs
     ·cases ht:ex.there
      ·have:ex.kind=0:=by
        cases ex with
        | mk a b c l=>simp [Ex.there] at ht;exact ht.1
       simp [this]
      ·simp
     ·have:=zAk hm
      have h1:(ex.kind != 0)=true:=by simpa using this
      simp [h1]
   unfold zFf zAr;rw [hr,hn,hc,<- hx];have hk1:decide (1 <= k /\ k <= 11)=true:=decide_eq_true hk;simp only [hk1,decide_eq_true hk.1,decide_eq_true hk.2,Bool.true_and];generalize (if (fields k).reg then decide (0 <= reg)&&decide (reg < regs) else reg==0)=A;generalize (if (fields k).name then decide (0 <= obj)&&decide (obj < zAv u k) else obj==0)=B;generalize ((fields k).ex&&(ex.named regs).kind != 0 || !(fields k).ex&&(ex.named regs).none)=C;generalize (if (fields k).count then decide (0 <= count)&&decide (count <= 1000) else count==0)=D;generalize ((fields k).thn || nt==0)=E;generalize ((fields k).els || ne==0)=F;generalize (!ex.there || ex.may regs)=G;cases A <;> cases B <;> cases C <;> cases D <;> cases E <;> cases F <;> cases G <;> rfl
 ·have e2:zAr u regs k reg obj ex count nt ne=false:=by
   unfold zAr
   have:(decide (1 <= k)&&decide (k <= 11))=false:=by
    by_cases h1:1 <= k
    ·have:¬ k <= 11:=fun e=>hk ⟨h1,e⟩
     simp [this]
    ·simp [h1]
   rw [this];simp
  have e1:¬ (1 <= zBh k reg obj /\ zBh k reg obj <= 11):=by
   unfold zBh;split
   ·omega
   ·exact hk
  rw [e2];unfold zFf;rw [decide_eq_false e1];simp
mutual
theorem Ac.zIH (u:Un) (regs:Int):(x:Ac) -> (x.named u regs).form=x.may u regs
 | .mk k reg obj ex count t e=>by
   have h1:=Ac.zCJ u regs t;have h2:=Ac.zCJ u regs e;have hl1:(Ac.zQ u regs t).length=t.length:=by rw [Ac.zAL];simp
   have hl2:(Ac.zQ u regs e).length=e.length:=by rw [Ac.zAL];simp
   simp only [Ac.named,St.form,Ac.may,hl1,hl2,h1,h2,Ex.zDF,Ex.zEl,zId]
theorem Ac.zCJ (u:Un) (regs:Int):(l:List Ac) -> St.zAl (Ac.zQ u regs l)=Ac.zq u regs l
 | []=>rfl
 | x :: r=>by
   have h1:=Ac.zIH u regs x;have h2:=Ac.zCJ u regs r;simp only [Ac.zQ,St.zAl,Ac.zq,h1,h2]
end
mutual
theorem Ac.zCZ (u:Un) (regs:Int):(x:Ac) -> (x.named u regs).cnt=x.cnt
 | .mk k reg obj ex count t e=>by
   have h1:=Ac.zBF u regs t;have h2:=Ac.zBF u regs e;simp only [Ac.named,St.cnt,Ac.cnt,h1,h2,Ex.zDF,Ex.zCZ]
theorem Ac.zBF (u:Un) (regs:Int):(l:List Ac) -> St.zM (Ac.zQ u regs l)=Ac.zM l
 | []=>rfl
 | x :: r=>by
   have h1:=Ac.zCZ u regs x;have h2:=Ac.zBF u regs r;simp only [Ac.zQ,St.zM,Ac.zM,h1,h2]
end
mutual
theorem Ac.zIB (u:Un) (regs:Int) (d:Nat):(x:Ac) -> (x.named u regs).deep d=x.deep d
 | .mk k reg obj ex count t e=>by
   have h1:=Ac.zCL u regs (d+1) t;have h2:=Ac.zCL u regs (d+1) e;simp only [Ac.named,St.deep,Ac.deep,h1,h2,Ex.zDF,Ex.zGE]
theorem Ac.zCL (u:Un) (regs:Int) (d:Nat):(l:List Ac) -> St.zk d (Ac.zQ u regs l)=Ac.zk d l
 | []=>rfl
 | x :: r=>by
   have h1:=Ac.zIB u regs d x;have h2:=Ac.zCL u regs d r;simp only [Ac.zQ,St.zk,Ac.zk,h1,h2]
end
end Go.Proofs.YtoapgjjepiopbaaGreatDoor
namespace Go.Proofs.YtoapgjjepiopbaaGreatDoor
open Go.RowKit
theorem zIY (s:ByteArray):zV s=true ↔ s=zn:=by
 constructor
 ·intro h
  obtain ⟨a⟩:=s;have h1:a.size=0:=by simpa [zV,ByteArray.size] using h
  have:a=#[]:=Array.eq_empty_of_size_eq_zero h1
  subst this;rfl
 ·rintro rfl;rfl
theorem zAm {s:ByteArray} (h:zV s=true):s.toList=[]:=by
 rw [(zIY s).1 h,ByteArray.toList_eq];rfl
theorem zAj {s:ByteArray} (h:zV s=false):¬ s.toList=[]:=by
 intro e
 have:s=zn:=by
  obtain ⟨a⟩:=s;rw [ByteArray.toList_eq] at e;have:a=#[]:=by simpa using e
  rw [this];rfl
 rw [this,zGU] at h;cases h
theorem zAc {s:ByteArray} (h:zV s=false):s.toList.isEmpty=false:=by
 have:=zAj h
 simpa using this
theorem zHy (x:Ex) (w:World) (ad:Option Addr) (cap:Nat) :
 Calls Tryz.prog 149 #[exV x ad cap] w fun e w'=>e=.returned (.bool x.none) /\ Keeps zA w w':=by
 obtain ⟨k,num,nm,l⟩:=x;show Calls _ _ #[.agg #[.int .i64 k, .int .i64 num, .string nm, .slice ad l.length cap]] _ _
 have hx:Ex.none (.mk k num nm l)=(k==0&&num==0&&zV nm&&l.isEmpty):=rfl;rw [hx];clear hx;rcases Classical.em (k=0) with hk | hk
 ·rcases Classical.em (num=0) with hn | hn
  ·cases hs:zV nm
   ·have h1:=zAj hs
    have h2:=zAc hs;go_enter Tryz.func149,Tryz.ntmps149
    go_wp2_with fail
    go_ret
    exact ⟨by simp,(Keeps.refl _ _).alloc _⟩
   ·have h1:=zAm hs
    rcases Nat.eq_zero_or_pos l.length with hl | hl
    ·have e0:l.isEmpty=true:=by cases l <;> simp_all
     rw [hl,e0];go_enter Tryz.func149,Tryz.ntmps149
     go_wp2_with fail
     go_ret
     exact ⟨by simp [hk,hn],(Keeps.refl _ _).alloc _⟩
    ·have e0:l.isEmpty=false:=by cases l <;> simp_all
     have e1:¬ ((l.length:Nat):Int)=0:=by omega
     have e2:¬ l=[]:=by intro e;subst e;simp at hl
     rw [e0];go_enter Tryz.func149,Tryz.ntmps149
     go_wp2_with fail
     go_ret
     exact ⟨by simp [e2],(Keeps.refl _ _).alloc _⟩
  ·have e1:(num==0)=false:=by simpa using hn
   go_enter Tryz.func149,Tryz.ntmps149
   go_wp2_with fail
   go_ret
   exact ⟨by simp [hn],(Keeps.refl _ _).alloc _⟩
 ·have e1:(k==0)=false:=by simpa using hk
  go_enter Tryz.func149,Tryz.ntmps149
  exact J92 _
theorem zEo (x:Ex) (w:World) (ad:Option Addr) (cap:Nat) :
 Calls Tryz.prog 151 #[exV x ad cap] w fun e w'=>e=.returned (.bool x.there) /\ Keeps zA w w':=by
 obtain ⟨k,num,nm,l⟩:=x;show Calls _ _ #[.agg #[.int .i64 k, .int .i64 num, .string nm, .slice ad l.length cap]] _ _
 have hx:Ex.there (.mk k num nm l)=(k != 0 || !l.isEmpty):=rfl;rw [hx];clear hx;rcases Classical.em (k=0) with hk | hk
 ·rcases Nat.eq_zero_or_pos l.length with hl | hl
  ·have e0:l.isEmpty=true:=by cases l <;> simp_all
   rw [hl,e0];go_enter Tryz.func151,Tryz.ntmps151
   exact J92 _
  ·have e0:l.isEmpty=false:=by cases l <;> simp_all
   have e1:(0:Int) < l.length:=by omega
   have e2:¬ l=[]:=by intro e;subst e;simp at hl
   rw [e0];go_enter Tryz.func151,Tryz.ntmps151
   go_wp2_with fail
   go_ret
   exact ⟨by simp,(Keeps.refl _ _).alloc _⟩
 ·have e1:(k==0)=false:=by simpa using hk
  go_enter Tryz.func151,Tryz.ntmps151
  exact J92 _
def flV (f:Fl):Value:=.tuple #[.bool f.reg, .bool f.name, .bool f.ex, .bool f.count, .bool f.thn, .bool f.els]
theorem zGg {fn:Func} {t u v x y z:Tmp} (h:fn.results=#[.tmp t, .tmp u, .tmp v, .tmp x, .tmp y, .tmp z]) (tmps:Array Value) (P:Program) (w:World) :
 (results fn tmps).run P w=.ok (.tuple #[tmps.getD t undef,tmps.getD u undef,tmps.getD v undef,tmps.getD x undef,tmps.getD y undef,tmps.getD z undef]) w:=by
 simp [results,h]
theorem zDu (k:Int):k=1 \/ k=2 \/ k=3 \/ k=4 \/ k=5 \/ k=6 \/ k=7 \/ k=8 \/ k=9 \/ k=10 \/ k=11 \/ ¬ (1 <= k /\ k <= 11):=by omega
theorem zAO (k:Int) (w:World) :
 Calls Tryz.prog 147 #[.int .i64 k] w fun e w'=>e=.returned (flV (fields k)) /\ Keeps zA w w':=by
 rcases zDu k with rfl | rfl | rfl | rfl | rfl | rfl | rfl | rfl | rfl | rfl | rfl | h
 case' inr.inr.inr.inr.inr.inr.inr.inr.inr.inr.inr =>
  rw [zDM h];have n1:¬ k=1:=by omega
  have n2:¬ k=2:=by omega
  have n3:¬ k=3:=by omega
  have n4:¬ k=4:=by omega
  have n5:¬ k=5:=by omega
  have n6:¬ k=6:=by omega
  have n7:¬ k=7:=by omega
  have n8:¬ k=8:=by omega
  have n9:¬ k=9:=by omega
  have n10:¬ k=10:=by omega
  have n11:¬ k=11:=by omega
  clear h
 all_goals (
  go_enter Tryz.func147,Tryz.ntmps147
  go_wp2_with fail
  refine bodyPost_ret (zGg rfl _ _ _) rfl ?_
  exact ⟨rfl,Keeps.refl _ _⟩)
def zBp (k:Int):Bool:=k==1 || k==2 || k==4
def zBJ (k:Int):Int:=if 2 <= k /\ k <= 4 then 1 else if k=5 \/ k=6 then 2 else if k=7 \/ k=8 then 3 else 0
theorem zIO (k:Int) (w:World) :
 Calls Tryz.prog 144 #[.int .i64 k] w fun e w'=>e=.returned (.bool (zBp k)) /\ Keeps zA w w':=by
 rcases (show k=1 \/ k=2 \/ k=4 \/ (¬ k=1 /\ ¬ k=2 /\ ¬ k=4) by omega) with rfl | rfl | rfl | ⟨h1,h2,h4⟩
 all_goals (
  go_enter Tryz.func144,Tryz.ntmps144
  go_wp2_with fail
  go_ret
  exact ⟨by simp [zBp, *],Keeps.refl _ _⟩)
theorem zJu (k:Int) (w:World) :
 Calls Tryz.prog 146 #[.int .i64 k] w fun e w'=>e=.returned (.int .i64 (zBJ k)) /\ Keeps zA w w':=by
 rcases (show k=2 \/ k=3 \/ k=4 \/ k=5 \/ k=6 \/ k=7 \/ k=8 \/ (¬ k=2 /\ ¬ k=3 /\ ¬ k=4 /\ ¬ k=5 /\ ¬ k=6 /\ ¬ k=7 /\ ¬ k=8) by omega) with rfl | rfl | rfl | rfl | rfl | rfl | rfl | ⟨h2,h3,h4,h5,h6,h7,h8⟩;case' inr.inr.inr.inr.inr.inr.inr=>have e:zBJ k=0:=by unfold zBJ;repeat' (first | rw [if_neg (by omega)])
 case' inr.inr.inr.inr.inr.inr.inr=>rw [e]
 all_goals (
  go_enter Tryz.func146,Tryz.ntmps146
  go_wp2_with fail
  go_ret
  exact ⟨rfl,Keeps.refl _ _⟩)
def zX (w:World) (F:Nat -> Prop) (v:Value) (n:Nat):Prop:=∃ ad cap,v=.slice ad n cap /\ ∀ i,i < n -> ∃ g o,ad=some ⟨g,o,none⟩ /\ F g /\ w.cell? ⟨g,o+i,none⟩=some (.string xNm)
theorem zX.keeps {S F:Nat -> Prop} {w w':World} {v:Value} {n:Nat} (h:zX w F v n) (hk:Keeps S w w') (hS:∀ k,F k -> ¬ S k):zX w' F v n:=by
 obtain ⟨ad,cap,e,h1⟩:=h;refine ⟨ad,cap,e,fun i hi=>?_⟩
 obtain ⟨g,o,e1,hg,hc⟩:=h1 i hi;exact ⟨g,o,e1,hg,hk.cell (p:=⟨g,o+i,none⟩) (hS g hg) hc⟩
theorem zFG {F:Nat -> Prop} (v:Value) (n:Nat) (i:Int) (w:World) (h:zX w F v n) :
 Calls Tryz.prog 145 #[v, .int .i64 i] w fun e w'=>e=.returned (.string (nameAt n i)) /\ Keeps zA w w':=by
 obtain ⟨ad,cap,rfl,h1⟩:=h;rcases (show i < 0 \/ 0 <= i by omega) with h0 | h0
 ·have e:nameAt n i=zn:=by unfold nameAt;rw [if_neg (by omega)]
  rw [e];go_enter Tryz.func145,Tryz.ntmps145
  exact J32 _
 ·obtain ⟨k,rfl⟩:∃ k:Nat,i=k:=⟨i.toNat,by omega⟩
  rcases Nat.lt_or_ge k n with hk | hk
  ·have e:nameAt n k=xNm:=by unfold nameAt;rw [if_pos (by omega)]
   rw [e];obtain ⟨g,o,e1,_,hc⟩:=h1 k hk;subst e1;have i2:(k:Int) < n:=by omega
   have i3:¬ (n:Int) <= k:=by omega
   clear h1;go_enter Tryz.func145,Tryz.ntmps145
   exact J32 _
  ·have e:nameAt n k=zn:=by unfold nameAt;rw [if_neg (by omega)]
   rw [e];have i3:(n:Int) <= k:=by omega
   clear h1;go_enter Tryz.func145,Tryz.ntmps145
   exact J32 _
theorem zH1 (u:Un) (k:Int) (w:World) (ca ta:Option Addr) (cc tc:Nat) :
 Calls Tryz.prog 150 #[.int .i64 k, .agg #[.slice ca u.cells.length cc, .int .i64 u.mutexes, .slice ta u.threads.length tc]] w fun e w'=>e=.returned (.int .i64 (zAv u k)) /\ Keeps zA w w':=by
 rcases (show k=2 \/ k=3 \/ k=4 \/ k=5 \/ k=6 \/ (¬ k=2 /\ ¬ k=3 /\ ¬ k=4 /\ ¬ k=5 /\ ¬ k=6) by omega) with rfl | rfl | rfl | rfl | rfl | ⟨h2,h3,h4,h5,h6⟩
 case' inr.inr.inr.inr.inr =>
  have e:zAv u k=u.threads.length:=by unfold zAv;rw [if_neg (by omega),if_neg (by omega)]
  rw [e]
 all_goals (
  go_enter Tryz.func150,Tryz.ntmps150
  go_wp2_with fail
  go_ret
  exact ⟨by first | rfl | simp [zAv],(Keeps.refl _ _).alloc _⟩)
theorem zHE (num:Int) (nm:ByteArray) (n:Nat) (regs:Int) (w:World) (ad:Option Addr) (cap:Nat) :
 Calls Tryz.prog 148 #[.agg #[.int .i64 1, .int .i64 num, .string nm, .slice ad n cap], .int .i64 regs] w fun e w'=>e=.returned (.bool (zx 1 num nm n regs)) /\ Keeps zA w w':=by
 have hx:zx 1 num nm n regs=(decide (0 <= num)&&decide (num <= 2147483647)&&zV nm&&n==0):=rfl;rcases Classical.em (0 <= num) with h1 | h1
 ·rcases Classical.em (num <= 2147483647) with h2 | h2
  ·cases hs:zV nm
   ·have s1:=zAj hs
    have s2:=zAc hs;have e0:zx 1 num nm n regs=false:=by rw [hx];simp [hs]
    exact J138 _
   ·have s1:=zAm hs
    rcases Classical.em (n=0) with h3 | h3
    ·have e0:zx 1 num nm n regs=true:=by rw [hx];simp [h1,h2,hs,h3]
     rw [e0];clear hx e0;subst h3;exact J21 _
    ·have h4:¬ (n:Int)=0:=by omega
     have e0:zx 1 num nm n regs=false:=by rw [hx];simp [h3]
     exact J74 _
  ·have e0:zx 1 num nm n regs=false:=by rw [hx];simp [h2]
   exact J138 _
 ·have e0:zx 1 num nm n regs=false:=by rw [hx];simp [h1]
  exact J138 _
theorem zHI (num:Int) (nm:ByteArray) (n:Nat) (regs:Int) (w:World) (ad:Option Addr) (cap:Nat) :
 Calls Tryz.prog 148 #[.agg #[.int .i64 2, .int .i64 num, .string nm, .slice ad n cap], .int .i64 regs] w fun e w'=>e=.returned (.bool (zx 2 num nm n regs)) /\ Keeps zA w w':=by
 have hx:zx 2 num nm n regs=(decide (0 <= num)&&decide (num < regs)&&zV nm&&n==0):=rfl;rcases Classical.em (0 <= num) with h1 | h1
 ·rcases Classical.em (num < regs) with h2 | h2
  ·cases hs:zV nm
   ·have s1:=zAj hs
    have s2:=zAc hs;have e0:zx 2 num nm n regs=false:=by rw [hx];simp [hs]
    exact J138 _
   ·have s1:=zAm hs
    rcases Classical.em (n=0) with h3 | h3
    ·have e0:zx 2 num nm n regs=true:=by rw [hx];simp [h1,h2,hs,h3]
     rw [e0];clear hx e0;subst h3;exact J21 _
    ·have h4:¬ (n:Int)=0:=by omega
     have e0:zx 2 num nm n regs=false:=by rw [hx];simp [h3]
     exact J74 _
  ·have e0:zx 2 num nm n regs=false:=by rw [hx];simp [h2]
   exact J138 _
 ·have e0:zx 2 num nm n regs=false:=by rw [hx];simp [h1]
  exact J138 _
theorem zCl (k:Int):(k=3) \/ (k=4) \/ (¬ k=3 /\ ¬ k=4):=by omega
theorem zEr {k num:Int} {nm:ByteArray} {n:Nat} {regs:Int} (h1:¬ k=1) (h2:¬ k=2) :
 zx k num nm n regs=(decide (3 <= k)&&decide (k <= 17)&&num==0&&zV nm&&n==(if k=3 \/ k=4 then 1 else 2)):=by
 unfold zx;rw [if_neg h1,if_neg h2]
theorem zGy (k num:Int) (nm:ByteArray) (n:Nat) (regs:Int) (w:World) (ad:Option Addr) (cap:Nat) (k1:¬ k=1) (k2:¬ k=2) (hb:zx k num nm n regs=false) :
 Calls Tryz.prog 148 #[.agg #[.int .i64 k, .int .i64 num, .string nm, .slice ad n cap], .int .i64 regs] w fun e w'=>e=.returned (.bool false) /\ Keeps zA w w':=by
 rw [zEr k1 k2] at hb;rcases Classical.em (k < 1) with h1 | h1
 ·have k3:¬ k=3:=by omega
  have k4:¬ k=4:=by omega
  exact J37 _
 ·have h1':3 <= k:=by omega
  rw [decide_eq_true h1'] at hb;rcases Classical.em (17 < k) with h2 | h2
  ·have k3:¬ k=3:=by omega
   have k4:¬ k=4:=by omega
   exact J37 _
  ·have h2':k <= 17:=by omega
   rw [decide_eq_true h2'] at hb;rcases Classical.em (num=0) with h3 | h3
   ·subst h3
    cases hs:zV nm
    ·have s1:=zAj hs
     have s2:=zAc hs;exact J75 _
    ·have s1:=zAm hs
     rw [hs] at hb;rcases zCl k with rfl | rfl | ⟨k3,k4⟩
     ·have h5:¬ n=1:=by simpa using hb
      have h6:¬ (n:Int)=1:=by omega
      exact J37 _
     ·have h5:¬ n=1:=by simpa using hb
      have h6:¬ (n:Int)=1:=by omega
      exact J37 _
     ·have h5:¬ n=2:=by simpa [k3,k4] using hb
      have h6:¬ (n:Int)=2:=by omega
      exact J37 _
   ·exact J75 _
end Go.Proofs.YtoapgjjepiopbaaGreatDoor
