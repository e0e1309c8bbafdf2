/- Layer S: texts joined. -/
import Derived.Test.YtfjgcedkfnmdkaaGreatDoorS49
set_option linter.all false
set_option maxHeartbeats 8000000
set_option maxRecDepth 8000
namespace Go.Proofs.YtfjgcedkfnmdkaaGreatDoor
open Go.RowKit
abbrev yh:=@Keeps.alloc
theorem J29 (P:Prop) (h:P:=by
 refine ⟨?_,?_,?_,?_,?_,?_,?_,?_,?_,?_,trivial⟩ <;> (intro vs gs W Q' hR hd hK;have HRW:Keeps zA w5 W:=((zJ w5).drew).zB hR;have u0:=c0 W HRW;have v0:=d0 W HRW;have u1:=c1 W HRW;have v1:=d1 W HRW;have u2:=c2 W HRW;have v2:=d2 W HRW;have u3:=c3 W HRW;have v3:=d3 W HRW;have u4:=c4 W HRW;have v4:=d4 W HRW;simp only [zDE,zCM,zFK,zI,tz,Option.bind,Act.put] at hd hK ⊢;try simp only [hd] at hK ⊢)
 all_goals try (try clear hd;go_wp2_with (go_at_call 30;refine (HDP.out _).mono ?_;rintro e w8 ⟨rfl,k8⟩);first | exact hK _ _ (yB _ _) rfl | exact hK _ _ (by assumption) rfl)):P:=h
theorem J165 (P:Prop) (h:P:=by first | rfl | (simp [*];done) | skip):P:=h
theorem J215 (P:Prop) (h:P:=by rw [show (k:Int)+1=((k+1:Nat):Int) by omega];exact uZ _ (by omega) (by omega)):P:=h
inductive Abt where
 | read (n:Int)
 | write (n:Int)
 | atomic (n:Int)
 | mutex (n:Int)
 | begin (n:Int)
 | wait (n:Int)
 | fin (n:Int)
 | none
def Abt.val:Abt -> Value
 | .read n=>.iface 169 (.agg #[.int .i64 n])
 | .write n=>.iface 170 (.agg #[.int .i64 n])
 | .atomic n=>.iface 171 (.agg #[.int .i64 n])
 | .mutex n=>.iface 173 (.agg #[.int .i64 n])
 | .begin n=>.iface 175 (.agg #[.int .i64 n])
 | .wait n=>.iface 176 (.agg #[.int .i64 n])
 | .fin n=>.iface 177 (.agg #[.int .i64 n])
 | .none=>.iface 179 (.agg #[])
def zDq (x:Evt):Abt :=
 if x.kind=1 then .read x.obj else if x.kind=2 then .write x.obj else if x.kind=3 then .atomic x.obj else if x.kind=4 \/ x.kind=5 then .mutex x.obj
 else if x.kind=6 then .begin x.obj else if x.kind=7 then .wait x.obj else if x.kind=9 then .fin x.thread else .none
def Abt.dep:Abt -> Abt -> Bool
 | .read a, .write b=>decide (a=b)
 | .read a, .atomic b=>decide (a=b)
 | .write a, .read b=>decide (a=b)
 | .write a, .write b=>decide (a=b)
 | .write a, .atomic b=>decide (a=b)
 | .atomic a, .read b=>decide (a=b)
 | .atomic a, .write b=>decide (a=b)
 | .atomic a, .atomic b=>decide (a=b)
 | .mutex a, .mutex b=>decide (a=b)
 | .begin a, .begin b=>decide (a=b)
 | .begin a, .wait b=>decide (a=b)
 | .fin a, .wait b=>decide (a=b)
 | .wait a, .begin b=>decide (a=b)
 | .wait a, .fin b=>decide (a=b)
 | _,_=>false
def Abt.sta (t:Int):Abt -> Bool
 | .begin a=>decide (a=t)
 | _=>false
def Abt.acc:Abt -> Bool
 | .read _ | .write _ | .atomic _=>true
 | _=>false
theorem least_some {l:List String} (h:l ≠ []):∃ m,Instr.least l=some m:=by
 cases l with
 | nil=>exact absurd rfl h
 | cons a r=>exact ⟨_,rfl⟩
theorem zGs {want:Array (String × TypeId)} {got:Array Method} (h:(want.toList.filter fun (name,sig)=>!got.any fun m=>m.name==name&&m.sig==sig) ≠ []):∃ m,Instr.missingMethod want got=some m:=by
 unfold Instr.missingMethod;have h2:((want.toList.filter fun (name,sig)=>!got.any fun m=>m.name==name&&m.sig==sig).map (·.1)) ≠ []:=fun e=>h (List.map_eq_nil_iff.1 e)
 generalize ((want.toList.filter fun (name,sig)=>!got.any fun m=>m.name==name&&m.sig==sig).map (·.1))=l at h2
 show ∃ m,(match List.partition (fun x=>x.contains '.') l with
  | (unexported,exported)=>Instr.least exported <|> Instr.least (List.map (fun id=>(id.splitOn ".").getLastD id) unexported))=some m
 rw [List.partition_eq_filter_filter];simp only
 by_cases h3:l.filter (not ∘ fun x=>x.contains '.')=[]
 ·have h4:l.filter (fun x=>x.contains '.') ≠ []:=fun e=>by
   cases l with
   | nil=>exact h2 rfl
   | cons a r =>
     simp only [List.filter_eq_nil_iff,xS,Function.comp_apply,Bool.not_eq_true] at h3 e;have q1:=h3 a (.inl rfl);have q2:=e a (.inl rfl);rw [q2] at q1;cases q1
  rw [h3];obtain ⟨m,hm⟩:=least_some (l:=List.map (fun id=>(id.splitOn ".").getLastD id) (l.filter fun x=>x.contains '.')) (fun e=>h4 (List.map_eq_nil_iff.1 e));exact ⟨m,by rw [hm];rfl⟩
 ·obtain ⟨m,hm⟩:=least_some h3
  exact ⟨m,by rw [hm];rfl⟩
theorem zM3:(Tryz.prog.info? 334).map (fun i=>(i.zero,i.size,i.bytes))=some (some .nilIface,1,16):=by kernel_rfl
theorem taA (T:TypeId) (v:Value) (w:World) (h:(Tryz.prog.info? T).map (fun i=>((#[("racetree/event.access",331)]:Array (String × TypeId)).toList.filter fun (name,sig)=>!i.methods.any fun m=>m.name==name&&m.sig==sig).isEmpty)=some false):(Instr.typeAssert (.iface T v) 122 334 true).run Tryz.prog w=.ok (.tuple #[.nilIface, .bool false]) w:=by
 obtain ⟨j,hj,hz,_⟩:=info_parts zM3;cases hi:Tryz.prog.info? T with
 | none=>rw [hi] at h;cases h
 | some i =>
   rw [hi] at h;obtain ⟨m,hm⟩:=zGs (want:=#[("racetree/event.access",331)]) (got:=i.methods) (fun e=>by simp only [uT,e] at h;cases h);simp [Instr.typeAssert,run_underlying Tryz.underlying334,typeInfo,zeroValue,hi,hm,hj,hz]
theorem zIT (y:Abt) (w:World):(Instr.typeAssert y.val 122 334 true).run Tryz.prog w=.ok (.tuple #[if y.acc then y.val else .nilIface, .bool y.acc]) w:=by
 cases y <;> first | exact taA _ _ w (by kernel_rfl) | kernel_rfl
theorem zLC (y:Abt) (w:World):(Instr.typeAssert y.val 122 173 true).run Tryz.prog w=.ok (.tuple #[match y with | .mutex n=>.agg #[.int .i64 n] | _=>.agg #[.int .i64 0],match y with | .mutex _=>.bool true | _=>.bool false]) w:=by
 cases y <;> kernel_rfl
theorem zFd (y:Abt) (w:World):(Instr.typeAssert y.val 122 175 true).run Tryz.prog w=.ok (.tuple #[match y with | .begin n=>.agg #[.int .i64 n] | _=>.agg #[.int .i64 0],match y with | .begin _=>.bool true | _=>.bool false]) w:=by
 cases y <;> kernel_rfl
theorem zJa (y:Abt) (w:World):(Instr.typeAssert y.val 122 176 true).run Tryz.prog w=.ok (.tuple #[match y with | .wait n=>.agg #[.int .i64 n] | _=>.agg #[.int .i64 0],match y with | .wait _=>.bool true | _=>.bool false]) w:=by
 cases y <;> kernel_rfl
theorem zN4 (y:Abt) (w:World):(Instr.typeAssert y.val 122 177 true).run Tryz.prog w=.ok (.tuple #[match y with | .fin n=>.agg #[.int .i64 n] | _=>.agg #[.int .i64 0],match y with | .fin _=>.bool true | _=>.bool false]) w:=by
 cases y <;> kernel_rfl
theorem zLX (c:Int) (y:Abt) (w:World):Calls Tryz.prog 244 #[.agg #[.int .i64 c],y.val] w fun e w'=>e=.returned (.bool (Abt.dep (.read c) y)) /\ Keeps zA w w':=by
 have Tacc:=zIT y;rcases y with d | d | d | d | d | d | d | _
 all_goals (
  simp only [Abt.val,Abt.dep,Abt.acc,kD,xC,uR] at Tacc ⊢;try (by_cases h:c=d)
  all_goals (
   go_enter Tryz.func244,Tryz.ntmps244
   go_wp2
   all_goals (
    go_ret
    refine ⟨by exact J165 _,?_⟩
    repeat' first | exact yB _ _ | apply yh)))
theorem zJ0 (c:Int) (y:Abt) (w:World):Calls Tryz.prog 247 #[.agg #[.int .i64 c],y.val] w fun e w'=>e=.returned (.bool (Abt.dep (.write c) y)) /\ Keeps zA w w':=by
 have Tacc:=zIT y;rcases y with d | d | d | d | d | d | d | _
 all_goals (
  simp only [Abt.val,Abt.dep,Abt.acc,kD,xC,uR] at Tacc ⊢;try (by_cases h:c=d)
  all_goals (
   go_enter Tryz.func247,Tryz.ntmps247
   go_wp2
   all_goals (
    go_ret
    refine ⟨by exact J165 _,?_⟩
    repeat' first | exact yB _ _ | apply yh)))
theorem zIy (c:Int) (y:Abt) (w:World):Calls Tryz.prog 249 #[.agg #[.int .i64 c],y.val] w fun e w'=>e=.returned (.bool (Abt.dep (.atomic c) y)) /\ Keeps zA w w':=by
 have Tacc:=zIT y;rcases y with d | d | d | d | d | d | d | _
 all_goals (
  simp only [Abt.val,Abt.dep,Abt.acc,kD,xC,uR] at Tacc ⊢;try (by_cases h:c=d)
  all_goals (
   go_enter Tryz.func249,Tryz.ntmps249
   go_wp2
   all_goals (
    go_ret
    refine ⟨by exact J165 _,?_⟩
    repeat' first | exact yB _ _ | apply yh)))
theorem zKR (c:Int) (y:Abt) (w:World):Calls Tryz.prog 250 #[.agg #[.int .i64 c],y.val] w fun e w'=>e=.returned (.bool (Abt.dep (.mutex c) y)) /\ Keeps zA w w':=by
 have Tmutex:=zLC y;rcases y with d | d | d | d | d | d | d | _
 all_goals (
  simp only [Abt.val,Abt.dep,Abt.acc,kD,xC,uR] at Tmutex ⊢;try (by_cases h:c=d)
  all_goals (
   go_enter Tryz.func250,Tryz.ntmps250
   go_wp2
   all_goals (
    go_ret
    refine ⟨by exact J165 _,?_⟩
    repeat' first | exact yB _ _ | apply yh)))
theorem zKg (c:Int) (y:Abt) (w:World):Calls Tryz.prog 251 #[.agg #[.int .i64 c],y.val] w fun e w'=>e=.returned (.bool (Abt.dep (.begin c) y)) /\ Keeps zA w w':=by
 have Tbegin:=zFd y;have Twait:=zJa y;rcases y with d | d | d | d | d | d | d | _
 all_goals (
  simp only [Abt.val,Abt.dep,Abt.acc,kD,xC,uR] at Tbegin Twait ⊢;try (by_cases h:c=d)
  all_goals (
   go_enter Tryz.func251,Tryz.ntmps251
   go_wp2
   all_goals (
    go_ret
    refine ⟨by exact J165 _,?_⟩
    repeat' first | exact yB _ _ | apply yh)))
theorem zMl (c:Int) (y:Abt) (w:World):Calls Tryz.prog 253 #[.agg #[.int .i64 c],y.val] w fun e w'=>e=.returned (.bool (Abt.dep (.fin c) y)) /\ Keeps zA w w':=by
 have Twait:=zJa y;rcases y with d | d | d | d | d | d | d | _
 all_goals (
  simp only [Abt.val,Abt.dep,Abt.acc,kD,xC,uR] at Twait ⊢;try (by_cases h:c=d)
  all_goals (
   go_enter Tryz.func253,Tryz.ntmps253
   go_wp2
   all_goals (
    go_ret
    refine ⟨by exact J165 _,?_⟩
    repeat' first | exact yB _ _ | apply yh)))
theorem zML (c:Int) (y:Abt) (w:World):Calls Tryz.prog 252 #[.agg #[.int .i64 c],y.val] w fun e w'=>e=.returned (.bool (Abt.dep (.wait c) y)) /\ Keeps zA w w':=by
 have Tbegin:=zFd y;have Tfin:=zN4 y;rcases y with d | d | d | d | d | d | d | _
 all_goals (
  simp only [Abt.val,Abt.dep,Abt.acc,kD,xC,uR] at Tbegin Tfin ⊢;try (by_cases h:c=d)
  all_goals (
   go_enter Tryz.func252,Tryz.ntmps252
   go_wp2
   all_goals (
    go_ret
    refine ⟨by exact J165 _,?_⟩
    repeat' first | exact yB _ _ | apply yh)))
theorem zLN (c:Int) (y:Abt) (w:World):Calls Tryz.prog 254 #[.agg #[],y.val] w fun e w'=>e=.returned (.bool (Abt.dep (.none) y)) /\ Keeps zA w w':=by
 rcases y with d | d | d | d | d | d | d | _
 all_goals (
  simp only [Abt.val,Abt.dep,Abt.acc,kD,xC,uR];try (by_cases h:c=d)
  all_goals (
   go_enter Tryz.func254,Tryz.ntmps254
   go_wp2
   all_goals (
    go_ret
    refine ⟨by exact J165 _,?_⟩
    repeat' first | exact yB _ _ | apply yh)))
theorem zFj (l:List Evt):zBm (dnS l)=l /\ zFL (dnS l)=true:=by
 unfold zBm zFL dnS;induction l with
 | nil=>exact ⟨rfl,rfl⟩
 | cons a r ih=>simp_all
theorem zKA {pre post:List Evt} {x y:Evt}:((pre++x :: y :: post).set pre.length y).set (pre.length+1) x=pre++y :: x :: post:=by
 rw [uQ _ _ (yV _),uX,uQ _ _ (by omega),show pre.length+1 - pre.length=1 by omega];rfl
section
variable {cs:List Int} {mu:Int} {bs:List Bd} {w:World} {F:Nat -> Prop} {uca uta:Option Addr} {ucc utc:Nat}
theorem zK1 (h:zCu w F cs bs uca uta) (v:Value) (t:Int) (hr:newR ⟨cs,mu,bs⟩ ≠ 0):Calls Tryz.prog 7 #[.agg #[.slice uca cs.length ucc, .int .i64 mu, .slice uta bs.length utc],v, .int .i64 t] w fun e w'=>e=.returned (.bool true) /\ Keeps zA w w':=by
 have HWI:Hid (∀ W,Keeps zA w W -> Calls Tryz.prog 29 #[.agg #[.slice uca cs.length ucc, .int .i64 mu, .slice uta bs.length utc]] W fun e w'=>e=.returned (.int .i64 (newR ⟨cs,mu,bs⟩)) /\ Keeps zA W w'):=fun W hk=>by
  have g:=(h.zF hk).zJl (mu:=mu) (ucc:=ucc) (utc:=utc);exact g
 have hb:(newR ⟨cs,mu,bs⟩ != 0)=true:=uW.2 hr;generalize newR ⟨cs,mu,bs⟩=rr at hb HWI;clear h hr;go_enter Tryz.func7,Tryz.ntmps7
 go_upto_region 1 with fail
 obtain ⟨b1,w1,x1,z1,R1,K1,_⟩:=newRow w [.slice uca cs.length ucc, .int .i64 mu, .slice uta bs.length utc] 25;try rw [x1]
 try rw [z1]
 have y1:=R1.zEH;have k1:=zJ w1;have HR1:=yA R1;have HK1:=yA K1;clear x1 z1 R1 K1;have HS:=yA (zDY w1)
 go_wp2_with (first
  | (go_at_call 21;refine HS.out.mono ?_;rintro e w2 ⟨rfl,k2⟩;have HK2:=yA (HK1.out.zB k2))
  | (go_at_call 29;refine (HWI.out _ HK2.out).mono ?_;rintro e w3 ⟨rfl,k3⟩;have HK3:=yA (HK2.out.zB k3);clear k3))
 go_ret
 exact ⟨rfl,HK3.out⟩
theorem zKD (ca:Option Addr) (nch cc n:Nat) (es:List Evt) (m:zW) (i:Int) (hi:i < 0 \/ (n:Int) - 1 <= i) (hn:n <= 60)
 (HWI:Hid (∀ W,Keeps zA w W -> Calls Tryz.prog 29 #[.agg #[.slice uca cs.length ucc, .int .i64 mu, .slice uta bs.length utc]] W fun e w'=>e=.returned (.int .i64 0) /\ Keeps zA W w'))
 (HWE:Hid (∀ W,Keeps zA w W -> Calls Tryz.prog 22 #[.agg #[.slice uca cs.length ucc, .int .i64 mu, .slice uta bs.length utc], .slice ca nch cc] W fun e w'=>∃ oa oc a1 an1 aq1 a2 an2 aq2 a3 an3 aq3 a4 an4 aq4,e=.returned (.tuple #[.slice oa n oc, .agg #[.slice a1 an1 aq1, .slice a2 an2 aq2, .slice a3 an3 aq3, .slice a4 an4 aq4], .int .i64 0]) /\ zAG w' W.heap.size (.slice oa n oc) n (es.flatMap evC) /\ zBf w' (.slice a1 an1 aq1) (.slice a2 an2 aq2) (.slice a3 an3 aq3) (.slice a4 an4 aq4) m.cells m.owners (zDI m m.zL.length) (zDJ m m.zL.length) /\ Keeps zA W w'))
 : Calls Tryz.prog 7 #[.agg #[.slice uca cs.length ucc, .int .i64 mu, .slice uta bs.length utc], .slice ca nch cc, .int .i64 i] w fun e w'=>e=.returned (.bool true) /\ Keeps zA w w':=by
 go_enter Tryz.func7,Tryz.ntmps7
 go_upto_region 1 with fail
 obtain ⟨b1,w1,x1,z1,R1,K1,_⟩:=newRow w [.slice uca cs.length ucc, .int .i64 mu, .slice uta bs.length utc] 25;try rw [x1]
 try rw [z1]
 have y1:=R1.zEH;have k1:=zJ w1;have HR1:=yA R1;have HK1:=yA K1;clear x1 z1 R1 K1;have HS:=yA (zDY w1)
 go_upto_region 8 with (first
  | (go_at_call 21;refine HS.out.mono ?_;rintro e w2 ⟨rfl,k2⟩;have HK2:=yA (HK1.out.zB k2);have k12:=yA k2)
  | (go_at_call 29;refine (HWI.out _ HK2.out).mono ?_;rintro e w3 ⟨rfl,k3⟩;have HK3:=yA (HK2.out.zB k3);have k13:=yA (k12.out.zB k3);have k3':=k2.zB k3;clear k3)
  | (go_at_call 22;refine (HWE.out _ HK3.out).mono ?_;rintro e w4 ⟨oa,oc,a1,an1,aq1,a2,an2,aq2,a3,an3,aq3,a4,an4,aq4,rfl,hf,hst,ho⟩;have HF:=yA hf;have HST:=yA hst;have HO:=yA ho;clear hf hst ho))
 obtain ⟨b10,w5,x5,z5,R5,K5,_⟩:=newRow w4 [.slice a1 an1 aq1, .slice a2 an2 aq2, .slice a3 an3 aq3, .slice a4 an4 aq4] 50;rw [x5,z5];have HK5:Hid (Keeps zA w w5):=(HK3.out.zB HO.out).zB K5;clear x5 z5 R5 K5 HF HST HO;have e1:IntKind.i64.wrap ((n:Int) - 1)=(n:Int) - 1:=by rw [IntKind.wrap_i64];omega
 rcases vA i 0 with h | h1
 ·have d1:decide (i < 0)=true:=xV h
  clear hi;go_wp2_with fail
  go_ret
  exact ⟨rfl,HK5.out⟩
 ·have d1:decide (i < 0)=false:=xH (by omega)
  have d2:decide ((n:Int) - 1 <= i)=true:=xV (hi.resolve_left (by omega));clear hi;go_wp2_with fail
  go_ret
  exact ⟨rfl,HK5.out⟩
theorem zKl (ca:Option Addr) (nch cc n k:Nat) (es pre post:List Evt) (m:zW) (xt xk xo xv xb yt yk yo yv yb:Int) (HH:Hid (es=pre++⟨xt,xk,xo,xv,xb⟩ :: ⟨yt,yk,yo,yv,yb⟩ :: post /\ k=pre.length /\ n=es.length /\ k+1 < n)) (hn60:n <= 60)
 (HDP:Hid (∀ W,Calls Tryz.prog 30 #[.agg #[.int .i64 xt, .int .i64 xk, .int .i64 xo, .int .i64 xv, .int .i64 xb], .agg #[.int .i64 yt, .int .i64 yk, .int .i64 yo, .int .i64 yv, .int .i64 yb]] W fun e w'=>e=.returned (.bool true) /\ Keeps zA W w'))
 (HWI:Hid (∀ W,Keeps zA w W -> Calls Tryz.prog 29 #[.agg #[.slice uca cs.length ucc, .int .i64 mu, .slice uta bs.length utc]] W fun e w'=>e=.returned (.int .i64 0) /\ Keeps zA W w'))
 (HWE:Hid (∀ W,Keeps zA w W -> Calls Tryz.prog 22 #[.agg #[.slice uca cs.length ucc, .int .i64 mu, .slice uta bs.length utc], .slice ca nch cc] W fun e w'=>∃ oa oc a1 an1 aq1 a2 an2 aq2 a3 an3 aq3 a4 an4 aq4,e=.returned (.tuple #[.slice oa n oc, .agg #[.slice a1 an1 aq1, .slice a2 an2 aq2, .slice a3 an3 aq3, .slice a4 an4 aq4], .int .i64 0]) /\ zAG w' W.heap.size (.slice oa n oc) n (es.flatMap evC) /\ zBf w' (.slice a1 an1 aq1) (.slice a2 an2 aq2) (.slice a3 an3 aq3) (.slice a4 an4 aq4) m.cells m.owners (zDI m m.zL.length) (zDJ m m.zL.length) /\ Keeps zA W w'))
 : Calls Tryz.prog 7 #[.agg #[.slice uca cs.length ucc, .int .i64 mu, .slice uta bs.length utc], .slice ca nch cc, .int .i64 k] w fun e w'=>e=.returned (.bool true) /\ Keeps zA w w':=by
 go_enter Tryz.func7,Tryz.ntmps7
 go_upto_region 1 with fail
 obtain ⟨b1,w1,x1,z1,R1,K1,_⟩:=newRow w [.slice uca cs.length ucc, .int .i64 mu, .slice uta bs.length utc] 25;try rw [x1]
 try rw [z1]
 have y1:=R1.zEH;have k1:=zJ w1;have HR1:=yA R1;have HK1:=yA K1;clear x1 z1 R1 K1;have HS:=yA (zDY w1)
 go_upto_region 8 with (first
  | (go_at_call 21;refine HS.out.mono ?_;rintro e w2 ⟨rfl,k2⟩;have HK2:=yA (HK1.out.zB k2);have k12:=yA k2)
  | (go_at_call 29;refine (HWI.out _ HK2.out).mono ?_;rintro e w3 ⟨rfl,k3⟩;have HK3:=yA (HK2.out.zB k3);have k13:=yA (k12.out.zB k3);have k3':=k2.zB k3;clear k3)
  | (go_at_call 22;refine (HWE.out _ HK3.out).mono ?_;rintro e w4 ⟨oa,oc,a1,an1,aq1,a2,an2,aq2,a3,an3,aq3,a4,an4,aq4,rfl,hf,hst,ho⟩;have HF:=yA hf;have HST:=yA hst;have HO:=yA ho;clear hf hst ho))
 obtain ⟨b10,w5,x5,z5,R5,K5,_⟩:=newRow w4 [.slice a1 an1 aq1, .slice a2 an2 aq2, .slice a3 an3 aq3, .slice a4 an4 aq4] 50;rw [x5,z5];have HK5:Hid (Keeps zA w w5):=(HK3.out.zB HO.out).zB K5;have d1:decide ((k:Int) < 0)=false:=xH (by omega);obtain ⟨hes,hk,hn,hkn⟩:=HH.out;have e1:IntKind.i64.wrap ((n:Int) - 1)=(n:Int) - 1:=uZ _ (by omega) (by omega);have d2:decide ((n:Int) - 1 <= k)=false:=xH (by omega);have e2:IntKind.i64.wrap ((k:Int)+1)=((k+1:Nat):Int):=J215 _;have HF5:=yA (HF.out.keeps K5 (fun _ _ h=>h));have HST5:=yA (HST.out.keeps K5);obtain ⟨ad,cap,ea,_,_,hcl⟩:=HF5.out;simp only [xY,true_and] at ea;obtain ⟨rfl,rfl⟩:=ea;obtain ⟨g,rfl,_,hrow⟩:=hcl (by omega);have HROW:=yA hrow
 have c:∀ (j:Nat) v,(evC ⟨xt,xk,xo,xv,xb⟩)[j]?=some v -> w5.cell? ⟨g,k*5+j,none⟩=some v:=fun j v hj=>hrow.cell (by
  have hj5:=(yI.1 hj).1;rw [zAS evC 5 zBN es k j hj5,hes,hk,yT (yV _),uX];exact hj)
 have d:∀ (j:Nat) v,(evC ⟨yt,yk,yo,yv,yb⟩)[j]?=some v -> w5.cell? ⟨g,(k+1)*5+j,none⟩=some v:=fun j v hj=>hrow.cell (by
  have hj5:=(yI.1 hj).1;rw [zAS evC 5 zBN es (k+1) j hj5,hes,hk,yT (by omega),show pre.length+1 - pre.length=1 by omega];exact hj)
 have c0:∀ W,Keeps zA w5 W -> W.cell? ⟨g,k*5,none⟩=some (.int .i64 xt):=zM (c 0 _ rfl)
 have c1:∀ W,Keeps zA w5 W -> W.cell? ⟨g,k*5+1,none⟩=some (.int .i64 xk):=zM (c 1 _ rfl)
 have c2:∀ W,Keeps zA w5 W -> W.cell? ⟨g,k*5+2,none⟩=some (.int .i64 xo):=zM (c 2 _ rfl)
 have c3:∀ W,Keeps zA w5 W -> W.cell? ⟨g,k*5+3,none⟩=some (.int .i64 xv):=zM (c 3 _ rfl)
 have c4:∀ W,Keeps zA w5 W -> W.cell? ⟨g,k*5+4,none⟩=some (.int .i64 xb):=zM (c 4 _ rfl)
 have d0:∀ W,Keeps zA w5 W -> W.cell? ⟨g,(k+1)*5,none⟩=some (.int .i64 yt):=zM (d 0 _ rfl)
 have d1:∀ W,Keeps zA w5 W -> W.cell? ⟨g,(k+1)*5+1,none⟩=some (.int .i64 yk):=zM (d 1 _ rfl)
 have d2:∀ W,Keeps zA w5 W -> W.cell? ⟨g,(k+1)*5+2,none⟩=some (.int .i64 yo):=zM (d 2 _ rfl)
 have d3:∀ W,Keeps zA w5 W -> W.cell? ⟨g,(k+1)*5+3,none⟩=some (.int .i64 yv):=zM (d 3 _ rfl)
 have d4:∀ W,Keeps zA w5 W -> W.cell? ⟨g,(k+1)*5+4,none⟩=some (.int .i64 yb):=zM (d 4 _ rfl)
 have i1:(0:Int) <= k:=by omega
 have i2:(k:Int) < n:=by omega
 have i3:(0:Int) <= ((k+1:Nat):Int):=by omega
 have i4:((k+1:Nat):Int) < n:=by omega
 have HK4:=yA HK5.out;have HR15:=yA (HR1.out.keeps ((k13.out.zB HO.out).zB K5) (fun h=>h));have HR10:=yA R5;clear x5 z5 R5 K5 HF HO HST c d hrow hcl hes hk hn hkn HWE HWI HS y1 k1 k2 k3';go_upto_region 10 with fail
 refine zD6 10 (by kernel_rfl) [some (.slice (some ⟨g,0,none⟩) n oc),some (.int .i64 k),some (.pointer (some ⟨g,k*5,none⟩)),some (.agg #[.int .i64 xt, .int .i64 xk, .int .i64 xo, .int .i64 xv, .int .i64 xb]),some (.slice (some ⟨g,0,none⟩) n oc),some (.int .i64 k),some (.int .i64 ((k+1:Nat):Int)),some (.pointer (some ⟨g,(k+1)*5,none⟩)),some (.agg #[.int .i64 yt, .int .i64 yk, .int .i64 yo, .int .i64 yv, .int .i64 yb]),some (.bool true)] rfl (fun _ _ _=>False) (fun _ _ _ _ h _=>h) ?_ ?_
 ·exact J29 _
 ·intro vs W hR hFF
  have HRW:Keeps zA w5 W:=((zJ w5).drew).zB hR;have e10:vs 9=_:=hFF 9 (by decide);simp only [zI,yC,yD,yO,Option.bind,Act.put,yE,yK,yL,yU,yQ];rw [e10];have HKW:=yA (HK4.out.zB HRW);clear hFF e10;go_wp2_with fail
  go_ret
  exact ⟨rfl,HKW.out⟩
end
end Go.Proofs.YtfjgcedkfnmdkaaGreatDoor
