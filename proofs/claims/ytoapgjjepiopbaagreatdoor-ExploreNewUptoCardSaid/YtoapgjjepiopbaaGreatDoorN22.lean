/- Layer N: texts joined. -/
import Derived.Test.YtoapgjjepiopbaaGreatDoorN21
set_option linter.all false
set_option maxHeartbeats 2000000
set_option maxRecDepth 8000
namespace Go.Proofs.YtoapgjjepiopbaaGreatDoor
open Go.RowKit
theorem J48 (P:Prop) (h:P:=by
 go_wp2_with (go_at_call 94;refine (HEE.out _ G2.out).mono ?_;rintro e w4 ⟨rfl,g3⟩;have G3:=Lib.hid (G2.out.zB g3);clear g3)
 go_roundw
 case rel=>exact ⟨i+1,n3,by omega,by first | rfl | (congr 1;omega) | go_num,by go_num,HD,HK.out.zB G3.out⟩
 case measure=>simp [intOf];omega):P:=h
theorem J72 (P:Prop) (h:P:=by
 obtain rfl:n=tot:=by omega
 go_wp2_with fail
 go_ret
 exact ⟨by go_num,K1.out.zB HK.out⟩):P:=h
mutual
def Ex.pts:Ex -> Nat
 | .mk k _ _ l=>if k=0 then 0 else 1+Ex.zFF l
def Ex.zFF:List Ex -> Nat
 | []=>0
 | x :: r=>Ex.pts x+Ex.zFF r
end
theorem zJS {k num regs:Int} {nm:ByteArray} {n:Nat} (h:zx k num nm n regs=true):k ≠ 0:=by
 intro e;subst e;simp [zx] at h
mutual
theorem Ex.zI5 (regs:Int):(x:Ex) -> x.may regs=true -> x.pts=x.cnt
 | .mk k num nm l,h=>by
   simp only [Ex.may,Bool.and_eq_true] at h;have h1:=Ex.zHp regs l h.2;simp only [Ex.pts,Ex.cnt,if_neg (zJS h.1),h1]
theorem Ex.zHp (regs:Int):(l:List Ex) -> Ex.zq regs l=true -> Ex.zFF l=Ex.zM l
 | [],_=>rfl
 | x :: r,h=>by
   simp only [Ex.zq,Bool.and_eq_true] at h;have h1:=Ex.zI5 regs x h.1;have h2:=Ex.zHp regs r h.2;simp only [Ex.zFF,Ex.zM,h1,h2]
end
mutual
theorem Ex.zK7:(x:Ex) -> x.pts <= x.cnt
 | .mk k num nm l=>by
   have h:=Ex.zGQ l;simp only [Ex.pts,Ex.cnt];split <;> omega
theorem Ex.zGQ:(l:List Ex) -> Ex.zFF l <= Ex.zM l
 | []=>Nat.le_refl _
 | x :: r=>by
   have h1:=Ex.zK7 x;have h2:=Ex.zGQ r;simp only [Ex.zFF,Ex.zM];omega
end
def Ex.own (x:Ex):Nat:=1+(if x.kind=0 then 0 else x.cnt)
theorem Ex.zOH (x:Ex):x.own <= 1+x.cnt:=by unfold Ex.own;split <;> omega
mutual
def Ac.stp:Ac -> Nat
 | .mk k _ _ _ c t e=>if k=1 then 0 else if k=10 then max (Ac.zY t) (Ac.zY e) else if k=11 then Ac.zY t*c.toNat else 1
def Ac.zY:List Ac -> Nat
 | []=>0
 | x :: r=>Ac.stp x+Ac.zY r
end
mutual
def Ac.wrk:Ac -> Nat
 | .mk k _ _ x c t e=>x.own+(if k=10 then max (Ac.zT t) (Ac.zT e) else if k=11 then (Ac.zT t+1)*c.toNat else 0)
def Ac.zT:List Ac -> Nat
 | []=>0
 | x :: r=>Ac.wrk x+Ac.zT r
end
mutual
def Ac.okc:Ac -> Prop
 | .mk _ _ _ x c t e=>(0 <= c /\ c <= 1000) /\ x.pts=(if x.kind=0 then 0 else x.cnt) /\ Ac.zDS t /\ Ac.zDS e
def Ac.zDS:List Ac -> Prop
 | []=>True
 | x :: r=>Ac.okc x /\ Ac.zDS r
end
theorem Ac.zFR {l:List Ac} (h:Ac.zDS l) {y:Ac} (hy:y ∈ l):y.okc:=by
 induction l with
 | nil=>cases hy
 | cons x r ih =>
   simp only [Ac.zDS] at h;rcases List.mem_cons.1 hy with e | e
   ·subst e;exact h.1
   ·exact ih h.2 e
theorem Ac.zIC {x:Ac} (h:x.okc):(0 <= x.count /\ x.count <= 1000) /\ x.ex.pts=(if x.ex.kind=0 then 0 else x.ex.cnt) /\ Ac.zDS x.thn /\ Ac.zDS x.els:=by
 cases x;simp only [Ac.okc] at h;exact h
theorem Ac.zGl (x:Ac):x.stp=if x.kind=1 then 0 else if x.kind=10 then max (Ac.zY x.thn) (Ac.zY x.els) else if x.kind=11 then Ac.zY x.thn*x.count.toNat else 1:=by
 cases x;simp only [Ac.stp];rfl
theorem Ac.zGq (x:Ac):x.wrk=x.ex.own+(if x.kind=10 then max (Ac.zT x.thn) (Ac.zT x.els) else if x.kind=11 then (Ac.zT x.thn+1)*x.count.toNat else 0):=by
 cases x;simp only [Ac.wrk];rfl
theorem zNi {x:Ex} {regs:Int} (h:x.may regs=true \/ x.none=true):x.pts=(if x.kind=0 then 0 else x.cnt):=by
 rcases h with h | h
 ·have h1:=Ex.zI5 regs x h
  have h2:=zAk h;rw [if_neg h2,h1]
 ·cases x with
  | mk k num nm l =>
    simp only [Ex.none,Bool.and_eq_true,beq_iff_eq] at h;have hk:=h.1.1.1;subst hk;show Ex.pts (.mk 0 num nm l)=if (0:Int)=0 then 0 else _
    simp [Ex.pts]
mutual
theorem Ac.zMQ (u:Un) (regs:Int):(x:Ac) -> Ac.may u regs x=true -> x.okc
 | .mk k reg obj ex count t e,h=>by
   simp only [Ac.may,Bool.and_eq_true] at h;have h1:=Ac.zEL u regs t h.1.2;have h2:=Ac.zEL u regs e h.2;have h3:=h.1.1;unfold zAr at h3;simp only [Bool.and_eq_true] at h3;obtain ⟨⟨⟨⟨⟨⟨⟨_,_⟩,_⟩,_⟩,hx⟩,hc⟩,_⟩,_⟩:=h3;simp only [Ac.okc];refine ⟨?_,zNi (regs:=regs) ?_,h1,h2⟩
   ·cases hf:(fields k).count
    ·rw [hf] at hc
     have:count=0:=by simpa using hc
     subst this;exact ⟨by decide,by decide⟩
    ·rw [hf] at hc
     simp only [if_true,Bool.and_eq_true,decide_eq_true_eq] at hc;exact hc
   ·cases hf:(fields k).ex
    ·rw [hf] at hx;exact .inr (by simpa using hx)
    ·rw [hf] at hx;exact .inl (by simpa using hx)
theorem Ac.zEL (u:Un) (regs:Int):(l:List Ac) -> Ac.zq u regs l=true -> Ac.zDS l
 | [],_=>trivial
 | x :: r,h=>by
   simp only [Ac.zq,Bool.and_eq_true] at h;simp only [Ac.zDS];exact ⟨Ac.zMQ u regs x h.1,Ac.zEL u regs r h.2⟩
end
theorem zNt (n:Nat):n+1 <= 2 ^ n:=Nat.lt_two_pow_self
mutual
theorem Ac.zN0:(x:Ac) -> x.okc -> x.wrk+1 <= 2 ^ (11*x.sz)
 | .mk k reg obj ex c t e,h=>by
   simp only [Ac.okc] at h;have h1:=Ac.zEF t h.2.2.1;have h2:=Ac.zEF e h.2.2.2;have h3:=Ex.zOH ex;have hc:c.toNat <= 1000:=by omega
   have hq:2048*(ex.cnt+1) <= 2 ^ (11*(1+ex.cnt)):=by
    have h4:=zNt (11*ex.cnt);rw [show 11*(1+ex.cnt)=11+11*ex.cnt by omega,Nat.pow_add];exact Nat.mul_le_mul (by decide) (by omega)
   simp only [Ac.wrk,Ac.sz];rw [Nat.mul_add,Nat.mul_add,Nat.pow_add,Nat.pow_add];generalize 2 ^ (11*(1+ex.cnt))=Q at hq ⊢;generalize 2 ^ (11*Ac.szL t)=A at h1 ⊢;generalize 2 ^ (11*Ac.szL e)=B at h2 ⊢;have hA:1 <= A:=by omega
   have hB:1 <= B:=by omega
   have hAB:max A B <= A*B:=by
    rcases Nat.le_total A B with hh | hh
    ·rw [Nat.max_eq_right hh];exact Nat.le_mul_of_pos_left B hA
    ·rw [Nat.max_eq_left hh];exact Nat.le_mul_of_pos_right A hB
   have hA2:A <= A*B:=Nat.le_mul_of_pos_right A hB;rw [Nat.mul_assoc];generalize A*B=P at hAB hA2 ⊢;have hP:1 <= P:=by omega
   have key:∀ z,z <= 1000*P -> ex.own+z+1 <= Q*P:=fun z hz=>by
    have h5:2048*(ex.cnt+1)*P <= Q*P:=Nat.mul_le_mul_right P hq;have h6:ex.cnt+1 <= (ex.cnt+1)*P:=Nat.le_mul_of_pos_right _ hP;rw [Nat.mul_assoc] at h5;have h7:P <= (ex.cnt+1)*P:=Nat.le_mul_of_pos_left P (by omega);omega
   split
   ·exact key _ (by omega)
   ·split
    ·refine key _ ?_
     have h8:(Ac.zT t+1)*c.toNat <= P*1000:=Nat.mul_le_mul (by omega) hc;omega
    ·exact key 0 (by omega)
theorem Ac.zEF:(l:List Ac) -> Ac.zDS l -> Ac.zT l+1 <= 2 ^ (11*Ac.szL l)
 | [],_=>by simp [Ac.zT,Ac.szL]
 | x :: r,h=>by
   simp only [Ac.zDS] at h;have h1:=Ac.zN0 x h.1;have h2:=Ac.zEF r h.2;simp only [Ac.zT,Ac.szL];rw [Nat.mul_add,Nat.pow_add];have h3:(x.wrk+1)*(Ac.zT r+1) <= 2 ^ (11*x.sz)*2 ^ (11*Ac.szL r):=Nat.mul_le_mul h1 h2
   have h4:x.wrk+Ac.zT r+1 <= (x.wrk+1)*(Ac.zT r+1):=by
    rw [Nat.add_mul,Nat.mul_add];omega
   omega
end
mutual
theorem Ac.zOL:(x:Ac) -> x.stp <= x.wrk
 | .mk k reg obj ex c t e=>by
   have h1:=Ac.zAw t;have h2:=Ac.zAw e;have h3:1 <= ex.own:=by unfold Ex.own;omega
   simp only [Ac.stp,Ac.wrk];split
   ·omega
   ·split
    ·omega
    ·split
     ·have h4:Ac.zY t*c.toNat <= (Ac.zT t+1)*c.toNat:=Nat.mul_le_mul_right _ (by omega)
      omega
     ·omega
theorem Ac.zAw:(l:List Ac) -> Ac.zY l <= Ac.zT l
 | []=>Nat.le_refl _
 | x :: r=>by
   have h1:=Ac.zOL x;have h2:=Ac.zAw r;simp only [Ac.zY,Ac.zT];omega
end
theorem zEh {b n:Nat} (hb:2 <= b):2 ^ n <= b ^ n:=Nat.pow_le_pow_left hb n
theorem Ac.zBu {b:Nat} (hb:2 <= b) {l:List Ac} (h:Ac.zDS l) (hs:Ac.szL l < 1000000000) {m:Nat} (hm:m <= Ac.zT l+1):(zw b m).length <= 12000000000:=by
 have h1:=Ac.zEF l h
 have h2:m < b ^ (11*Ac.szL l+1):=by
  have h3:=zEh (n:=11*Ac.szL l) hb;have h4:0 < b ^ (11*Ac.szL l):=Nat.pow_pos (by omega);have h5:2*b ^ (11*Ac.szL l) <= b*b ^ (11*Ac.szL l):=Nat.mul_le_mul_right _ hb;rw [Nat.pow_succ,Nat.mul_comm];omega
 have:=zCg hb h2
 omega
theorem Ac.zF3 {l:List Ac} {i:Nat} (hi:i < l.length):Ac.zY (l.take (i+1))=Ac.zY (l.take i)+l[i].stp:=by
 have key:∀ (a b:List Ac),Ac.zY (a++b)=Ac.zY a+Ac.zY b:=by
  intro a b
  induction a with
  | nil=>simp [Ac.zY]
  | cons x r ih=>simp only [List.cons_append,Ac.zY,ih];omega
 rw [take_at hi,key];simp [Ac.zY]
theorem Ac.zF9 {l:List Ac} {i:Nat} (hi:i < l.length):Ac.zT (l.take (i+1))=Ac.zT (l.take i)+l[i].wrk:=by
 have key:∀ (a b:List Ac),Ac.zT (a++b)=Ac.zT a+Ac.zT b:=by
  intro a b
  induction a with
  | nil=>simp [Ac.zT]
  | cons x r ih=>simp only [List.cons_append,Ac.zT,ih];omega
 rw [take_at hi,key];simp [Ac.zT]
theorem Ac.zGA (l:List Ac) (i:Nat):Ac.zT (l.take i) <= Ac.zT l:=by
 induction l generalizing i with
 | nil=>simp
 | cons x r ih =>
   cases i with
   | zero=>simp [Ac.zT]
   | succ i=>have:=ih i;simp only [List.take_succ_cons,Ac.zT];omega
theorem Ac.zGB (l:List Ac) (i:Nat):Ac.zY (l.take i) <= Ac.zY l:=by
 induction l generalizing i with
 | nil=>simp
 | cons x r ih =>
   cases i with
   | zero=>simp [Ac.zY]
   | succ i=>have:=ih i;simp only [List.take_succ_cons,Ac.zY];omega
def zO (w:World) (F:Nat -> Prop) (b n:Nat) (v:Value):Prop:=∃ ad cap,v=.slice ad (zw b n).length cap /\ zAD w F b n ad
theorem zO.keeps {S F:Nat -> Prop} {w w':World} {b n:Nat} {v:Value} (h:zO w F b n v) (hk:Keeps S w w') (hS:∀ k,F k -> ¬ S k):zO w' F b n v:=by
 obtain ⟨ad,cap,e,h1⟩:=h;exact ⟨ad,cap,e,h1.keeps hk hS⟩
theorem zO.zD {F:Nat -> Prop} {w w':World} {b n:Nat} {v:Value} (h:zO w F b n v) (hk:Keeps zA w w'):zO w' F b n v:=h.keeps hk (fun _ _ h=>h)
theorem zO.mono {F F':Nat -> Prop} {w:World} {b n:Nat} {v:Value} (h:zO w F b n v) (hF:∀ k,F k -> F' k):zO w F' b n v:=by
 obtain ⟨ad,cap,e,h1⟩:=h;exact ⟨ad,cap,e,h1.mono hF⟩
theorem zO.zero (w:World) (F:Nat -> Prop) (b:Nat):zO w F b 0 (.slice none 0 0):=⟨none,0,by rw [zBc];rfl,zAD.zero _ _ _ _⟩
theorem zAz.v {b m:Nat} {w w':World} {e:Ending} (h:zAz b m w e w'):∃ v,e=.returned v /\ zO w' (Since w.heap.size w') b m v /\ Keeps zA w w':=by
 obtain ⟨ad,cap,he,h1,h2⟩:=h;exact ⟨_,he,⟨ad,cap,rfl,h1⟩,h2⟩
theorem zCH {b:Nat} (hb:2 <= b):zw b 1=[1]:=by
 rw [zGP hb (by decide),Nat.mod_eq_of_lt (by omega),Nat.div_eq_of_lt (by omega),zBc]
theorem zO.one {b:Nat} (hb:2 <= b) {w:World} {g:Nat} (F:Nat -> Prop) (hg:zC w g [.int .i64 1]) (hF:F g):zO w F b 1 (.slice (some ⟨g,0,none⟩) 1 1):=by
 refine ⟨some ⟨g,0,none⟩,1,by rw [zCH hb];rfl,fun i hi=>?_⟩
 rw [zCH hb] at hi;have hi0:i=0:=by simpa using hi
 subst hi0;refine ⟨g,0,rfl,hF,?_⟩
 rw [Nat.pow_zero,Nat.div_one,Nat.mod_eq_of_lt (by omega)];exact hg.cell (k:=0) rfl
theorem zGm:∀ (x:Ex) (w:World) (F:Nat -> Prop) (ad:Option Addr) (cap:Nat),zR w F x.args ad -> x.cnt < 1000000000 →
 Calls Tryz.prog 152 #[exV x ad cap] w fun e w'=>e=.returned (.int .i64 x.dep) /\ Keeps zA w w':=by
 refine Ex.ind (fun k num nm l ih w F ad cap h hb=>?_)
 have HL:Hid (zR w F l ad):=h;have IH:=Lib.hid ih;have hl:=Ex.zAY l;have hcn:Ex.cnt (.mk k num nm l)=1+Ex.zM l:=by simp [Ex.cnt]
 have hdn:Ex.dep (.mk k num nm l)=Ex.zB9 l+1:=by simp [Ex.dep]
 have hdl:Ex.zB9 l+1 <= 1+Ex.zM l:=by rw [<- hcn,<- hdn];exact Ex.zGM _
 rw [hcn] at hb;rw [hdn];clear h ih hcn hdn;obtain ⟨tot,ht⟩:=eX (Ex.zB9 l);obtain ⟨tc,htc⟩:=eX (Ex.zM l);have HT:=Lib.hid ht;have HTC:=Lib.hid htc;rw [<- ht] at hdl ⊢;rw [<- htc] at hb hl hdl;have hb2:tot < 1000000000:=by omega
 clear ht htc;show Calls _ _ #[.agg #[.int .i64 k, .int .i64 num, .string nm, .slice ad l.length cap]] _ _
 go_enter Tryz.func152,Tryz.ntmps152
 go_upto_region 1 with fail
 obtain ⟨b1,hb1⟩:=eX w.heap.size;have hr1:zC (w.alloc (.cells #[.int .i64 k, .int .i64 num, .string nm, .slice ad l.length cap] 144)) b1 [.int .i64 k, .int .i64 num, .string nm, .slice ad l.length cap]:=J150 _;have hk1:Keeps zA w (w.alloc (.cells #[.int .i64 k, .int .i64 num, .string nm, .slice ad l.length cap] 144)):=(Keeps.refl _ _).alloc _;rw [<- hb1];generalize w.alloc (.cells #[.int .i64 k, .int .i64 num, .string nm, .slice ad l.length cap] 144)=w1 at hr1 hk1 ⊢;have R1:=Lib.hid hr1;have K1:=Lib.hid hk1;have c3:=hr1.cell (k:=3) (v:=.slice ad l.length cap) rfl;clear hr1 hk1 hb1;go_wp2_with fail
 go_loopw [3,4] (fun nv iv wr=>∃ i n:Nat,i <= l.length /\ nv=.int .i64 n /\ iv=.int .i64 i /\ Hid (max n (Ex.zB9 (l.drop i))=tot) /\ Hid (Keeps zA w1 wr)) (fun _ iv _=>l.length - (intOf iv).toNat)
 case atStart=>exact ⟨0,0,Nat.zero_le _,rfl,rfl,by show _=_;rw [List.drop_zero,HT.out];omega,Keeps.refl _ _⟩
 case round =>
  obtain ⟨i,n,hi,rfl,rfl,HN,HK⟩:=hrel;have c3':=(R1.out.keeps HK.out (fun h=>h)).cell (k:=3) (v:=.slice ad l.length cap) rfl;clear c3;by_cases hlt:i < l.length
  ·have i1:(0:Int) <= i:=by omega
   have i2:(i:Int) < l.length:=by omega
   have hd:=HN.out;rw [drop_at hlt,Ex.zB9] at hd;obtain ⟨g,o,a,c,e1,hg,d0,d1,d2,d3,hx⟩:=(HL.out.keeps (K1.out.zB HK.out) (fun _ _ h=>h)).at hlt;subst e1;have HC:Hid (∀ W,Keeps zA wr W -> Calls Tryz.prog 152 #[.agg #[.int .i64 l[i].kind, .int .i64 l[i].num, .string l[i].nm, .slice a l[i].args.length c]] W fun e w'=>e=.returned (.int .i64 l[i].dep) /\ Keeps zA W w'):=fun W hk=>IH.out _ (List.getElem_mem hlt) W F a c (hx.keeps hk (fun _ _ h=>h)) (by have:=Ex.zBx (List.getElem_mem hlt);have:=HTC.out;omega)
   obtain ⟨m,hm⟩:=eX (l[i].dep);rw [<- hm] at HC hd;have HD:=Lib.hid hd;clear hx hm hd;generalize l[i].kind=x0 at d0 HC;generalize l[i].num=x1 at d1 HC;generalize l[i].nm=x2 at d2 HC;generalize l[i].args.length=x3 at d3 HC;have hmx:max (n:Int) (m:Int)=((max n m:Nat):Int):=by omega
   go_wp2_with (go_at_call 152;refine (HC.out _ (Keeps.refl _ _)).mono ?_;rintro e w2 ⟨rfl,g1⟩;have G1:=Lib.hid g1;clear g1)
   go_roundw
   case rel=>exact ⟨i+1,max n m,by omega,by first | rfl | (congr 1;omega) | go_num,by go_num,by show _=_;have:=HD.out;omega,HK.out.zB G1.out⟩
   case measure=>simp [intOf];omega
  ·obtain rfl:i=l.length:=by omega
   have hd:=HN.out;rw [List.drop_length] at hd;simp only [Ex.zB9] at hd;exact J72 _
def zHQ (l:List St):Prop:=∀ (w:World) (F:Nat -> Prop) (ad:Option Addr) (cap:Nat),zm w F l ad -> St.szL l < 1000000000 →
 Calls Tryz.prog 95 #[.slice ad l.length cap] w fun e w'=>e=.returned (.int .i64 (St.zM l:Nat)) /\ Keeps zA w w'
theorem zGS (l:List St) (ih:∀ y,y ∈ l -> zHQ y.thn /\ zHQ y.els):zHQ l:=by
 intro w F ad cap h hb
 have HL:=Lib.hid h;have IH:=Lib.hid ih;have hl:=St.zAY l;have hcl:=St.zCi l;have HB:=Lib.hid hb;obtain ⟨tot,ht⟩:=eX (St.zM l);have HT:=Lib.hid ht;rw [<- ht] at hcl ⊢;have hb1:l.length < 1000000000:=by omega
 have hb2:tot < 1000000000:=by omega
 clear h ih ht hb hl hcl;go_enter Tryz.func95,Tryz.ntmps95
 go_wp2_with fail
 go_loopw [3,4] (fun nv iv wr=>∃ i n:Nat,i <= l.length /\ nv=.int .i64 n /\ iv=.int .i64 i /\ Hid (n+St.zM (l.drop i)=tot) /\ Hid (Keeps zA w wr)) (fun _ iv _=>l.length - (intOf iv).toNat)
 case atStart=>exact ⟨0,0,Nat.zero_le _,rfl,rfl,by show _=_;rw [List.drop_zero,HT.out];omega,Keeps.refl _ _⟩
 case round =>
  obtain ⟨i,n,hi,rfl,rfl,HN,HK⟩:=hrel;by_cases hlt:i < l.length
  ·have i1:(0:Int) <= i:=by omega
   have i2:(i:Int) < l.length:=by omega
   have hd:=HN.out;rw [drop_at hlt] at hd;simp only [St.zM,St.zC8] at hd;obtain ⟨g,o,xa,xc,ta,tc,ea,ec,e1,hg,d0,d1,d2,d3,d4,d5,d6,d7,d8,d9,hx,hxt,hxe⟩:=(HL.out.keeps HK.out (fun _ _ h=>h)).at hlt;subst e1;have hsz:=St.zBk (List.getElem_mem hlt);rw [St.zB1] at hsz;have hB:=HB.out;have HTH:Hid (∀ W,Keeps zA wr W -> Calls Tryz.prog 151 #[.agg #[.int .i64 l[i].ex.kind, .int .i64 l[i].ex.num, .string l[i].ex.nm, .slice xa l[i].ex.args.length xc]] W fun e w'=>e=.returned (.bool l[i].ex.there) /\ Keeps zA W w'):=fun W hk=>zEo l[i].ex W xa xc
   have HX:Hid (∀ W,Keeps zA wr W -> Calls Tryz.prog 98 #[.agg #[.int .i64 l[i].ex.kind, .int .i64 l[i].ex.num, .string l[i].ex.nm, .slice xa l[i].ex.args.length xc]] W fun e w'=>e=.returned (.int .i64 l[i].ex.cnt) /\ Keeps zA W w'):=fun W hk=>zDV l[i].ex W F xa xc (hx.keeps hk (fun _ _ h=>h)) (by omega)
   have HTT:Hid (∀ W,Keeps zA wr W -> Calls Tryz.prog 95 #[.slice ta l[i].thn.length tc] W fun e w'=>e=.returned (.int .i64 (St.zM l[i].thn:Nat)) /\ Keeps zA W w'):=fun W hk=>(IH.out _ (List.getElem_mem hlt)).1 W F ta tc (hxt.keeps hk (fun _ _ h=>h)) (by omega)
   have HEE:Hid (∀ W,Keeps zA wr W -> Calls Tryz.prog 95 #[.slice ea l[i].els.length ec] W fun e w'=>e=.returned (.int .i64 (St.zM l[i].els:Nat)) /\ Keeps zA W w'):=fun W hk=>(IH.out _ (List.getElem_mem hlt)).2 W F ea ec (hxe.keeps hk (fun _ _ h=>h)) (by omega)
   obtain ⟨th,hth⟩:=eX (l[i].ex.there);obtain ⟨cx,hcx⟩:=eX (l[i].ex.cnt);obtain ⟨ct,hct⟩:=eX (St.zM l[i].thn);obtain ⟨ce,hce⟩:=eX (St.zM l[i].els);rw [<- hth] at HTH hd;rw [<- hcx] at HX hd;rw [<- hct] at HTT hd;rw [<- hce] at HEE hd;clear hx hxt hxe hsz hB hth hcx hct hce d0 d1 d2 d7;generalize l[i].ex.kind=x3 at d3 HX HTH;generalize l[i].ex.num=x4 at d4 HX HTH;generalize l[i].ex.nm=x5 at d5 HX HTH;generalize l[i].ex.args.length=x6 at d6 HX HTH;generalize l[i].thn.length=x8 at d8 HTT;generalize l[i].els.length=x9 at d9 HEE;cases th
   ·rw [if_neg (by decide)] at hd
    have HD:=Lib.hid hd;have b1:n+1+ct+ce < 1000000000:=by omega
    have b2:n+1+ct < 1000000000:=by omega
    clear hd;go_upto_region 9 with (go_at_call 151;refine (HTH.out _ (Keeps.refl _ _)).mono ?_;rintro e w2 ⟨rfl,g1⟩;have G1:=Lib.hid g1;have d8':=g1.cell (p:=⟨g,o+i*10+8,none⟩) (fun h=>h) d8;clear g1)
    go_upto_region 10 with (go_at_call 95;refine (HTT.out _ G1.out).mono ?_;rintro e w3 ⟨rfl,g2⟩;have d9':=(G1.out.zB g2).cell (p:=⟨g,o+i*10+9,none⟩) (fun h=>h) d9;have G2:=Lib.hid (G1.out.zB g2);clear g2 d8')
    go_wp2_with (go_at_call 95;refine (HEE.out _ G2.out).mono ?_;rintro e w4 ⟨rfl,g3⟩;have G3:=Lib.hid (G2.out.zB g3);clear g3)
    go_roundw
    case rel=>exact ⟨i+1,n+1+ct+ce,by omega,by go_num,by go_num,by show _=_;have:=HD.out;omega,HK.out.zB G3.out⟩
    case measure=>simp [intOf];omega
   ·rw [if_pos rfl] at hd
    have HD:=Lib.hid hd;have b1:n+1+cx+ct+ce < 1000000000:=by omega
    have b2:n+1+cx+ct < 1000000000:=by omega
    have b3:n+1+cx < 1000000000:=by omega
    clear hd;go_upto_region 8 with (go_at_call 151;refine (HTH.out _ (Keeps.refl _ _)).mono ?_;rintro e w2 ⟨rfl,g1⟩;have G1:=Lib.hid g1;have d3':=g1.cell (p:=⟨g,o+i*10+3,none⟩) (fun h=>h) d3;have d4':=g1.cell (p:=⟨g,o+i*10+4,none⟩) (fun h=>h) d4;have d5':=g1.cell (p:=⟨g,o+i*10+5,none⟩) (fun h=>h) d5;have d6':=g1.cell (p:=⟨g,o+i*10+6,none⟩) (fun h=>h) d6;clear g1)
    go_upto_region 9 with (go_at_call 98;refine (HX.out _ G1.out).mono ?_;rintro e wx ⟨rfl,gx⟩;have GX:=Lib.hid (G1.out.zB gx);have d8':=(G1.out.zB gx).cell (p:=⟨g,o+i*10+8,none⟩) (fun h=>h) d8;clear gx d3' d4' d5' d6')
    go_upto_region 10 with (go_at_call 95;refine (HTT.out _ GX.out).mono ?_;rintro e w3 ⟨rfl,g2⟩;have d9':=(GX.out.zB g2).cell (p:=⟨g,o+i*10+9,none⟩) (fun h=>h) d9;have G2:=Lib.hid (GX.out.zB g2);clear g2 d8')
    go_wp2_with (go_at_call 95;refine (HEE.out _ G2.out).mono ?_;rintro e w4 ⟨rfl,g3⟩;have G3:=Lib.hid (G2.out.zB g3);clear g3)
    go_roundw
    case rel=>exact ⟨i+1,n+1+cx+ct+ce,by omega,by go_num,by go_num,by show _=_;have:=HD.out;omega,HK.out.zB G3.out⟩
    case measure=>simp [intOf];omega
  ·obtain rfl:i=l.length:=by omega
   have hd:=HN.out;rw [List.drop_length] at hd;simp only [St.zM] at hd;obtain rfl:n=tot:=by omega
   go_wp2_with fail
   go_ret
   exact ⟨by go_num,HK.out⟩
theorem zPj (l:List St):zHQ l:=by
 have key:∀ x:St,zHQ x.thn /\ zHQ x.els:=fun x=>St.ind (P:=fun x=>zHQ x.thn /\ zHQ x.els) (fun k r o x c t e h1 h2=>⟨zGS t h1,zGS e h2⟩) x
 exact zGS l (fun y _=>key y)
def zHR (l:List St):Prop:=∀ (w:World) (F:Nat -> Prop) (ad:Option Addr) (cap d:Nat),zm w F l ad -> d+St.szL l < 1000000000 →
 Calls Tryz.prog 94 #[.slice ad l.length cap, .int .i64 d] w fun e w'=>e=.returned (.int .i64 (St.zk d l:Nat)) /\ Keeps zA w w'
theorem zGN (l:List St) (ih:∀ y,y ∈ l -> zHR y.thn /\ zHR y.els):zHR l:=by
 intro w F ad cap d h hb
 have HL:=Lib.hid h;have IH:=Lib.hid ih;have hl:=St.zAY l;have hcl:=St.zB4 d l;have HB:=Lib.hid hb;obtain ⟨tot,ht⟩:=eX (St.zk d l);have HT:=Lib.hid ht;rw [<- ht] at hcl ⊢;have hb1:l.length < 1000000000:=by omega
 have hb2:tot < 1000000000:=by omega
 have hb3:d < 1000000000:=by omega
 clear h ih ht hb hl hcl;have hw:IntKind.i64.wrap ((d:Int)+1)=(d:Int)+1:=wrap_small _ (by omega) (by omega);go_enter Tryz.func94,Tryz.ntmps94
 go_wp2_with fail
 go_loopw [5,6] (fun nv iv wr=>∃ i n:Nat,i <= l.length /\ nv=.int .i64 n /\ iv=.int .i64 i /\ Hid (max n (St.zk d (l.drop i))=tot) /\ Hid (Keeps zA w wr)) (fun _ iv _=>l.length - (intOf iv).toNat)
 case atStart=>exact ⟨0,0,Nat.zero_le _,rfl,rfl,by show _=_;rw [List.drop_zero,HT.out];omega,Keeps.refl _ _⟩
 case round =>
  obtain ⟨i,n,hi,rfl,rfl,HN,HK⟩:=hrel;by_cases hlt:i < l.length
  ·have i1:(0:Int) <= i:=by omega
   have i2:(i:Int) < l.length:=by omega
   have hd:=HN.out;rw [drop_at hlt] at hd;simp only [St.zk,St.zIp] at hd;obtain ⟨g,o,xa,xc,ta,tc,ea,ec,e1,hg,d0,d1,d2,d3,d4,d5,d6,d7,d8,d9,hx,hxt,hxe⟩:=(HL.out.keeps HK.out (fun _ _ h=>h)).at hlt;subst e1;have hsz:=St.zBk (List.getElem_mem hlt);rw [St.zB1] at hsz;have hB:=HB.out;have e:((d+1:Nat):Int)=(d:Int)+1:=by omega
   have HTH:Hid (∀ W,Keeps zA wr W -> Calls Tryz.prog 151 #[.agg #[.int .i64 l[i].ex.kind, .int .i64 l[i].ex.num, .string l[i].ex.nm, .slice xa l[i].ex.args.length xc]] W fun e w'=>e=.returned (.bool l[i].ex.there) /\ Keeps zA W w'):=fun W hk=>zEo l[i].ex W xa xc
   have HX:Hid (∀ W,Keeps zA wr W -> Calls Tryz.prog 152 #[.agg #[.int .i64 l[i].ex.kind, .int .i64 l[i].ex.num, .string l[i].ex.nm, .slice xa l[i].ex.args.length xc]] W fun e w'=>e=.returned (.int .i64 l[i].ex.dep) /\ Keeps zA W w'):=fun W hk=>zGm l[i].ex W F xa xc (hx.keeps hk (fun _ _ h=>h)) (by omega)
   have HTT:Hid (∀ W,Keeps zA wr W -> Calls Tryz.prog 94 #[.slice ta l[i].thn.length tc, .int .i64 ((d:Int)+1)] W fun e w'=>e=.returned (.int .i64 (St.zk (d+1) l[i].thn:Nat)) /\ Keeps zA W w'):=fun W hk=>by rw [<- e];exact (IH.out _ (List.getElem_mem hlt)).1 W F ta tc (d+1) (hxt.keeps hk (fun _ _ h=>h)) (by omega)
   have HEE:Hid (∀ W,Keeps zA wr W -> Calls Tryz.prog 94 #[.slice ea l[i].els.length ec, .int .i64 ((d:Int)+1)] W fun e w'=>e=.returned (.int .i64 (St.zk (d+1) l[i].els:Nat)) /\ Keeps zA W w'):=fun W hk=>by rw [<- e];exact (IH.out _ (List.getElem_mem hlt)).2 W F ea ec (d+1) (hxe.keeps hk (fun _ _ h=>h)) (by omega)
   obtain ⟨th,hth⟩:=eX (l[i].ex.there);obtain ⟨cx,hcx⟩:=eX (l[i].ex.dep);obtain ⟨ct,hct⟩:=eX (St.zk (d+1) l[i].thn);obtain ⟨ce,hce⟩:=eX (St.zk (d+1) l[i].els);rw [<- hth] at HTH hd;rw [<- hcx] at HX hd;rw [<- hct] at HTT hd;rw [<- hce] at HEE hd;clear hx hxt hxe hsz hB hth hcx hct hce d0 d1 d2 d7 e;generalize l[i].ex.kind=x3 at d3 HX HTH;generalize l[i].ex.num=x4 at d4 HX HTH;generalize l[i].ex.nm=x5 at d5 HX HTH;generalize l[i].ex.args.length=x6 at d6 HX HTH;generalize l[i].thn.length=x8 at d8 HTT;generalize l[i].els.length=x9 at d9 HEE;obtain ⟨n1,hn1⟩:=eX (max n d);have m1:max (n:Int) (d:Int)=(n1:Int):=by omega
   cases th
   ·rw [if_neg (by decide)] at hd
    obtain ⟨n2,hn2⟩:=eX (max n1 ct);have m2:max (n1:Int) (ct:Int)=(n2:Int):=by omega
    obtain ⟨n3,hn3⟩:=eX (max n2 ce);have m3:max (n2:Int) (ce:Int)=(n3:Int):=by omega
    have HD:Hid (max n3 (St.zk d (l.drop (i+1)))=tot):=by show _=_;omega
    clear hd hn1 hn2 hn3;go_upto_region 10 with (go_at_call 151;refine (HTH.out _ (Keeps.refl _ _)).mono ?_;rintro e w2 ⟨rfl,g1⟩;have G1:=Lib.hid g1;have d8':=g1.cell (p:=⟨g,o+i*10+8,none⟩) (fun h=>h) d8;clear g1)
    go_upto_region 12 with (go_at_call 94;refine (HTT.out _ G1.out).mono ?_;rintro e w3 ⟨rfl,g2⟩;have d9':=(G1.out.zB g2).cell (p:=⟨g,o+i*10+9,none⟩) (fun h=>h) d9;have G2:=Lib.hid (G1.out.zB g2);clear g2 d8')
    exact J48 _
   ·rw [if_pos rfl] at hd
    obtain ⟨nx,hnx⟩:=eX (max n1 cx);have mx:max (n1:Int) (cx:Int)=(nx:Int):=by omega
    obtain ⟨n2,hn2⟩:=eX (max nx ct);have m2:max (nx:Int) (ct:Int)=(n2:Int):=by omega
    obtain ⟨n3,hn3⟩:=eX (max n2 ce);have m3:max (n2:Int) (ce:Int)=(n3:Int):=by omega
    have HD:Hid (max n3 (St.zk d (l.drop (i+1)))=tot):=by show _=_;omega
    clear hd hn1 hn2 hn3 hnx;go_upto_region 8 with (go_at_call 151;refine (HTH.out _ (Keeps.refl _ _)).mono ?_;rintro e w2 ⟨rfl,g1⟩;have G1:=Lib.hid g1;have d3':=g1.cell (p:=⟨g,o+i*10+3,none⟩) (fun h=>h) d3;have d4':=g1.cell (p:=⟨g,o+i*10+4,none⟩) (fun h=>h) d4;have d5':=g1.cell (p:=⟨g,o+i*10+5,none⟩) (fun h=>h) d5;have d6':=g1.cell (p:=⟨g,o+i*10+6,none⟩) (fun h=>h) d6;clear g1)
    go_upto_region 10 with (go_at_call 152;refine (HX.out _ G1.out).mono ?_;rintro e wx ⟨rfl,gx⟩;have GX:=Lib.hid (G1.out.zB gx);have d8':=(G1.out.zB gx).cell (p:=⟨g,o+i*10+8,none⟩) (fun h=>h) d8;clear gx d3' d4' d5' d6')
    go_upto_region 12 with (go_at_call 94;refine (HTT.out _ GX.out).mono ?_;rintro e w3 ⟨rfl,g2⟩;have d9':=(GX.out.zB g2).cell (p:=⟨g,o+i*10+9,none⟩) (fun h=>h) d9;have G2:=Lib.hid (GX.out.zB g2);clear g2 d8')
    exact J48 _
  ·obtain rfl:i=l.length:=by omega
   have hd:=HN.out;rw [List.drop_length] at hd;simp only [St.zk] at hd;obtain rfl:n=tot:=by omega
   go_wp2_with fail
   go_ret
   exact ⟨by go_num,HK.out⟩
theorem zPk (l:List St):zHR l:=by
 have key:∀ x:St,zHR x.thn /\ zHR x.els:=fun x=>St.ind (P:=fun x=>zHR x.thn /\ zHR x.els) (fun k r o x c t e h1 h2=>⟨zGN t h1,zGN e h2⟩) x
 exact zGN l (fun y _=>key y)
theorem zGc (nm:ByteArray) (ts:List (List St)) (w:World) (F:Nat -> Prop) (pca pma ta:Option Addr) (pcn pcc pmn pmc tc:Nat) (h:zAP w F nm ts ta) (hb:zBC ts < 900000000) :
 Calls Tryz.prog 51 #[.agg #[.slice pca pcn pcc, .slice pma pmn pmc, .slice ta ts.length tc]] w fun e w'=>e=.returned (.int .i64 (zAH ts:Nat)) /\ Keeps zA w w':=by
 have HL:=Lib.hid h;have hl:=zHJ ts;have hc:=zHl ts;have HB:=Lib.hid hb;obtain ⟨tot,ht⟩:=eX (zAH ts);have HT:=Lib.hid ht;rw [<- ht] at hc ⊢;have hb1:ts.length < 1000000000:=by omega
 have hb2:tot < 1000000000:=by omega
 clear h ht hb hl hc;go_enter Tryz.func51,Tryz.ntmps51
 go_upto_region 1 with fail
 obtain ⟨b1,hb1⟩:=eX w.heap.size;have hr1:zC (w.alloc (.cells #[.slice pca pcn pcc, .slice pma pmn pmc, .slice ta ts.length tc] 102)) b1 [.slice pca pcn pcc, .slice pma pmn pmc, .slice ta ts.length tc]:=J150 _;have hk1:Keeps zA w (w.alloc (.cells #[.slice pca pcn pcc, .slice pma pmn pmc, .slice ta ts.length tc] 102)):=(Keeps.refl _ _).alloc _;rw [<- hb1];generalize w.alloc (.cells #[.slice pca pcn pcc, .slice pma pmn pmc, .slice ta ts.length tc] 102)=w1 at hr1 hk1 ⊢;have R1:=Lib.hid hr1;have K1:=Lib.hid hk1;clear hr1 hk1 hb1;go_wp2_with fail
 go_loopw [3,4] (fun nv iv wr=>∃ i n:Nat,i <= ts.length /\ nv=.int .i64 n /\ iv=.int .i64 i /\ Hid (n+zAH (ts.drop i)=tot) /\ Hid (Keeps zA w1 wr)) (fun _ iv _=>ts.length - (intOf iv).toNat)
 case atStart=>exact ⟨0,0,Nat.zero_le _,rfl,rfl,by show _=_;rw [List.drop_zero,HT.out];omega,Keeps.refl _ _⟩
 case round =>
  obtain ⟨i,n,hi,rfl,rfl,HN,HK⟩:=hrel;obtain ⟨y0,y1,y2⟩:=(R1.out.keeps HK.out (fun h=>h)).three;by_cases hlt:i < ts.length
  ·have i1:(0:Int) <= i:=by omega
   have i2:(i:Int) < ts.length:=by omega
   have hd:=HN.out;rw [drop_at hlt] at hd;simp only [zAH] at hd;obtain ⟨g,o,ba,bc,e1,hg,d0,d1,hx⟩:=(HL.out.keeps (K1.out.zB HK.out) (fun _ _ h=>h)).at hlt;subst e1;have HX:Hid (∀ W,Keeps zA wr W -> Calls Tryz.prog 95 #[.slice ba ts[i].length bc] W fun e w'=>e=.returned (.int .i64 (St.zM ts[i]:Nat)) /\ Keeps zA W w'):=fun W hk=>zPj ts[i] W F ba bc (hx.keeps hk (fun _ _ h=>h)) (by have:=zC4 (List.getElem_mem hlt);have:=HB.out;omega)
   obtain ⟨m,hm⟩:=eX (St.zM ts[i]);rw [<- hm] at HX hd;have HD:=Lib.hid hd;have b2:n+m < 1000000000:=by omega
   clear hx hm hd;generalize ts[i].length=x1 at d1 HX;go_wp2_with (go_at_call 95;refine (HX.out _ (Keeps.refl _ _)).mono ?_;rintro e w2 ⟨rfl,g1⟩;have G1:=Lib.hid g1;clear g1)
   exact J90 _
  ·obtain rfl:i=ts.length:=by omega
   have hd:=HN.out;rw [List.drop_length] at hd;simp only [zAH] at hd;exact J72 _
theorem zHc (nm:ByteArray) (ts:List (List St)) (w:World) (F:Nat -> Prop) (pca pma ta:Option Addr) (pcn pcc pmn pmc tc:Nat) (h:zAP w F nm ts ta) (hb:zBC ts < 900000000) :
 Calls Tryz.prog 50 #[.agg #[.slice pca pcn pcc, .slice pma pmn pmc, .slice ta ts.length tc]] w fun e w'=>e=.returned (.int .i64 (zy ts:Nat)) /\ Keeps zA w w':=by
 have HL:=Lib.hid h;have hl:=zHJ ts;have hc:=zER ts;have HB:=Lib.hid hb;obtain ⟨tot,ht⟩:=eX (zy ts);have HT:=Lib.hid ht;rw [<- ht] at hc ⊢;have hb1:ts.length < 1000000000:=by omega
 have hb2:tot < 1000000000:=by omega
 clear h ht hb hl hc;go_enter Tryz.func50,Tryz.ntmps50
 go_upto_region 1 with fail
 obtain ⟨b1,hb1⟩:=eX w.heap.size;have hr1:zC (w.alloc (.cells #[.slice pca pcn pcc, .slice pma pmn pmc, .slice ta ts.length tc] 102)) b1 [.slice pca pcn pcc, .slice pma pmn pmc, .slice ta ts.length tc]:=J150 _;have hk1:Keeps zA w (w.alloc (.cells #[.slice pca pcn pcc, .slice pma pmn pmc, .slice ta ts.length tc] 102)):=(Keeps.refl _ _).alloc _;rw [<- hb1];generalize w.alloc (.cells #[.slice pca pcn pcc, .slice pma pmn pmc, .slice ta ts.length tc] 102)=w1 at hr1 hk1 ⊢;have R1:=Lib.hid hr1;have K1:=Lib.hid hk1;clear hr1 hk1 hb1;go_wp2_with fail
 go_loopw [3,4] (fun nv iv wr=>∃ i n:Nat,i <= ts.length /\ nv=.int .i64 n /\ iv=.int .i64 i /\ Hid (max n (zy (ts.drop i))=tot) /\ Hid (Keeps zA w1 wr)) (fun _ iv _=>ts.length - (intOf iv).toNat)
 case atStart=>exact ⟨0,0,Nat.zero_le _,rfl,rfl,by show _=_;rw [List.drop_zero,HT.out];omega,Keeps.refl _ _⟩
 case round =>
  obtain ⟨i,n,hi,rfl,rfl,HN,HK⟩:=hrel;obtain ⟨y0,y1,y2⟩:=(R1.out.keeps HK.out (fun h=>h)).three;by_cases hlt:i < ts.length
  ·have i1:(0:Int) <= i:=by omega
   have i2:(i:Int) < ts.length:=by omega
   have hd:=HN.out;rw [drop_at hlt] at hd;simp only [zy] at hd;obtain ⟨g,o,ba,bc,e1,hg,d0,d1,hx⟩:=(HL.out.keeps (K1.out.zB HK.out) (fun _ _ h=>h)).at hlt;subst e1;have HX:Hid (∀ W,Keeps zA wr W -> Calls Tryz.prog 94 #[.slice ba ts[i].length bc, .int .i64 1] W fun e w'=>e=.returned (.int .i64 (St.zk 1 ts[i]:Nat)) /\ Keeps zA W w'):=fun W hk=>zPk ts[i] W F ba bc 1 (hx.keeps hk (fun _ _ h=>h)) (by have:=zC4 (List.getElem_mem hlt);have:=HB.out;omega)
   obtain ⟨m,hm⟩:=eX (St.zk 1 ts[i]);rw [<- hm] at HX hd;obtain ⟨n1,hn1⟩:=eX (max n m);have m1:max (n:Int) (m:Int)=(n1:Int):=by omega
   have HD:Hid (max n1 (zy (ts.drop (i+1)))=tot):=by show _=_;omega
   clear hx hm hd hn1;generalize ts[i].length=x1 at d1 HX;go_wp2_with (go_at_call 94;refine (HX.out _ (Keeps.refl _ _)).mono ?_;rintro e w2 ⟨rfl,g1⟩;have G1:=Lib.hid g1;clear g1)
   go_roundw
   case rel=>exact ⟨i+1,n1,by omega,by first | rfl | (congr 1;omega) | go_num,by go_num,HD,HK.out.zB G1.out⟩
   case measure=>simp [intOf];omega
  ·obtain rfl:i=ts.length:=by omega
   have hd:=HN.out;rw [List.drop_length] at hd;simp only [zy] at hd;exact J72 _
end Go.Proofs.YtoapgjjepiopbaaGreatDoor
