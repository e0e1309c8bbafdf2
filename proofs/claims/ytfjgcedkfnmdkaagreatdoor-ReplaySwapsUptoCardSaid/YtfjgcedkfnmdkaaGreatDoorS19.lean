/- Layer S: texts joined. -/
import Derived.Test.YtfjgcedkfnmdkaaGreatDoorS18
set_option linter.all false
set_option maxHeartbeats 2000000
set_option maxRecDepth 8000
namespace Go.Proofs.YtfjgcedkfnmdkaaGreatDoor
open Go.RowKit
theorem J46 (P:Prop) (h:P:=by
 go_wp2_with (go_at_call 113;refine (HEE.out _ G2.out).mono ?_;rintro e w4 ⟨rfl,g3⟩;have G3:=yA (G2.out.zB g3);clear g3)
 go_roundw
 case rel=>exact ⟨i+1,n3,by omega,by first | rfl | (congr 1;omega) | go_num,by go_num,HD,HK.out.zB G3.out⟩
 case measure=>simp [intOf];omega):P:=h
theorem J63 (P:Prop) (h:P:=by
 obtain rfl:n=tot:=by omega
 go_wp2_with fail
 go_ret
 exact ⟨by go_num,K1.out.zB HK.out⟩):P:=h
mutual
def Ex.pts:Ex -> Nat
 | .mk k _ _ l=>if k=0 then 0 else 1+Ex.zFm l
def Ex.zFm:List Ex -> Nat
 | []=>0
 | x :: r=>Ex.pts x+Ex.zFm r
end
theorem zJ4 {k num regs:Int} {nm:ByteArray} {n:Nat} (h:zAC k num nm n regs=true):k ≠ 0:=by
 intro e;subst e;simp [zAC] at h
mutual
theorem Ex.zJb (regs:Int):(x:Ex) -> x.may regs=true -> x.pts=x.cnt
 | .mk k num nm l,h=>by
   simp only [Ex.may,yR] at h;have h1:=Ex.zHu regs l h.2;simp only [Ex.pts,Ex.cnt,if_neg (zJ4 h.1),h1]
theorem Ex.zHu (regs:Int):(l:List Ex) -> Ex.zAA regs l=true -> Ex.zFm l=Ex.zY l
 | [],_=>rfl
 | x :: r,h=>by
   simp only [Ex.zAA,yR] at h;have h1:=Ex.zJb regs x h.1;have h2:=Ex.zHu regs r h.2;simp only [Ex.zFm,Ex.zY,h1,h2]
end
mutual
theorem Ex.zK5:(x:Ex) -> x.pts <= x.cnt
 | .mk k num nm l=>by
   have h:=Ex.zGv l;simp only [Ex.pts,Ex.cnt];split <;> omega
theorem Ex.zGv:(l:List Ex) -> Ex.zFm l <= Ex.zY l
 | []=>yV _
 | x :: r=>by
   have h1:=Ex.zK5 x;have h2:=Ex.zGv r;simp only [Ex.zFm,Ex.zY];omega
end
def Ex.own (x:Ex):Nat:=1+(if x.kind=0 then 0 else x.cnt)
theorem Ex.zNr (x:Ex):x.own <= 1+x.cnt:=by unfold Ex.own;split <;> omega
mutual
def Ac.stp:Ac -> Nat
 | .mk k _ _ _ c t e=>if k=1 then 0 else if k=10 then max (Ac.zZ t) (Ac.zZ e) else if k=11 then Ac.zZ t*c.toNat else 1
def Ac.zZ:List Ac -> Nat
 | []=>0
 | x :: r=>Ac.stp x+Ac.zZ r
end
mutual
def Ac.wrk:Ac -> Nat
 | .mk k _ _ x c t e=>x.own+(if k=10 then max (Ac.zU t) (Ac.zU e) else if k=11 then (Ac.zU t+1)*c.toNat else 0)
def Ac.zU:List Ac -> Nat
 | []=>0
 | x :: r=>Ac.wrk x+Ac.zU r
end
mutual
def Ac.okc:Ac -> Prop
 | .mk _ _ _ x c t e=>(0 <= c /\ c <= 1000) /\ x.pts=(if x.kind=0 then 0 else x.cnt) /\ Ac.zDo t /\ Ac.zDo e
def Ac.zDo:List Ac -> Prop
 | []=>True
 | x :: r=>Ac.okc x /\ Ac.zDo r
end
theorem Ac.zFc {l:List Ac} (h:Ac.zDo l) {y:Ac} (hy:y ∈ l):y.okc:=by
 induction l with
 | nil=>cases hy
 | cons x r ih =>
   simp only [Ac.zDo] at h;rcases xS.1 hy with e | e
   ·subst e;exact h.1
   ·exact ih h.2 e
theorem Ac.zIo {x:Ac} (h:x.okc):(0 <= x.count /\ x.count <= 1000) /\ x.ex.pts=(if x.ex.kind=0 then 0 else x.ex.cnt) /\ Ac.zDo x.thn /\ Ac.zDo x.els:=by
 cases x;simp only [Ac.okc] at h;exact h
theorem Ac.zEr (x:Ac):x.stp=if x.kind=1 then 0 else if x.kind=10 then max (Ac.zZ x.thn) (Ac.zZ x.els) else if x.kind=11 then Ac.zZ x.thn*x.count.toNat else 1:=by
 cases x;simp only [Ac.stp];rfl
theorem Ac.zGq (x:Ac):x.wrk=x.ex.own+(if x.kind=10 then max (Ac.zU x.thn) (Ac.zU x.els) else if x.kind=11 then (Ac.zU x.thn+1)*x.count.toNat else 0):=by
 cases x;simp only [Ac.wrk];rfl
theorem zOK {x:Ex} {regs:Int} (h:x.may regs=true \/ x.none=true):x.pts=(if x.kind=0 then 0 else x.cnt):=by
 rcases h with h | h
 ·have h1:=Ex.zJb regs x h
  have h2:=zER h;rw [if_neg h2,h1]
 ·cases x with
  | mk k num nm l =>
    simp only [Ex.none,yR,beq_iff_eq] at h;have hk:=h.1.1.1;subst hk;show Ex.pts (.mk 0 num nm l)=if (0:Int)=0 then 0 else _
    simp [Ex.pts]
mutual
theorem Ac.zM0 (u:Un) (regs:Int):(x:Ac) -> Ac.may u regs x=true -> x.okc
 | .mk k reg obj ex count t e,h=>by
   simp only [Ac.may,yR] at h;have h1:=Ac.zEV u regs t h.1.2;have h2:=Ac.zEV u regs e h.2;have h3:=h.1.1;unfold zBC at h3;simp only [yR] at h3;obtain ⟨⟨⟨⟨⟨⟨⟨_,_⟩,_⟩,_⟩,hx⟩,hc⟩,_⟩,_⟩:=h3;simp only [Ac.okc];refine ⟨?_,zOK (regs:=regs) ?_,h1,h2⟩
   ·cases hf:(fields k).count
    ·rw [hf] at hc
     have:count=0:=by simpa using hc
     subst this;exact ⟨by decide,by decide⟩
    ·rw [hf] at hc
     simp only [kD,yR,yS] at hc;exact hc
   ·cases hf:(fields k).ex
    ·rw [hf] at hx;exact .inr (by simpa using hx)
    ·rw [hf] at hx;exact .inl (by simpa using hx)
theorem Ac.zEV (u:Un) (regs:Int):(l:List Ac) -> Ac.zAA u regs l=true -> Ac.zDo l
 | [],_=>trivial
 | x :: r,h=>by
   simp only [Ac.zAA,yR] at h;simp only [Ac.zDo];exact ⟨Ac.zM0 u regs x h.1,Ac.zEV u regs r h.2⟩
end
theorem zNs (n:Nat):n+1 <= 2 ^ n:=Nat.lt_two_pow_self
mutual
theorem Ac.zN6:(x:Ac) -> x.okc -> x.wrk+1 <= 2 ^ (11*x.sz)
 | .mk k reg obj ex c t e,h=>by
   simp only [Ac.okc] at h;have h1:=Ac.zEW t h.2.2.1;have h2:=Ac.zEW e h.2.2.2;have h3:=Ex.zNr ex;have hc:c.toNat <= 1000:=by omega
   have hq:2048*(ex.cnt+1) <= 2 ^ (11*(1+ex.cnt)):=by
    have h4:=zNs (11*ex.cnt);rw [show 11*(1+ex.cnt)=11+11*ex.cnt by omega,Nat.pow_add];exact Nat.mul_le_mul (by decide) (by omega)
   simp only [Ac.wrk,Ac.sz];rw [yg,yg,Nat.pow_add,Nat.pow_add];generalize 2 ^ (11*(1+ex.cnt))=Q at hq ⊢;generalize 2 ^ (11*Ac.szL t)=A at h1 ⊢;generalize 2 ^ (11*Ac.szL e)=B at h2 ⊢;have hA:1 <= A:=by omega
   have hB:1 <= B:=by omega
   have hAB:max A B <= A*B:=by
    rcases Nat.le_total A B with hh | hh
    ·rw [Nat.max_eq_right hh];exact Nat.le_mul_of_pos_left B hA
    ·rw [Nat.max_eq_left hh];exact vV A hB
   have hA2:A <= A*B:=vV A hB;rw [Nat.mul_assoc];generalize A*B=P at hAB hA2 ⊢;have hP:1 <= P:=by omega
   have key:∀ z,z <= 1000*P -> ex.own+z+1 <= Q*P:=fun z hz=>by
    have h5:2048*(ex.cnt+1)*P <= Q*P:=vR P hq;have h6:ex.cnt+1 <= (ex.cnt+1)*P:=vV _ hP;rw [Nat.mul_assoc] at h5;have h7:P <= (ex.cnt+1)*P:=Nat.le_mul_of_pos_left P (by omega);omega
   split
   ·exact key _ (by omega)
   ·split
    ·refine key _ ?_
     have h8:(Ac.zU t+1)*c.toNat <= P*1000:=Nat.mul_le_mul (by omega) hc;omega
    ·exact key 0 (by omega)
theorem Ac.zEW:(l:List Ac) -> Ac.zDo l -> Ac.zU l+1 <= 2 ^ (11*Ac.szL l)
 | [],_=>by simp [Ac.zU,Ac.szL]
 | x :: r,h=>by
   simp only [Ac.zDo] at h;have h1:=Ac.zN6 x h.1;have h2:=Ac.zEW r h.2;simp only [Ac.zU,Ac.szL];rw [yg,Nat.pow_add];have h3:(x.wrk+1)*(Ac.zU r+1) <= 2 ^ (11*x.sz)*2 ^ (11*Ac.szL r):=Nat.mul_le_mul h1 h2
   have h4:x.wrk+Ac.zU r+1 <= (x.wrk+1)*(Ac.zU r+1):=by
    rw [vM,yg];omega
   omega
end
mutual
theorem Ac.zNz:(x:Ac) -> x.stp <= x.wrk
 | .mk k reg obj ex c t e=>by
   have h1:=Ac.zBO t;have h2:=Ac.zBO e;have h3:1 <= ex.own:=by unfold Ex.own;omega
   simp only [Ac.stp,Ac.wrk];split
   ·omega
   ·split
    ·omega
    ·split
     ·have h4:Ac.zZ t*c.toNat <= (Ac.zU t+1)*c.toNat:=vR _ (by omega)
      omega
     ·omega
theorem Ac.zBO:(l:List Ac) -> Ac.zZ l <= Ac.zU l
 | []=>yV _
 | x :: r=>by
   have h1:=Ac.zNz x;have h2:=Ac.zBO r;simp only [Ac.zZ,Ac.zU];omega
end
theorem zEk {b n:Nat} (hb:2 <= b):2 ^ n <= b ^ n:=Nat.pow_le_pow_left hb n
theorem Ac.zCO {b:Nat} (hb:2 <= b) {l:List Ac} (h:Ac.zDo l) (hs:Ac.szL l < 1000000000) {m:Nat} (hm:m <= Ac.zU l+1):(zw b m).length <= 12000000000:=by
 have h1:=Ac.zEW l h
 have h2:m < b ^ (11*Ac.szL l+1):=by
  have h3:=zEk (n:=11*Ac.szL l) hb;have h4:0 < b ^ (11*Ac.szL l):=kF (by omega);have h5:2*b ^ (11*Ac.szL l) <= b*b ^ (11*Ac.szL l):=vR _ hb;rw [uO,Nat.mul_comm];omega
 have:=zCw hb h2
 omega
theorem Ac.zGg {l:List Ac} {i:Nat} (hi:i < l.length):Ac.zZ (l.take (i+1))=Ac.zZ (l.take i)+l[i].stp:=by
 have key:∀ (a b:List Ac),Ac.zZ (a++b)=Ac.zZ a+Ac.zZ b:=by
  intro a b
  induction a with
  | nil=>simp [Ac.zZ]
  | cons x r ih=>simp only [vH,Ac.zZ,ih];omega
 rw [take_at hi,key];simp [Ac.zZ]
theorem Ac.zGc {l:List Ac} {i:Nat} (hi:i < l.length):Ac.zU (l.take (i+1))=Ac.zU (l.take i)+l[i].wrk:=by
 have key:∀ (a b:List Ac),Ac.zU (a++b)=Ac.zU a+Ac.zU b:=by
  intro a b
  induction a with
  | nil=>simp [Ac.zU]
  | cons x r ih=>simp only [vH,Ac.zU,ih];omega
 rw [take_at hi,key];simp [Ac.zU]
theorem Ac.zGU (l:List Ac) (i:Nat):Ac.zU (l.take i) <= Ac.zU l:=by
 induction l generalizing i with
 | nil=>simp
 | cons x r ih =>
   cases i with
   | zero=>simp [Ac.zU]
   | succ i=>have:=ih i;simp only [List.take_succ_cons,Ac.zU];omega
theorem Ac.zGJ (l:List Ac) (i:Nat):Ac.zZ (l.take i) <= Ac.zZ l:=by
 induction l generalizing i with
 | nil=>simp
 | cons x r ih =>
   cases i with
   | zero=>simp [Ac.zZ]
   | succ i=>have:=ih i;simp only [List.take_succ_cons,Ac.zZ];omega
def zN (w:World) (F:Nat -> Prop) (b n:Nat) (v:Value):Prop:=∃ ad cap,v=.slice ad (zw b n).length cap /\ zAH w F b n ad
theorem zN.keeps {S F:Nat -> Prop} {w w':World} {b n:Nat} {v:Value} (h:zN w F b n v) (hk:Keeps S w w') (hS:∀ k,F k -> ¬ S k):zN w' F b n v:=by
 obtain ⟨ad,cap,e,h1⟩:=h;exact ⟨ad,cap,e,h1.keeps hk hS⟩
theorem zN.zF {F:Nat -> Prop} {w w':World} {b n:Nat} {v:Value} (h:zN w F b n v) (hk:Keeps zA w w'):zN w' F b n v:=h.keeps hk (fun _ _ h=>h)
theorem zN.mono {F F':Nat -> Prop} {w:World} {b n:Nat} {v:Value} (h:zN w F b n v) (hF:∀ k,F k -> F' k):zN w F' b n v:=by
 obtain ⟨ad,cap,e,h1⟩:=h;exact ⟨ad,cap,e,h1.mono hF⟩
theorem zN.zero (w:World) (F:Nat -> Prop) (b:Nat):zN w F b 0 (.slice none 0 0):=⟨none,0,by rw [zCA];rfl,zAH.zero _ _ _ _⟩
theorem zBS.v {b m:Nat} {w w':World} {e:Ending} (h:zBS b m w e w'):∃ v,e=.returned v /\ zN w' (Since w.heap.size w') b m v /\ Keeps zA w w':=by
 obtain ⟨ad,cap,he,h1,h2⟩:=h;exact ⟨_,he,⟨ad,cap,rfl,h1⟩,h2⟩
theorem zCf {b:Nat} (hb:2 <= b):zw b 1=[1]:=by
 rw [zGi hb (by decide),Nat.mod_eq_of_lt (by omega),yf (by omega),zCA]
theorem zN.one {b:Nat} (hb:2 <= b) {w:World} {g:Nat} (F:Nat -> Prop) (hg:zC w g [.int .i64 1]) (hF:F g):zN w F b 1 (.slice (some ⟨g,0,none⟩) 1 1):=by
 refine ⟨some ⟨g,0,none⟩,1,by rw [zCf hb];rfl,fun i hi=>?_⟩
 rw [zCf hb] at hi;have hi0:i=0:=by simpa using hi
 subst hi0;refine ⟨g,0,rfl,hF,?_⟩
 rw [Nat.pow_zero,Nat.div_one,Nat.mod_eq_of_lt (by omega)];exact hg.cell (k:=0) rfl
theorem zG4:∀ (x:Ex) (w:World) (F:Nat -> Prop) (ad:Option Addr) (cap:Nat),zR w F x.args ad -> x.cnt < 1000000000 →
 Calls Tryz.prog 134 #[exV x ad cap] w fun e w'=>e=.returned (.int .i64 x.dep) /\ Keeps zA w w':=by
 refine Ex.ind (fun k num nm l ih w F ad cap h hb=>?_)
 have HL:Hid (zR w F l ad):=h;have IH:=yA ih;have hl:=Ex.zAg l;have hcn:Ex.cnt (.mk k num nm l)=1+Ex.zY l:=by simp [Ex.cnt]
 have hdn:Ex.dep (.mk k num nm l)=Ex.zCa l+1:=by simp [Ex.dep]
 have hdl:Ex.zCa l+1 <= 1+Ex.zY l:=by rw [<- hcn,<- hdn];exact Ex.zGw _
 rw [hcn] at hb;rw [hdn];clear h ih hcn hdn;obtain ⟨tot,ht⟩:∃ t,t=Ex.zCa l:=⟨_,rfl⟩
 obtain ⟨tc,htc⟩:∃ t,t=Ex.zY l:=⟨_,rfl⟩
 have HT:=yA ht;have HTC:=yA htc;rw [<- ht] at hdl ⊢;rw [<- htc] at hb hl hdl;have hb2:tot < 1000000000:=by omega
 clear ht htc;show Calls _ _ #[.agg #[.int .i64 k, .int .i64 num, .string nm, .slice ad l.length cap]] _ _
 go_enter Tryz.func134,Tryz.ntmps134
 go_upto_region 1 with fail
 obtain ⟨b1,hb1⟩:∃ z,z=w.heap.size:=⟨_,rfl⟩
 have hr1:zC (w.alloc (.cells #[.int .i64 k, .int .i64 num, .string nm, .slice ad l.length cap] 72)) b1 [.int .i64 k, .int .i64 num, .string nm, .slice ad l.length cap]:=J150 _;have hk1:Keeps zA w (w.alloc (.cells #[.int .i64 k, .int .i64 num, .string nm, .slice ad l.length cap] 72)):=(yB _ _).alloc _;rw [<- hb1];generalize w.alloc (.cells #[.int .i64 k, .int .i64 num, .string nm, .slice ad l.length cap] 72)=w1 at hr1 hk1 ⊢;have R1:=yA hr1;have K1:=yA hk1;have c3:=hr1.cell (k:=3) (v:=.slice ad l.length cap) rfl;clear hr1 hk1 hb1;go_wp2_with fail
 go_loopw [3,4] (fun nv iv wr=>∃ i n:Nat,i <= l.length /\ nv=.int .i64 n /\ iv=.int .i64 i /\ Hid (max n (Ex.zCa (l.drop i))=tot) /\ Hid (Keeps zA w1 wr)) (fun _ iv _=>l.length - (intOf iv).toNat)
 case atStart=>exact ⟨0,0,yG _,rfl,rfl,by show _=_;rw [yQ,HT.out];omega,yB _ _⟩
 case round =>
  obtain ⟨i,n,hi,rfl,rfl,HN,HK⟩:=hrel;have c3':=(R1.out.keeps HK.out (fun h=>h)).cell (k:=3) (v:=.slice ad l.length cap) rfl;clear c3;by_cases hlt:i < l.length
  ·have i1:(0:Int) <= i:=by omega
   have i2:(i:Int) < l.length:=by omega
   have hd:=HN.out;rw [drop_at hlt,Ex.zCa] at hd;obtain ⟨g,o,a,c,e1,hg,d0,d1,d2,d3,hx⟩:=(HL.out.keeps (K1.out.zB HK.out) (fun _ _ h=>h)).at hlt;subst e1;have HC:Hid (∀ W,Keeps zA wr W -> Calls Tryz.prog 134 #[.agg #[.int .i64 l[i].kind, .int .i64 l[i].num, .string l[i].nm, .slice a l[i].args.length c]] W fun e w'=>e=.returned (.int .i64 l[i].dep) /\ Keeps zA W w'):=fun W hk=>IH.out _ (yJ hlt) W F a c (hx.keeps hk (fun _ _ h=>h)) (by have:=Ex.zB5 (yJ hlt);have:=HTC.out;omega)
   obtain ⟨m,hm⟩:∃ m,m=l[i].dep:=⟨_,rfl⟩
   rw [<- hm] at HC hd;have HD:=yA hd;clear hx hm hd;generalize l[i].kind=x0 at d0 HC;generalize l[i].num=x1 at d1 HC;generalize l[i].nm=x2 at d2 HC;generalize l[i].args.length=x3 at d3 HC;have hmx:max (n:Int) (m:Int)=((max n m:Nat):Int):=by omega
   go_wp2_with (go_at_call 134;refine (HC.out _ (yB _ _)).mono ?_;rintro e w2 ⟨rfl,g1⟩;have G1:=yA g1;clear g1)
   go_roundw
   case rel=>exact ⟨i+1,max n m,by omega,by first | rfl | (congr 1;omega) | go_num,by go_num,by show _=_;have:=HD.out;omega,HK.out.zB G1.out⟩
   case measure=>simp [intOf];omega
  ·obtain rfl:i=l.length:=by omega
   have hd:=HN.out;rw [xG] at hd;simp only [Ex.zCa] at hd;exact J63 _
def zHX (l:List St):Prop:=∀ (w:World) (F:Nat -> Prop) (ad:Option Addr) (cap:Nat),zq w F l ad -> St.szL l < 1000000000 →
 Calls Tryz.prog 114 #[.slice ad l.length cap] w fun e w'=>e=.returned (.int .i64 (St.zY l:Nat)) /\ Keeps zA w w'
theorem zGt (l:List St) (ih:∀ y,y ∈ l -> zHX y.thn /\ zHX y.els):zHX l:=by
 intro w F ad cap h hb
 have HL:=yA h;have IH:=yA ih;have hl:=St.zAg l;have hcl:=St.zCz l;have HB:=yA hb;obtain ⟨tot,ht⟩:∃ t,t=St.zY l:=⟨_,rfl⟩
 have HT:=yA ht;rw [<- ht] at hcl ⊢;have hb1:l.length < 1000000000:=by omega
 have hb2:tot < 1000000000:=by omega
 clear h ih ht hb hl hcl;go_enter Tryz.func114,Tryz.ntmps114
 go_wp2_with fail
 go_loopw [3,4] (fun nv iv wr=>∃ i n:Nat,i <= l.length /\ nv=.int .i64 n /\ iv=.int .i64 i /\ Hid (n+St.zY (l.drop i)=tot) /\ Hid (Keeps zA w wr)) (fun _ iv _=>l.length - (intOf iv).toNat)
 case atStart=>exact ⟨0,0,yG _,rfl,rfl,by show _=_;rw [yQ,HT.out];omega,yB _ _⟩
 case round =>
  obtain ⟨i,n,hi,rfl,rfl,HN,HK⟩:=hrel;by_cases hlt:i < l.length
  ·have i1:(0:Int) <= i:=by omega
   have i2:(i:Int) < l.length:=by omega
   have hd:=HN.out;rw [drop_at hlt] at hd;simp only [St.zY,St.zFk] at hd;obtain ⟨g,o,xa,xc,ta,tc,ea,ec,e1,hg,d0,d1,d2,d3,d4,d5,d6,d7,d8,d9,hx,hxt,hxe⟩:=(HL.out.keeps HK.out (fun _ _ h=>h)).at hlt;subst e1;have hsz:=St.zB1 (yJ hlt);rw [St.zCJ] at hsz;have hB:=HB.out;have HTH:Hid (∀ W,Keeps zA wr W -> Calls Tryz.prog 133 #[.agg #[.int .i64 l[i].ex.kind, .int .i64 l[i].ex.num, .string l[i].ex.nm, .slice xa l[i].ex.args.length xc]] W fun e w'=>e=.returned (.bool l[i].ex.there) /\ Keeps zA W w'):=fun W hk=>zFD l[i].ex W xa xc
   have HX:Hid (∀ W,Keeps zA wr W -> Calls Tryz.prog 117 #[.agg #[.int .i64 l[i].ex.kind, .int .i64 l[i].ex.num, .string l[i].ex.nm, .slice xa l[i].ex.args.length xc]] W fun e w'=>e=.returned (.int .i64 l[i].ex.cnt) /\ Keeps zA W w'):=fun W hk=>zDt l[i].ex W F xa xc (hx.keeps hk (fun _ _ h=>h)) (by omega)
   have HTT:Hid (∀ W,Keeps zA wr W -> Calls Tryz.prog 114 #[.slice ta l[i].thn.length tc] W fun e w'=>e=.returned (.int .i64 (St.zY l[i].thn:Nat)) /\ Keeps zA W w'):=fun W hk=>(IH.out _ (yJ hlt)).1 W F ta tc (hxt.keeps hk (fun _ _ h=>h)) (by omega)
   have HEE:Hid (∀ W,Keeps zA wr W -> Calls Tryz.prog 114 #[.slice ea l[i].els.length ec] W fun e w'=>e=.returned (.int .i64 (St.zY l[i].els:Nat)) /\ Keeps zA W w'):=fun W hk=>(IH.out _ (yJ hlt)).2 W F ea ec (hxe.keeps hk (fun _ _ h=>h)) (by omega)
   obtain ⟨th,hth⟩:∃ th,th=l[i].ex.there:=⟨_,rfl⟩
   obtain ⟨cx,hcx⟩:∃ c,c=l[i].ex.cnt:=⟨_,rfl⟩
   obtain ⟨ct,hct⟩:∃ c,c=St.zY l[i].thn:=⟨_,rfl⟩
   obtain ⟨ce,hce⟩:∃ c,c=St.zY l[i].els:=⟨_,rfl⟩
   rw [<- hth] at HTH hd;rw [<- hcx] at HX hd;rw [<- hct] at HTT hd;rw [<- hce] at HEE hd;clear hx hxt hxe hsz hB hth hcx hct hce d0 d1 d2 d7;generalize l[i].ex.kind=x3 at d3 HX HTH;generalize l[i].ex.num=x4 at d4 HX HTH;generalize l[i].ex.nm=x5 at d5 HX HTH;generalize l[i].ex.args.length=x6 at d6 HX HTH;generalize l[i].thn.length=x8 at d8 HTT;generalize l[i].els.length=x9 at d9 HEE;cases th
   ·rw [if_neg (by decide)] at hd
    have HD:=yA hd;have b1:n+1+ct+ce < 1000000000:=by omega
    have b2:n+1+ct < 1000000000:=by omega
    clear hd;go_upto_region 9 with (go_at_call 133;refine (HTH.out _ (yB _ _)).mono ?_;rintro e w2 ⟨rfl,g1⟩;have G1:=yA g1;have d8':=g1.cell (p:=⟨g,o+i*10+8,none⟩) (fun h=>h) d8;clear g1)
    go_upto_region 10 with (go_at_call 114;refine (HTT.out _ G1.out).mono ?_;rintro e w3 ⟨rfl,g2⟩;have d9':=(G1.out.zB g2).cell (p:=⟨g,o+i*10+9,none⟩) (fun h=>h) d9;have G2:=yA (G1.out.zB g2);clear g2 d8')
    go_wp2_with (go_at_call 114;refine (HEE.out _ G2.out).mono ?_;rintro e w4 ⟨rfl,g3⟩;have G3:=yA (G2.out.zB g3);clear g3)
    go_roundw
    case rel=>exact ⟨i+1,n+1+ct+ce,by omega,by go_num,by go_num,by show _=_;have:=HD.out;omega,HK.out.zB G3.out⟩
    case measure=>simp [intOf];omega
   ·rw [if_pos rfl] at hd
    have HD:=yA hd;have b1:n+1+cx+ct+ce < 1000000000:=by omega
    have b2:n+1+cx+ct < 1000000000:=by omega
    have b3:n+1+cx < 1000000000:=by omega
    clear hd;go_upto_region 8 with (go_at_call 133;refine (HTH.out _ (yB _ _)).mono ?_;rintro e w2 ⟨rfl,g1⟩;have G1:=yA g1;have d3':=g1.cell (p:=⟨g,o+i*10+3,none⟩) (fun h=>h) d3;have d4':=g1.cell (p:=⟨g,o+i*10+4,none⟩) (fun h=>h) d4;have d5':=g1.cell (p:=⟨g,o+i*10+5,none⟩) (fun h=>h) d5;have d6':=g1.cell (p:=⟨g,o+i*10+6,none⟩) (fun h=>h) d6;clear g1)
    go_upto_region 9 with (go_at_call 117;refine (HX.out _ G1.out).mono ?_;rintro e wx ⟨rfl,gx⟩;have GX:=yA (G1.out.zB gx);have d8':=(G1.out.zB gx).cell (p:=⟨g,o+i*10+8,none⟩) (fun h=>h) d8;clear gx d3' d4' d5' d6')
    go_upto_region 10 with (go_at_call 114;refine (HTT.out _ GX.out).mono ?_;rintro e w3 ⟨rfl,g2⟩;have d9':=(GX.out.zB g2).cell (p:=⟨g,o+i*10+9,none⟩) (fun h=>h) d9;have G2:=yA (GX.out.zB g2);clear g2 d8')
    go_wp2_with (go_at_call 114;refine (HEE.out _ G2.out).mono ?_;rintro e w4 ⟨rfl,g3⟩;have G3:=yA (G2.out.zB g3);clear g3)
    go_roundw
    case rel=>exact ⟨i+1,n+1+cx+ct+ce,by omega,by go_num,by go_num,by show _=_;have:=HD.out;omega,HK.out.zB G3.out⟩
    case measure=>simp [intOf];omega
  ·obtain rfl:i=l.length:=by omega
   have hd:=HN.out;rw [xG] at hd;simp only [St.zY] at hd;obtain rfl:n=tot:=by omega
   go_wp2_with fail
   go_ret
   exact ⟨by go_num,HK.out⟩
theorem zO4 (l:List St):zHX l:=by
 have key:∀ x:St,zHX x.thn /\ zHX x.els:=fun x=>St.ind (P:=fun x=>zHX x.thn /\ zHX x.els) (fun k r o x c t e h1 h2=>⟨zGt t h1,zGt e h2⟩) x
 exact zGt l (fun y _=>key y)
def zHt (l:List St):Prop:=∀ (w:World) (F:Nat -> Prop) (ad:Option Addr) (cap d:Nat),zq w F l ad -> d+St.szL l < 1000000000 →
 Calls Tryz.prog 113 #[.slice ad l.length cap, .int .i64 d] w fun e w'=>e=.returned (.int .i64 (St.zn d l:Nat)) /\ Keeps zA w w'
theorem zGj (l:List St) (ih:∀ y,y ∈ l -> zHt y.thn /\ zHt y.els):zHt l:=by
 intro w F ad cap d h hb
 have HL:=yA h;have IH:=yA ih;have hl:=St.zAg l;have hcl:=St.zCZ d l;have HB:=yA hb;obtain ⟨tot,ht⟩:∃ t,t=St.zn d l:=⟨_,rfl⟩
 have HT:=yA ht;rw [<- ht] at hcl ⊢;have hb1:l.length < 1000000000:=by omega
 have hb2:tot < 1000000000:=by omega
 have hb3:d < 1000000000:=by omega
 clear h ih ht hb hl hcl;have hw:IntKind.i64.wrap ((d:Int)+1)=(d:Int)+1:=uZ _ (by omega) (by omega);go_enter Tryz.func113,Tryz.ntmps113
 go_wp2_with fail
 go_loopw [5,6] (fun nv iv wr=>∃ i n:Nat,i <= l.length /\ nv=.int .i64 n /\ iv=.int .i64 i /\ Hid (max n (St.zn d (l.drop i))=tot) /\ Hid (Keeps zA w wr)) (fun _ iv _=>l.length - (intOf iv).toNat)
 case atStart=>exact ⟨0,0,yG _,rfl,rfl,by show _=_;rw [yQ,HT.out];omega,yB _ _⟩
 case round =>
  obtain ⟨i,n,hi,rfl,rfl,HN,HK⟩:=hrel;by_cases hlt:i < l.length
  ·have i1:(0:Int) <= i:=by omega
   have i2:(i:Int) < l.length:=by omega
   have hd:=HN.out;rw [drop_at hlt] at hd;simp only [St.zn,St.zJW] at hd;obtain ⟨g,o,xa,xc,ta,tc,ea,ec,e1,hg,d0,d1,d2,d3,d4,d5,d6,d7,d8,d9,hx,hxt,hxe⟩:=(HL.out.keeps HK.out (fun _ _ h=>h)).at hlt;subst e1;have hsz:=St.zB1 (yJ hlt);rw [St.zCJ] at hsz;have hB:=HB.out;have e:((d+1:Nat):Int)=(d:Int)+1:=by omega
   have HTH:Hid (∀ W,Keeps zA wr W -> Calls Tryz.prog 133 #[.agg #[.int .i64 l[i].ex.kind, .int .i64 l[i].ex.num, .string l[i].ex.nm, .slice xa l[i].ex.args.length xc]] W fun e w'=>e=.returned (.bool l[i].ex.there) /\ Keeps zA W w'):=fun W hk=>zFD l[i].ex W xa xc
   have HX:Hid (∀ W,Keeps zA wr W -> Calls Tryz.prog 134 #[.agg #[.int .i64 l[i].ex.kind, .int .i64 l[i].ex.num, .string l[i].ex.nm, .slice xa l[i].ex.args.length xc]] W fun e w'=>e=.returned (.int .i64 l[i].ex.dep) /\ Keeps zA W w'):=fun W hk=>zG4 l[i].ex W F xa xc (hx.keeps hk (fun _ _ h=>h)) (by omega)
   have HTT:Hid (∀ W,Keeps zA wr W -> Calls Tryz.prog 113 #[.slice ta l[i].thn.length tc, .int .i64 ((d:Int)+1)] W fun e w'=>e=.returned (.int .i64 (St.zn (d+1) l[i].thn:Nat)) /\ Keeps zA W w'):=fun W hk=>by rw [<- e];exact (IH.out _ (yJ hlt)).1 W F ta tc (d+1) (hxt.keeps hk (fun _ _ h=>h)) (by omega)
   have HEE:Hid (∀ W,Keeps zA wr W -> Calls Tryz.prog 113 #[.slice ea l[i].els.length ec, .int .i64 ((d:Int)+1)] W fun e w'=>e=.returned (.int .i64 (St.zn (d+1) l[i].els:Nat)) /\ Keeps zA W w'):=fun W hk=>by rw [<- e];exact (IH.out _ (yJ hlt)).2 W F ea ec (d+1) (hxe.keeps hk (fun _ _ h=>h)) (by omega)
   obtain ⟨th,hth⟩:∃ th,th=l[i].ex.there:=⟨_,rfl⟩
   obtain ⟨cx,hcx⟩:∃ c,c=l[i].ex.dep:=⟨_,rfl⟩
   obtain ⟨ct,hct⟩:∃ c,c=St.zn (d+1) l[i].thn:=⟨_,rfl⟩
   obtain ⟨ce,hce⟩:∃ c,c=St.zn (d+1) l[i].els:=⟨_,rfl⟩
   rw [<- hth] at HTH hd;rw [<- hcx] at HX hd;rw [<- hct] at HTT hd;rw [<- hce] at HEE hd;clear hx hxt hxe hsz hB hth hcx hct hce d0 d1 d2 d7 e;generalize l[i].ex.kind=x3 at d3 HX HTH;generalize l[i].ex.num=x4 at d4 HX HTH;generalize l[i].ex.nm=x5 at d5 HX HTH;generalize l[i].ex.args.length=x6 at d6 HX HTH;generalize l[i].thn.length=x8 at d8 HTT;generalize l[i].els.length=x9 at d9 HEE;obtain ⟨n1,hn1⟩:∃ z,z=max n d:=⟨_,rfl⟩
   have m1:max (n:Int) (d:Int)=(n1:Int):=by omega
   cases th
   ·rw [if_neg (by decide)] at hd
    obtain ⟨n2,hn2⟩:∃ z,z=max n1 ct:=⟨_,rfl⟩
    have m2:max (n1:Int) (ct:Int)=(n2:Int):=by omega
    obtain ⟨n3,hn3⟩:∃ z,z=max n2 ce:=⟨_,rfl⟩
    have m3:max (n2:Int) (ce:Int)=(n3:Int):=by omega
    have HD:Hid (max n3 (St.zn d (l.drop (i+1)))=tot):=by show _=_;omega
    clear hd hn1 hn2 hn3;go_upto_region 10 with (go_at_call 133;refine (HTH.out _ (yB _ _)).mono ?_;rintro e w2 ⟨rfl,g1⟩;have G1:=yA g1;have d8':=g1.cell (p:=⟨g,o+i*10+8,none⟩) (fun h=>h) d8;clear g1)
    go_upto_region 12 with (go_at_call 113;refine (HTT.out _ G1.out).mono ?_;rintro e w3 ⟨rfl,g2⟩;have d9':=(G1.out.zB g2).cell (p:=⟨g,o+i*10+9,none⟩) (fun h=>h) d9;have G2:=yA (G1.out.zB g2);clear g2 d8')
    exact J46 _
   ·rw [if_pos rfl] at hd
    obtain ⟨nx,hnx⟩:∃ z,z=max n1 cx:=⟨_,rfl⟩
    have mx:max (n1:Int) (cx:Int)=(nx:Int):=by omega
    obtain ⟨n2,hn2⟩:∃ z,z=max nx ct:=⟨_,rfl⟩
    have m2:max (nx:Int) (ct:Int)=(n2:Int):=by omega
    obtain ⟨n3,hn3⟩:∃ z,z=max n2 ce:=⟨_,rfl⟩
    have m3:max (n2:Int) (ce:Int)=(n3:Int):=by omega
    have HD:Hid (max n3 (St.zn d (l.drop (i+1)))=tot):=by show _=_;omega
    clear hd hn1 hn2 hn3 hnx;go_upto_region 8 with (go_at_call 133;refine (HTH.out _ (yB _ _)).mono ?_;rintro e w2 ⟨rfl,g1⟩;have G1:=yA g1;have d3':=g1.cell (p:=⟨g,o+i*10+3,none⟩) (fun h=>h) d3;have d4':=g1.cell (p:=⟨g,o+i*10+4,none⟩) (fun h=>h) d4;have d5':=g1.cell (p:=⟨g,o+i*10+5,none⟩) (fun h=>h) d5;have d6':=g1.cell (p:=⟨g,o+i*10+6,none⟩) (fun h=>h) d6;clear g1)
    go_upto_region 10 with (go_at_call 134;refine (HX.out _ G1.out).mono ?_;rintro e wx ⟨rfl,gx⟩;have GX:=yA (G1.out.zB gx);have d8':=(G1.out.zB gx).cell (p:=⟨g,o+i*10+8,none⟩) (fun h=>h) d8;clear gx d3' d4' d5' d6')
    go_upto_region 12 with (go_at_call 113;refine (HTT.out _ GX.out).mono ?_;rintro e w3 ⟨rfl,g2⟩;have d9':=(GX.out.zB g2).cell (p:=⟨g,o+i*10+9,none⟩) (fun h=>h) d9;have G2:=yA (GX.out.zB g2);clear g2 d8')
    exact J46 _
  ·obtain rfl:i=l.length:=by omega
   have hd:=HN.out;rw [xG] at hd;simp only [St.zn] at hd;obtain rfl:n=tot:=by omega
   go_wp2_with fail
   go_ret
   exact ⟨by go_num,HK.out⟩
theorem zOy (l:List St):zHt l:=by
 have key:∀ x:St,zHt x.thn /\ zHt x.els:=fun x=>St.ind (P:=fun x=>zHt x.thn /\ zHt x.els) (fun k r o x c t e h1 h2=>⟨zGj t h1,zGj e h2⟩) x
 exact zGj l (fun y _=>key y)
theorem zHG (nm:ByteArray) (ts:List (List St)) (w:World) (F:Nat -> Prop) (pca pma ta:Option Addr) (pcn pcc pmn pmc tc:Nat) (h:zAi w F nm ts ta) (hb:zBd ts < 900000000) :
 Calls Tryz.prog 95 #[.agg #[.slice pca pcn pcc, .slice pma pmn pmc, .slice ta ts.length tc]] w fun e w'=>e=.returned (.int .i64 (zAN ts:Nat)) /\ Keeps zA w w':=by
 have HL:=yA h;have hl:=zHj ts;have hc:=zIK ts;have HB:=yA hb;obtain ⟨tot,ht⟩:∃ t,t=zAN ts:=⟨_,rfl⟩
 have HT:=yA ht;rw [<- ht] at hc ⊢;have hb1:ts.length < 1000000000:=by omega
 have hb2:tot < 1000000000:=by omega
 clear h ht hb hl hc;go_enter Tryz.func95,Tryz.ntmps95
 go_upto_region 1 with fail
 obtain ⟨b1,hb1⟩:∃ z,z=w.heap.size:=⟨_,rfl⟩
 have hr1:zC (w.alloc (.cells #[.slice pca pcn pcc, .slice pma pmn pmc, .slice ta ts.length tc] 159)) b1 [.slice pca pcn pcc, .slice pma pmn pmc, .slice ta ts.length tc]:=J150 _;have hk1:Keeps zA w (w.alloc (.cells #[.slice pca pcn pcc, .slice pma pmn pmc, .slice ta ts.length tc] 159)):=(yB _ _).alloc _;rw [<- hb1];generalize w.alloc (.cells #[.slice pca pcn pcc, .slice pma pmn pmc, .slice ta ts.length tc] 159)=w1 at hr1 hk1 ⊢;have R1:=yA hr1;have K1:=yA hk1;clear hr1 hk1 hb1;go_wp2_with fail
 go_loopw [3,4] (fun nv iv wr=>∃ i n:Nat,i <= ts.length /\ nv=.int .i64 n /\ iv=.int .i64 i /\ Hid (n+zAN (ts.drop i)=tot) /\ Hid (Keeps zA w1 wr)) (fun _ iv _=>ts.length - (intOf iv).toNat)
 case atStart=>exact ⟨0,0,yG _,rfl,rfl,by show _=_;rw [yQ,HT.out];omega,yB _ _⟩
 case round =>
  obtain ⟨i,n,hi,rfl,rfl,HN,HK⟩:=hrel;obtain ⟨y0,y1,y2⟩:=(R1.out.keeps HK.out (fun h=>h)).three;by_cases hlt:i < ts.length
  ·have i1:(0:Int) <= i:=by omega
   have i2:(i:Int) < ts.length:=by omega
   have hd:=HN.out;rw [drop_at hlt] at hd;simp only [zAN] at hd;obtain ⟨g,o,ba,bc,e1,hg,d0,d1,hx⟩:=(HL.out.keeps (K1.out.zB HK.out) (fun _ _ h=>h)).at hlt;subst e1;have HX:Hid (∀ W,Keeps zA wr W -> Calls Tryz.prog 114 #[.slice ba ts[i].length bc] W fun e w'=>e=.returned (.int .i64 (St.zY ts[i]:Nat)) /\ Keeps zA W w'):=fun W hk=>zO4 ts[i] W F ba bc (hx.keeps hk (fun _ _ h=>h)) (by have:=zDG (yJ hlt);have:=HB.out;omega)
   obtain ⟨m,hm⟩:∃ m,m=St.zY ts[i]:=⟨_,rfl⟩
   rw [<- hm] at HX hd;have HD:=yA hd;have b2:n+m < 1000000000:=by omega
   clear hx hm hd;generalize ts[i].length=x1 at d1 HX;go_wp2_with (go_at_call 114;refine (HX.out _ (yB _ _)).mono ?_;rintro e w2 ⟨rfl,g1⟩;have G1:=yA g1;clear g1)
   exact J81 _
  ·obtain rfl:i=ts.length:=by omega
   have hd:=HN.out;rw [xG] at hd;simp only [zAN] at hd;exact J63 _
theorem zHx (nm:ByteArray) (ts:List (List St)) (w:World) (F:Nat -> Prop) (pca pma ta:Option Addr) (pcn pcc pmn pmc tc:Nat) (h:zAi w F nm ts ta) (hb:zBd ts < 900000000) :
 Calls Tryz.prog 94 #[.agg #[.slice pca pcn pcc, .slice pma pmn pmc, .slice ta ts.length tc]] w fun e w'=>e=.returned (.int .i64 (zy ts:Nat)) /\ Keeps zA w w':=by
 have HL:=yA h;have hl:=zHj ts;have hc:=zEp ts;have HB:=yA hb;obtain ⟨tot,ht⟩:∃ t,t=zy ts:=⟨_,rfl⟩
 have HT:=yA ht;rw [<- ht] at hc ⊢;have hb1:ts.length < 1000000000:=by omega
 have hb2:tot < 1000000000:=by omega
 clear h ht hb hl hc;go_enter Tryz.func94,Tryz.ntmps94
 go_upto_region 1 with fail
 obtain ⟨b1,hb1⟩:∃ z,z=w.heap.size:=⟨_,rfl⟩
 have hr1:zC (w.alloc (.cells #[.slice pca pcn pcc, .slice pma pmn pmc, .slice ta ts.length tc] 159)) b1 [.slice pca pcn pcc, .slice pma pmn pmc, .slice ta ts.length tc]:=J150 _;have hk1:Keeps zA w (w.alloc (.cells #[.slice pca pcn pcc, .slice pma pmn pmc, .slice ta ts.length tc] 159)):=(yB _ _).alloc _;rw [<- hb1];generalize w.alloc (.cells #[.slice pca pcn pcc, .slice pma pmn pmc, .slice ta ts.length tc] 159)=w1 at hr1 hk1 ⊢;have R1:=yA hr1;have K1:=yA hk1;clear hr1 hk1 hb1;go_wp2_with fail
 go_loopw [3,4] (fun nv iv wr=>∃ i n:Nat,i <= ts.length /\ nv=.int .i64 n /\ iv=.int .i64 i /\ Hid (max n (zy (ts.drop i))=tot) /\ Hid (Keeps zA w1 wr)) (fun _ iv _=>ts.length - (intOf iv).toNat)
 case atStart=>exact ⟨0,0,yG _,rfl,rfl,by show _=_;rw [yQ,HT.out];omega,yB _ _⟩
 case round =>
  obtain ⟨i,n,hi,rfl,rfl,HN,HK⟩:=hrel;obtain ⟨y0,y1,y2⟩:=(R1.out.keeps HK.out (fun h=>h)).three;by_cases hlt:i < ts.length
  ·have i1:(0:Int) <= i:=by omega
   have i2:(i:Int) < ts.length:=by omega
   have hd:=HN.out;rw [drop_at hlt] at hd;simp only [zy] at hd;obtain ⟨g,o,ba,bc,e1,hg,d0,d1,hx⟩:=(HL.out.keeps (K1.out.zB HK.out) (fun _ _ h=>h)).at hlt;subst e1;have HX:Hid (∀ W,Keeps zA wr W -> Calls Tryz.prog 113 #[.slice ba ts[i].length bc, .int .i64 1] W fun e w'=>e=.returned (.int .i64 (St.zn 1 ts[i]:Nat)) /\ Keeps zA W w'):=fun W hk=>zOy ts[i] W F ba bc 1 (hx.keeps hk (fun _ _ h=>h)) (by have:=zDG (yJ hlt);have:=HB.out;omega)
   obtain ⟨m,hm⟩:∃ m,m=St.zn 1 ts[i]:=⟨_,rfl⟩
   rw [<- hm] at HX hd;obtain ⟨n1,hn1⟩:∃ z,z=max n m:=⟨_,rfl⟩
   have m1:max (n:Int) (m:Int)=(n1:Int):=by omega
   have HD:Hid (max n1 (zy (ts.drop (i+1)))=tot):=by show _=_;omega
   clear hx hm hd hn1;generalize ts[i].length=x1 at d1 HX;go_wp2_with (go_at_call 113;refine (HX.out _ (yB _ _)).mono ?_;rintro e w2 ⟨rfl,g1⟩;have G1:=yA g1;clear g1)
   go_roundw
   case rel=>exact ⟨i+1,n1,by omega,by first | rfl | (congr 1;omega) | go_num,by go_num,HD,HK.out.zB G1.out⟩
   case measure=>simp [intOf];omega
  ·obtain rfl:i=ts.length:=by omega
   have hd:=HN.out;rw [xG] at hd;simp only [zy] at hd;exact J63 _
end Go.Proofs.YtfjgcedkfnmdkaaGreatDoor
