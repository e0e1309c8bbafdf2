/- Layer L: texts joined. -/
import Derived.Test.YtfokdllgnblamaaGreatDoorL20
set_option linter.all false
set_option maxHeartbeats 2000000
set_option maxRecDepth 8000
namespace Go.Proofs.YtfokdllgnblamaaGreatDoor
open Go.RowKit
theorem J46 (P:Prop) (h:P:=by
 go_wp2_with (go_at_call 104;refine (HEE.out _ G2.out).mono ?_;rintro e w4 ⟨rfl,g3⟩;have G3:=yA (G2.out.zB g3);clear g3)
 go_roundw
 case rel=>exact ⟨i+1,n3,by omega,by first | rfl | (congr 1;omega) | go_num,by go_num,HD,HK.out.zB G3.out⟩
 case measure=>simp [intOf];omega):P:=h
theorem J64 (P:Prop) (h:P:=by
 obtain rfl:n=tot:=by omega
 go_wp2_with fail
 go_ret
 exact ⟨by go_num,K1.out.zB HK.out⟩):P:=h
mutual
def Ex.pts:Ex -> Nat
 | .mk k _ _ l=>if k=0 then 0 else 1+Ex.zFz l
def Ex.zFz:List Ex -> Nat
 | []=>0
 | x :: r=>Ex.pts x+Ex.zFz r
end
theorem zJ5 {k num regs:Int} {nm:ByteArray} {n:Nat} (h:zAE k num nm n regs=true):k ≠ 0:=by
 intro e;subst e;simp [zAE] at h
mutual
theorem Ex.zJY (regs:Int):(x:Ex) -> x.may regs=true -> x.pts=x.cnt
 | .mk k num nm l,h=>by
   simp only [Ex.may,yR] at h;have h1:=Ex.zHs regs l h.2;simp only [Ex.pts,Ex.cnt,if_neg (zJ5 h.1),h1]
theorem Ex.zHs (regs:Int):(l:List Ex) -> Ex.zAC regs l=true -> Ex.zFz l=Ex.zY l
 | [],_=>rfl
 | x :: r,h=>by
   simp only [Ex.zAC,yR] at h;have h1:=Ex.zJY regs x h.1;have h2:=Ex.zHs regs r h.2;simp only [Ex.zFz,Ex.zY,h1,h2]
end
mutual
theorem Ex.zLR:(x:Ex) -> x.pts <= x.cnt
 | .mk k num nm l=>by
   have h:=Ex.zGr l;simp only [Ex.pts,Ex.cnt];split <;> omega
theorem Ex.zGr:(l:List Ex) -> Ex.zFz l <= Ex.zY l
 | []=>yV _
 | x :: r=>by
   have h1:=Ex.zLR x;have h2:=Ex.zGr r;simp only [Ex.zFz,Ex.zY];omega
end
def Ex.own (x:Ex):Nat:=1+(if x.kind=0 then 0 else x.cnt)
theorem Ex.zOE (x:Ex):x.own <= 1+x.cnt:=by unfold Ex.own;split <;> omega
mutual
def Ac.stp:Ac -> Nat
 | .mk k _ _ _ c t e=>if k=1 then 0 else if k=10 then max (Ac.zX t) (Ac.zX e) else if k=11 then Ac.zX t*c.toNat else 1
def Ac.zX:List Ac -> Nat
 | []=>0
 | x :: r=>Ac.stp x+Ac.zX r
end
mutual
def Ac.wrk:Ac -> Nat
 | .mk k _ _ x c t e=>x.own+(if k=10 then max (Ac.zU t) (Ac.zU e) else if k=11 then (Ac.zU t+1)*c.toNat else 0)
def Ac.zU:List Ac -> Nat
 | []=>0
 | x :: r=>Ac.wrk x+Ac.zU r
end
mutual
def Ac.okc:Ac -> Prop
 | .mk _ _ _ x c t e=>(0 <= c /\ c <= 1000) /\ x.pts=(if x.kind=0 then 0 else x.cnt) /\ Ac.zDq t /\ Ac.zDq e
def Ac.zDq:List Ac -> Prop
 | []=>True
 | x :: r=>Ac.okc x /\ Ac.zDq r
end
theorem Ac.zFV {l:List Ac} (h:Ac.zDq l) {y:Ac} (hy:y ∈ l):y.okc:=by
 induction l with
 | nil=>cases hy
 | cons x r ih =>
   simp only [Ac.zDq] at h;rcases xU.1 hy with e | e
   ·subst e;exact h.1
   ·exact ih h.2 e
theorem Ac.zIf {x:Ac} (h:x.okc):(0 <= x.count /\ x.count <= 1000) /\ x.ex.pts=(if x.ex.kind=0 then 0 else x.ex.cnt) /\ Ac.zDq x.thn /\ Ac.zDq x.els:=by
 cases x;simp only [Ac.okc] at h;exact h
theorem Ac.zE1 (x:Ac):x.stp=if x.kind=1 then 0 else if x.kind=10 then max (Ac.zX x.thn) (Ac.zX x.els) else if x.kind=11 then Ac.zX x.thn*x.count.toNat else 1:=by
 cases x;simp only [Ac.stp];rfl
theorem Ac.zHG (x:Ac):x.wrk=x.ex.own+(if x.kind=10 then max (Ac.zU x.thn) (Ac.zU x.els) else if x.kind=11 then (Ac.zU x.thn+1)*x.count.toNat else 0):=by
 cases x;simp only [Ac.wrk];rfl
theorem zNv {x:Ex} {regs:Int} (h:x.may regs=true \/ x.none=true):x.pts=(if x.kind=0 then 0 else x.cnt):=by
 rcases h with h | h
 ·have h1:=Ex.zJY regs x h
  have h2:=zES h;rw [if_neg h2,h1]
 ·cases x with
  | mk k num nm l =>
    simp only [Ex.none,yR,beq_iff_eq] at h;have hk:=h.1.1.1;subst hk;show Ex.pts (.mk 0 num nm l)=if (0:Int)=0 then 0 else _
    simp [Ex.pts]
mutual
theorem Ac.zMz (u:Un) (regs:Int):(x:Ac) -> Ac.may u regs x=true -> x.okc
 | .mk k reg obj ex count t e,h=>by
   simp only [Ac.may,yR] at h;have h1:=Ac.zEa u regs t h.1.2;have h2:=Ac.zEa u regs e h.2;have h3:=h.1.1;unfold zBA at h3;simp only [yR] at h3;obtain ⟨⟨⟨⟨⟨⟨⟨_,_⟩,_⟩,_⟩,hx⟩,hc⟩,_⟩,_⟩:=h3;simp only [Ac.okc];refine ⟨?_,zNv (regs:=regs) ?_,h1,h2⟩
   ·cases hf:(fields k).count
    ·rw [hf] at hc
     have:count=0:=by simpa using hc
     subst this;exact ⟨by decide,by decide⟩
    ·rw [hf] at hc
     simp only [kG,yR,yS] at hc;exact hc
   ·cases hf:(fields k).ex
    ·rw [hf] at hx;exact .inr (by simpa using hx)
    ·rw [hf] at hx;exact .inl (by simpa using hx)
theorem Ac.zEa (u:Un) (regs:Int):(l:List Ac) -> Ac.zAC u regs l=true -> Ac.zDq l
 | [],_=>trivial
 | x :: r,h=>by
   simp only [Ac.zAC,yR] at h;simp only [Ac.zDq];exact ⟨Ac.zMz u regs x h.1,Ac.zEa u regs r h.2⟩
end
theorem zOC (n:Nat):n+1 <= 2 ^ n:=Nat.lt_two_pow_self
mutual
theorem Ac.zNq:(x:Ac) -> x.okc -> x.wrk+1 <= 2 ^ (11*x.sz)
 | .mk k reg obj ex c t e,h=>by
   simp only [Ac.okc] at h;have h1:=Ac.zEU t h.2.2.1;have h2:=Ac.zEU e h.2.2.2;have h3:=Ex.zOE ex;have hc:c.toNat <= 1000:=by omega
   have hq:2048*(ex.cnt+1) <= 2 ^ (11*(1+ex.cnt)):=by
    have h4:=zOC (11*ex.cnt);rw [show 11*(1+ex.cnt)=11+11*ex.cnt by omega,Nat.pow_add];exact Nat.mul_le_mul (by decide) (by omega)
   simp only [Ac.wrk,Ac.sz];rw [kR,kR,Nat.pow_add,Nat.pow_add];generalize 2 ^ (11*(1+ex.cnt))=Q at hq ⊢;generalize 2 ^ (11*Ac.szL t)=A at h1 ⊢;generalize 2 ^ (11*Ac.szL e)=B at h2 ⊢;have hA:1 <= A:=by omega
   have hB:1 <= B:=by omega
   have hAB:max A B <= A*B:=by
    rcases Nat.le_total A B with hh | hh
    ·rw [Nat.max_eq_right hh];exact Nat.le_mul_of_pos_left B hA
    ·rw [Nat.max_eq_left hh];exact vQ A hB
   have hA2:A <= A*B:=vQ A hB;rw [Nat.mul_assoc];generalize A*B=P at hAB hA2 ⊢;have hP:1 <= P:=by omega
   have key:∀ z,z <= 1000*P -> ex.own+z+1 <= Q*P:=fun z hz=>by
    have h5:2048*(ex.cnt+1)*P <= Q*P:=vM P hq;have h6:ex.cnt+1 <= (ex.cnt+1)*P:=vQ _ hP;rw [Nat.mul_assoc] at h5;have h7:P <= (ex.cnt+1)*P:=Nat.le_mul_of_pos_left P (by omega);omega
   split
   ·exact key _ (by omega)
   ·split
    ·refine key _ ?_
     have h8:(Ac.zU t+1)*c.toNat <= P*1000:=Nat.mul_le_mul (by omega) hc;omega
    ·exact key 0 (by omega)
theorem Ac.zEU:(l:List Ac) -> Ac.zDq l -> Ac.zU l+1 <= 2 ^ (11*Ac.szL l)
 | [],_=>by simp [Ac.zU,Ac.szL]
 | x :: r,h=>by
   simp only [Ac.zDq] at h;have h1:=Ac.zNq x h.1;have h2:=Ac.zEU r h.2;simp only [Ac.zU,Ac.szL];rw [kR,Nat.pow_add];have h3:(x.wrk+1)*(Ac.zU r+1) <= 2 ^ (11*x.sz)*2 ^ (11*Ac.szL r):=Nat.mul_le_mul h1 h2
   have h4:x.wrk+Ac.zU r+1 <= (x.wrk+1)*(Ac.zU r+1):=by
    rw [vH,kR];omega
   omega
end
mutual
theorem Ac.zNd:(x:Ac) -> x.stp <= x.wrk
 | .mk k reg obj ex c t e=>by
   have h1:=Ac.zBP t;have h2:=Ac.zBP e;have h3:1 <= ex.own:=by unfold Ex.own;omega
   simp only [Ac.stp,Ac.wrk];split
   ·omega
   ·split
    ·omega
    ·split
     ·have h4:Ac.zX t*c.toNat <= (Ac.zU t+1)*c.toNat:=vM _ (by omega)
      omega
     ·omega
theorem Ac.zBP:(l:List Ac) -> Ac.zX l <= Ac.zU l
 | []=>yV _
 | x :: r=>by
   have h1:=Ac.zNd x;have h2:=Ac.zBP r;simp only [Ac.zX,Ac.zU];omega
end
theorem zE0 {b n:Nat} (hb:2 <= b):2 ^ n <= b ^ n:=Nat.pow_le_pow_left hb n
theorem Ac.zCO {b:Nat} (hb:2 <= b) {l:List Ac} (h:Ac.zDq l) (hs:Ac.szL l < 1000000000) {m:Nat} (hm:m <= Ac.zU l+1):(zn b m).length <= 12000000000:=by
 have h1:=Ac.zEU l h
 have h2:m < b ^ (11*Ac.szL l+1):=by
  have h3:=zE0 (n:=11*Ac.szL l) hb;have h4:0 < b ^ (11*Ac.szL l):=vT (by omega);have h5:2*b ^ (11*Ac.szL l) <= b*b ^ (11*Ac.szL l):=vM _ hb;rw [uL,Nat.mul_comm];omega
 have:=zC4 hb h2
 omega
theorem Ac.zGT {l:List Ac} {i:Nat} (hi:i < l.length):Ac.zX (l.take (i+1))=Ac.zX (l.take i)+l[i].stp:=by
 have key:∀ (a b:List Ac),Ac.zX (a++b)=Ac.zX a+Ac.zX b:=by
  intro a b
  induction a with
  | nil=>simp [Ac.zX]
  | cons x r ih=>simp only [vU,Ac.zX,ih];omega
 rw [take_at hi,key];simp [Ac.zX]
theorem Ac.zGR {l:List Ac} {i:Nat} (hi:i < l.length):Ac.zU (l.take (i+1))=Ac.zU (l.take i)+l[i].wrk:=by
 have key:∀ (a b:List Ac),Ac.zU (a++b)=Ac.zU a+Ac.zU b:=by
  intro a b
  induction a with
  | nil=>simp [Ac.zU]
  | cons x r ih=>simp only [vU,Ac.zU,ih];omega
 rw [take_at hi,key];simp [Ac.zU]
theorem Ac.zGV (l:List Ac) (i:Nat):Ac.zU (l.take i) <= Ac.zU l:=by
 induction l generalizing i with
 | nil=>simp
 | cons x r ih =>
   cases i with
   | zero=>simp [Ac.zU]
   | succ i=>have:=ih i;simp only [List.take_succ_cons,Ac.zU];omega
theorem Ac.zGU (l:List Ac) (i:Nat):Ac.zX (l.take i) <= Ac.zX l:=by
 induction l generalizing i with
 | nil=>simp
 | cons x r ih =>
   cases i with
   | zero=>simp [Ac.zX]
   | succ i=>have:=ih i;simp only [List.take_succ_cons,Ac.zX];omega
def zN (w:World) (F:Nat -> Prop) (b n:Nat) (v:Value):Prop:=∃ ad cap,v=.slice ad (zn b n).length cap /\ zAG w F b n ad
theorem zN.keeps {S F:Nat -> Prop} {w w':World} {b n:Nat} {v:Value} (h:zN w F b n v) (hk:Keeps S w w') (hS:∀ k,F k -> ¬ S k):zN w' F b n v:=by
 obtain ⟨ad,cap,e,h1⟩:=h;exact ⟨ad,cap,e,h1.keeps hk hS⟩
theorem zN.zG {F:Nat -> Prop} {w w':World} {b n:Nat} {v:Value} (h:zN w F b n v) (hk:Keeps zA w w'):zN w' F b n v:=h.keeps hk (fun _ _ h=>h)
theorem zN.mono {F F':Nat -> Prop} {w:World} {b n:Nat} {v:Value} (h:zN w F b n v) (hF:∀ k,F k -> F' k):zN w F' b n v:=by
 obtain ⟨ad,cap,e,h1⟩:=h;exact ⟨ad,cap,e,h1.mono hF⟩
theorem zN.zero (w:World) (F:Nat -> Prop) (b:Nat):zN w F b 0 (.slice none 0 0):=⟨none,0,by rw [zA1];rfl,zAG.zero _ _ _ _⟩
theorem zBU.v {b m:Nat} {w w':World} {e:Ending} (h:zBU b m w e w'):∃ v,e=.returned v /\ zN w' (Since w.heap.size w') b m v /\ Keeps zA w w':=by
 obtain ⟨ad,cap,he,h1,h2⟩:=h;exact ⟨_,he,⟨ad,cap,rfl,h1⟩,h2⟩
theorem zCk {b:Nat} (hb:2 <= b):zn b 1=[1]:=by
 rw [zCe hb (by decide),kQ (by omega),kP (by omega),zA1]
theorem zN.one {b:Nat} (hb:2 <= b) {w:World} {g:Nat} (F:Nat -> Prop) (hg:zC w g [.int .i64 1]) (hF:F g):zN w F b 1 (.slice (some ⟨g,0,none⟩) 1 1):=by
 refine ⟨some ⟨g,0,none⟩,1,by rw [zCk hb];rfl,fun i hi=>?_⟩
 rw [zCk hb] at hi;have hi0:i=0:=by simpa using hi
 subst hi0;refine ⟨g,0,rfl,hF,?_⟩
 rw [Nat.pow_zero,Nat.div_one,kQ (by omega)];exact hg.cell (k:=0) rfl
theorem zGo:∀ (x:Ex) (w:World) (F:Nat -> Prop) (ad:Option Addr) (cap:Nat),zQ w F x.args ad -> x.cnt < 1000000000 →
 Calls Tryz.prog 125 #[exV x ad cap] w fun e w'=>e=.returned (.int .i64 x.dep) /\ Keeps zA w w':=by
 refine Ex.ind (fun k num nm l ih w F ad cap h hb=>?_)
 have HL:Hid (zQ w F l ad):=h;have IH:=yA ih;have hl:=Ex.zAg l;have hcn:Ex.cnt (.mk k num nm l)=1+Ex.zY l:=by simp [Ex.cnt]
 have hdn:Ex.dep (.mk k num nm l)=Ex.zCZ l+1:=by simp [Ex.dep]
 have hdl:Ex.zCZ l+1 <= 1+Ex.zY l:=by rw [<- hcn,<- hdn];exact Ex.zHE _
 rw [hcn] at hb;rw [hdn];clear h ih hcn hdn;obtain ⟨tot,ht⟩:∃ t,t=Ex.zCZ l:=⟨_,rfl⟩
 obtain ⟨tc,htc⟩:∃ t,t=Ex.zY l:=⟨_,rfl⟩
 have HT:=yA ht;have HTC:=yA htc;rw [<- ht] at hdl ⊢;rw [<- htc] at hb hl hdl;have hb2:tot < 1000000000:=by omega
 clear ht htc;show Calls _ _ #[.agg #[.int .i64 k, .int .i64 num, .string nm, .slice ad l.length cap]] _ _
 go_enter Tryz.func125,Tryz.ntmps125
 go_upto_region 1 with fail
 obtain ⟨b1,hb1⟩:∃ z,z=w.heap.size:=⟨_,rfl⟩
 have hr1:zC (w.alloc (.cells #[.int .i64 k, .int .i64 num, .string nm, .slice ad l.length cap] 65)) b1 [.int .i64 k, .int .i64 num, .string nm, .slice ad l.length cap]:=J151 _;have hk1:Keeps zA w (w.alloc (.cells #[.int .i64 k, .int .i64 num, .string nm, .slice ad l.length cap] 65)):=(yB _ _).alloc _;rw [<- hb1];generalize w.alloc (.cells #[.int .i64 k, .int .i64 num, .string nm, .slice ad l.length cap] 65)=w1 at hr1 hk1 ⊢;have R1:=yA hr1;have K1:=yA hk1;have c3:=hr1.cell (k:=3) (v:=.slice ad l.length cap) rfl;clear hr1 hk1 hb1;go_wp2_with fail
 go_loopw [3,4] (fun nv iv wr=>∃ i n:Nat,i <= l.length /\ nv=.int .i64 n /\ iv=.int .i64 i /\ Hid (max n (Ex.zCZ (l.drop i))=tot) /\ Hid (Keeps zA w1 wr)) (fun _ iv _=>l.length - (intOf iv).toNat)
 case atStart=>exact ⟨0,0,yH _,rfl,rfl,by show _=_;rw [yQ,HT.out];omega,yB _ _⟩
 case round =>
  obtain ⟨i,n,hi,rfl,rfl,HN,HK⟩:=hrel;have c3':=(R1.out.keeps HK.out (fun h=>h)).cell (k:=3) (v:=.slice ad l.length cap) rfl;clear c3;by_cases hlt:i < l.length
  ·have i1:(0:Int) <= i:=by omega
   have i2:(i:Int) < l.length:=by omega
   have hd:=HN.out;rw [drop_at hlt,Ex.zCZ] at hd;obtain ⟨g,o,a,c,e1,hg,d0,d1,d2,d3,hx⟩:=(HL.out.keeps (K1.out.zB HK.out) (fun _ _ h=>h)).at hlt;subst e1;have HC:Hid (∀ W,Keeps zA wr W -> Calls Tryz.prog 125 #[.agg #[.int .i64 l[i].kind, .int .i64 l[i].num, .string l[i].nm, .slice a l[i].args.length c]] W fun e w'=>e=.returned (.int .i64 l[i].dep) /\ Keeps zA W w'):=fun W hk=>IH.out _ (yL hlt) W F a c (hx.keeps hk (fun _ _ h=>h)) (by have:=Ex.zB6 (yL hlt);have:=HTC.out;omega)
   obtain ⟨m,hm⟩:∃ m,m=l[i].dep:=⟨_,rfl⟩
   rw [<- hm] at HC hd;have HD:=yA hd;clear hx hm hd;generalize l[i].kind=x0 at d0 HC;generalize l[i].num=x1 at d1 HC;generalize l[i].nm=x2 at d2 HC;generalize l[i].args.length=x3 at d3 HC;have hmx:max (n:Int) (m:Int)=((max n m:Nat):Int):=by omega
   go_wp2_with (go_at_call 125;refine (HC.out _ (yB _ _)).mono ?_;rintro e w2 ⟨rfl,g1⟩;have G1:=yA g1;clear g1)
   go_roundw
   case rel=>exact ⟨i+1,max n m,by omega,by first | rfl | (congr 1;omega) | go_num,by go_num,by show _=_;have:=HD.out;omega,HK.out.zB G1.out⟩
   case measure=>simp [intOf];omega
  ·obtain rfl:i=l.length:=by omega
   have hd:=HN.out;rw [xI] at hd;simp only [Ex.zCZ] at hd;exact J64 _
def zHx (l:List St):Prop:=∀ (w:World) (F:Nat -> Prop) (ad:Option Addr) (cap:Nat),zq w F l ad -> St.szL l < 1000000000 →
 Calls Tryz.prog 105 #[.slice ad l.length cap] w fun e w'=>e=.returned (.int .i64 (St.zY l:Nat)) /\ Keeps zA w w'
theorem zGm (l:List St) (ih:∀ y,y ∈ l -> zHx y.thn /\ zHx y.els):zHx l:=by
 intro w F ad cap h hb
 have HL:=yA h;have IH:=yA ih;have hl:=St.zAg l;have hcl:=St.zDA l;have HB:=yA hb;obtain ⟨tot,ht⟩:∃ t,t=St.zY l:=⟨_,rfl⟩
 have HT:=yA ht;rw [<- ht] at hcl ⊢;have hb1:l.length < 1000000000:=by omega
 have hb2:tot < 1000000000:=by omega
 clear h ih ht hb hl hcl;go_enter Tryz.func105,Tryz.ntmps105
 go_wp2_with fail
 go_loopw [3,4] (fun nv iv wr=>∃ i n:Nat,i <= l.length /\ nv=.int .i64 n /\ iv=.int .i64 i /\ Hid (n+St.zY (l.drop i)=tot) /\ Hid (Keeps zA w wr)) (fun _ iv _=>l.length - (intOf iv).toNat)
 case atStart=>exact ⟨0,0,yH _,rfl,rfl,by show _=_;rw [yQ,HT.out];omega,yB _ _⟩
 case round =>
  obtain ⟨i,n,hi,rfl,rfl,HN,HK⟩:=hrel;by_cases hlt:i < l.length
  ·have i1:(0:Int) <= i:=by omega
   have i2:(i:Int) < l.length:=by omega
   have hd:=HN.out;rw [drop_at hlt] at hd;simp only [St.zY,St.zFq] at hd;obtain ⟨g,o,xa,xc,ta,tc,ea,ec,e1,hg,d0,d1,d2,d3,d4,d5,d6,d7,d8,d9,hx,hxt,hxe⟩:=(HL.out.keeps HK.out (fun _ _ h=>h)).at hlt;subst e1;have hsz:=St.zBz (yL hlt);rw [St.zCI] at hsz;have hB:=HB.out;have HTH:Hid (∀ W,Keeps zA wr W -> Calls Tryz.prog 124 #[.agg #[.int .i64 l[i].ex.kind, .int .i64 l[i].ex.num, .string l[i].ex.nm, .slice xa l[i].ex.args.length xc]] W fun e w'=>e=.returned (.bool l[i].ex.there) /\ Keeps zA W w'):=fun W hk=>zFC l[i].ex W xa xc
   have HX:Hid (∀ W,Keeps zA wr W -> Calls Tryz.prog 108 #[.agg #[.int .i64 l[i].ex.kind, .int .i64 l[i].ex.num, .string l[i].ex.nm, .slice xa l[i].ex.args.length xc]] W fun e w'=>e=.returned (.int .i64 l[i].ex.cnt) /\ Keeps zA W w'):=fun W hk=>zDx l[i].ex W F xa xc (hx.keeps hk (fun _ _ h=>h)) (by omega)
   have HTT:Hid (∀ W,Keeps zA wr W -> Calls Tryz.prog 105 #[.slice ta l[i].thn.length tc] W fun e w'=>e=.returned (.int .i64 (St.zY l[i].thn:Nat)) /\ Keeps zA W w'):=fun W hk=>(IH.out _ (yL hlt)).1 W F ta tc (hxt.keeps hk (fun _ _ h=>h)) (by omega)
   have HEE:Hid (∀ W,Keeps zA wr W -> Calls Tryz.prog 105 #[.slice ea l[i].els.length ec] W fun e w'=>e=.returned (.int .i64 (St.zY l[i].els:Nat)) /\ Keeps zA W w'):=fun W hk=>(IH.out _ (yL hlt)).2 W F ea ec (hxe.keeps hk (fun _ _ h=>h)) (by omega)
   obtain ⟨th,hth⟩:∃ th,th=l[i].ex.there:=⟨_,rfl⟩
   obtain ⟨cx,hcx⟩:∃ c,c=l[i].ex.cnt:=⟨_,rfl⟩
   obtain ⟨ct,hct⟩:∃ c,c=St.zY l[i].thn:=⟨_,rfl⟩
   obtain ⟨ce,hce⟩:∃ c,c=St.zY l[i].els:=⟨_,rfl⟩
   rw [<- hth] at HTH hd;rw [<- hcx] at HX hd;rw [<- hct] at HTT hd;rw [<- hce] at HEE hd;clear hx hxt hxe hsz hB hth hcx hct hce d0 d1 d2 d7;generalize l[i].ex.kind=x3 at d3 HX HTH;generalize l[i].ex.num=x4 at d4 HX HTH;generalize l[i].ex.nm=x5 at d5 HX HTH;generalize l[i].ex.args.length=x6 at d6 HX HTH;generalize l[i].thn.length=x8 at d8 HTT;generalize l[i].els.length=x9 at d9 HEE;cases th
   ·rw [if_neg (by decide)] at hd
    have HD:=yA hd;have b1:n+1+ct+ce < 1000000000:=by omega
    have b2:n+1+ct < 1000000000:=by omega
    clear hd;go_upto_region 9 with (go_at_call 124;refine (HTH.out _ (yB _ _)).mono ?_;rintro e w2 ⟨rfl,g1⟩;have G1:=yA g1;have d8':=g1.cell (p:=⟨g,o+i*10+8,none⟩) (fun h=>h) d8;clear g1)
    go_upto_region 10 with (go_at_call 105;refine (HTT.out _ G1.out).mono ?_;rintro e w3 ⟨rfl,g2⟩;have d9':=(G1.out.zB g2).cell (p:=⟨g,o+i*10+9,none⟩) (fun h=>h) d9;have G2:=yA (G1.out.zB g2);clear g2 d8')
    go_wp2_with (go_at_call 105;refine (HEE.out _ G2.out).mono ?_;rintro e w4 ⟨rfl,g3⟩;have G3:=yA (G2.out.zB g3);clear g3)
    go_roundw
    case rel=>exact ⟨i+1,n+1+ct+ce,by omega,by go_num,by go_num,by show _=_;have:=HD.out;omega,HK.out.zB G3.out⟩
    case measure=>simp [intOf];omega
   ·rw [if_pos rfl] at hd
    have HD:=yA hd;have b1:n+1+cx+ct+ce < 1000000000:=by omega
    have b2:n+1+cx+ct < 1000000000:=by omega
    have b3:n+1+cx < 1000000000:=by omega
    clear hd;go_upto_region 8 with (go_at_call 124;refine (HTH.out _ (yB _ _)).mono ?_;rintro e w2 ⟨rfl,g1⟩;have G1:=yA g1;have d3':=g1.cell (p:=⟨g,o+i*10+3,none⟩) (fun h=>h) d3;have d4':=g1.cell (p:=⟨g,o+i*10+4,none⟩) (fun h=>h) d4;have d5':=g1.cell (p:=⟨g,o+i*10+5,none⟩) (fun h=>h) d5;have d6':=g1.cell (p:=⟨g,o+i*10+6,none⟩) (fun h=>h) d6;clear g1)
    go_upto_region 9 with (go_at_call 108;refine (HX.out _ G1.out).mono ?_;rintro e wx ⟨rfl,gx⟩;have GX:=yA (G1.out.zB gx);have d8':=(G1.out.zB gx).cell (p:=⟨g,o+i*10+8,none⟩) (fun h=>h) d8;clear gx d3' d4' d5' d6')
    go_upto_region 10 with (go_at_call 105;refine (HTT.out _ GX.out).mono ?_;rintro e w3 ⟨rfl,g2⟩;have d9':=(GX.out.zB g2).cell (p:=⟨g,o+i*10+9,none⟩) (fun h=>h) d9;have G2:=yA (GX.out.zB g2);clear g2 d8')
    go_wp2_with (go_at_call 105;refine (HEE.out _ G2.out).mono ?_;rintro e w4 ⟨rfl,g3⟩;have G3:=yA (G2.out.zB g3);clear g3)
    go_roundw
    case rel=>exact ⟨i+1,n+1+cx+ct+ce,by omega,by go_num,by go_num,by show _=_;have:=HD.out;omega,HK.out.zB G3.out⟩
    case measure=>simp [intOf];omega
  ·obtain rfl:i=l.length:=by omega
   have hd:=HN.out;rw [xI] at hd;simp only [St.zY] at hd;obtain rfl:n=tot:=by omega
   go_wp2_with fail
   go_ret
   exact ⟨by go_num,HK.out⟩
theorem zOz (l:List St):zHx l:=by
 have key:∀ x:St,zHx x.thn /\ zHx x.els:=fun x=>St.ind (P:=fun x=>zHx x.thn /\ zHx x.els) (fun k r o x c t e h1 h2=>⟨zGm t h1,zGm e h2⟩) x
 exact zGm l (fun y _=>key y)
def zH6 (l:List St):Prop:=∀ (w:World) (F:Nat -> Prop) (ad:Option Addr) (cap d:Nat),zq w F l ad -> d+St.szL l < 1000000000 →
 Calls Tryz.prog 104 #[.slice ad l.length cap, .int .i64 d] w fun e w'=>e=.returned (.int .i64 (St.zm d l:Nat)) /\ Keeps zA w w'
theorem zG1 (l:List St) (ih:∀ y,y ∈ l -> zH6 y.thn /\ zH6 y.els):zH6 l:=by
 intro w F ad cap d h hb
 have HL:=yA h;have IH:=yA ih;have hl:=St.zAg l;have hcl:=St.zCc d l;have HB:=yA hb;obtain ⟨tot,ht⟩:∃ t,t=St.zm d l:=⟨_,rfl⟩
 have HT:=yA ht;rw [<- ht] at hcl ⊢;have hb1:l.length < 1000000000:=by omega
 have hb2:tot < 1000000000:=by omega
 have hb3:d < 1000000000:=by omega
 clear h ih ht hb hl hcl;have hw:IntKind.i64.wrap ((d:Int)+1)=(d:Int)+1:=vR _ (by omega) (by omega);go_enter Tryz.func104,Tryz.ntmps104
 go_wp2_with fail
 go_loopw [5,6] (fun nv iv wr=>∃ i n:Nat,i <= l.length /\ nv=.int .i64 n /\ iv=.int .i64 i /\ Hid (max n (St.zm d (l.drop i))=tot) /\ Hid (Keeps zA w wr)) (fun _ iv _=>l.length - (intOf iv).toNat)
 case atStart=>exact ⟨0,0,yH _,rfl,rfl,by show _=_;rw [yQ,HT.out];omega,yB _ _⟩
 case round =>
  obtain ⟨i,n,hi,rfl,rfl,HN,HK⟩:=hrel;by_cases hlt:i < l.length
  ·have i1:(0:Int) <= i:=by omega
   have i2:(i:Int) < l.length:=by omega
   have hd:=HN.out;rw [drop_at hlt] at hd;simp only [St.zm,St.zJE] at hd;obtain ⟨g,o,xa,xc,ta,tc,ea,ec,e1,hg,d0,d1,d2,d3,d4,d5,d6,d7,d8,d9,hx,hxt,hxe⟩:=(HL.out.keeps HK.out (fun _ _ h=>h)).at hlt;subst e1;have hsz:=St.zBz (yL hlt);rw [St.zCI] at hsz;have hB:=HB.out;have e:((d+1:Nat):Int)=(d:Int)+1:=by omega
   have HTH:Hid (∀ W,Keeps zA wr W -> Calls Tryz.prog 124 #[.agg #[.int .i64 l[i].ex.kind, .int .i64 l[i].ex.num, .string l[i].ex.nm, .slice xa l[i].ex.args.length xc]] W fun e w'=>e=.returned (.bool l[i].ex.there) /\ Keeps zA W w'):=fun W hk=>zFC l[i].ex W xa xc
   have HX:Hid (∀ W,Keeps zA wr W -> Calls Tryz.prog 125 #[.agg #[.int .i64 l[i].ex.kind, .int .i64 l[i].ex.num, .string l[i].ex.nm, .slice xa l[i].ex.args.length xc]] W fun e w'=>e=.returned (.int .i64 l[i].ex.dep) /\ Keeps zA W w'):=fun W hk=>zGo l[i].ex W F xa xc (hx.keeps hk (fun _ _ h=>h)) (by omega)
   have HTT:Hid (∀ W,Keeps zA wr W -> Calls Tryz.prog 104 #[.slice ta l[i].thn.length tc, .int .i64 ((d:Int)+1)] W fun e w'=>e=.returned (.int .i64 (St.zm (d+1) l[i].thn:Nat)) /\ Keeps zA W w'):=fun W hk=>by rw [<- e];exact (IH.out _ (yL hlt)).1 W F ta tc (d+1) (hxt.keeps hk (fun _ _ h=>h)) (by omega)
   have HEE:Hid (∀ W,Keeps zA wr W -> Calls Tryz.prog 104 #[.slice ea l[i].els.length ec, .int .i64 ((d:Int)+1)] W fun e w'=>e=.returned (.int .i64 (St.zm (d+1) l[i].els:Nat)) /\ Keeps zA W w'):=fun W hk=>by rw [<- e];exact (IH.out _ (yL hlt)).2 W F ea ec (d+1) (hxe.keeps hk (fun _ _ h=>h)) (by omega)
   obtain ⟨th,hth⟩:∃ th,th=l[i].ex.there:=⟨_,rfl⟩
   obtain ⟨cx,hcx⟩:∃ c,c=l[i].ex.dep:=⟨_,rfl⟩
   obtain ⟨ct,hct⟩:∃ c,c=St.zm (d+1) l[i].thn:=⟨_,rfl⟩
   obtain ⟨ce,hce⟩:∃ c,c=St.zm (d+1) l[i].els:=⟨_,rfl⟩
   rw [<- hth] at HTH hd;rw [<- hcx] at HX hd;rw [<- hct] at HTT hd;rw [<- hce] at HEE hd;clear hx hxt hxe hsz hB hth hcx hct hce d0 d1 d2 d7 e;generalize l[i].ex.kind=x3 at d3 HX HTH;generalize l[i].ex.num=x4 at d4 HX HTH;generalize l[i].ex.nm=x5 at d5 HX HTH;generalize l[i].ex.args.length=x6 at d6 HX HTH;generalize l[i].thn.length=x8 at d8 HTT;generalize l[i].els.length=x9 at d9 HEE;obtain ⟨n1,hn1⟩:∃ z,z=max n d:=⟨_,rfl⟩
   have m1:max (n:Int) (d:Int)=(n1:Int):=by omega
   cases th
   ·rw [if_neg (by decide)] at hd
    obtain ⟨n2,hn2⟩:∃ z,z=max n1 ct:=⟨_,rfl⟩
    have m2:max (n1:Int) (ct:Int)=(n2:Int):=by omega
    obtain ⟨n3,hn3⟩:∃ z,z=max n2 ce:=⟨_,rfl⟩
    have m3:max (n2:Int) (ce:Int)=(n3:Int):=by omega
    have HD:Hid (max n3 (St.zm d (l.drop (i+1)))=tot):=by show _=_;omega
    clear hd hn1 hn2 hn3;go_upto_region 10 with (go_at_call 124;refine (HTH.out _ (yB _ _)).mono ?_;rintro e w2 ⟨rfl,g1⟩;have G1:=yA g1;have d8':=g1.cell (p:=⟨g,o+i*10+8,none⟩) (fun h=>h) d8;clear g1)
    go_upto_region 12 with (go_at_call 104;refine (HTT.out _ G1.out).mono ?_;rintro e w3 ⟨rfl,g2⟩;have d9':=(G1.out.zB g2).cell (p:=⟨g,o+i*10+9,none⟩) (fun h=>h) d9;have G2:=yA (G1.out.zB g2);clear g2 d8')
    exact J46 _
   ·rw [if_pos rfl] at hd
    obtain ⟨nx,hnx⟩:∃ z,z=max n1 cx:=⟨_,rfl⟩
    have mx:max (n1:Int) (cx:Int)=(nx:Int):=by omega
    obtain ⟨n2,hn2⟩:∃ z,z=max nx ct:=⟨_,rfl⟩
    have m2:max (nx:Int) (ct:Int)=(n2:Int):=by omega
    obtain ⟨n3,hn3⟩:∃ z,z=max n2 ce:=⟨_,rfl⟩
    have m3:max (n2:Int) (ce:Int)=(n3:Int):=by omega
    have HD:Hid (max n3 (St.zm d (l.drop (i+1)))=tot):=by show _=_;omega
    clear hd hn1 hn2 hn3 hnx;go_upto_region 8 with (go_at_call 124;refine (HTH.out _ (yB _ _)).mono ?_;rintro e w2 ⟨rfl,g1⟩;have G1:=yA g1;have d3':=g1.cell (p:=⟨g,o+i*10+3,none⟩) (fun h=>h) d3;have d4':=g1.cell (p:=⟨g,o+i*10+4,none⟩) (fun h=>h) d4;have d5':=g1.cell (p:=⟨g,o+i*10+5,none⟩) (fun h=>h) d5;have d6':=g1.cell (p:=⟨g,o+i*10+6,none⟩) (fun h=>h) d6;clear g1)
    go_upto_region 10 with (go_at_call 125;refine (HX.out _ G1.out).mono ?_;rintro e wx ⟨rfl,gx⟩;have GX:=yA (G1.out.zB gx);have d8':=(G1.out.zB gx).cell (p:=⟨g,o+i*10+8,none⟩) (fun h=>h) d8;clear gx d3' d4' d5' d6')
    go_upto_region 12 with (go_at_call 104;refine (HTT.out _ GX.out).mono ?_;rintro e w3 ⟨rfl,g2⟩;have d9':=(GX.out.zB g2).cell (p:=⟨g,o+i*10+9,none⟩) (fun h=>h) d9;have G2:=yA (GX.out.zB g2);clear g2 d8')
    exact J46 _
  ·obtain rfl:i=l.length:=by omega
   have hd:=HN.out;rw [xI] at hd;simp only [St.zm] at hd;obtain rfl:n=tot:=by omega
   go_wp2_with fail
   go_ret
   exact ⟨by go_num,HK.out⟩
theorem zOw (l:List St):zH6 l:=by
 have key:∀ x:St,zH6 x.thn /\ zH6 x.els:=fun x=>St.ind (P:=fun x=>zH6 x.thn /\ zH6 x.els) (fun k r o x c t e h1 h2=>⟨zG1 t h1,zG1 e h2⟩) x
 exact zG1 l (fun y _=>key y)
theorem zGz (nm:ByteArray) (ts:List (List St)) (w:World) (F:Nat -> Prop) (pca pma ta:Option Addr) (pcn pcc pmn pmc tc:Nat) (h:zAe w F nm ts ta) (hb:zBg ts < 900000000) :
 Calls Tryz.prog 85 #[.agg #[.slice pca pcn pcc, .slice pma pmn pmc, .slice ta ts.length tc]] w fun e w'=>e=.returned (.int .i64 (zAM ts:Nat)) /\ Keeps zA w w':=by
 have HL:=yA h;have hl:=zH0 ts;have hc:=zH1 ts;have HB:=yA hb;obtain ⟨tot,ht⟩:∃ t,t=zAM ts:=⟨_,rfl⟩
 have HT:=yA ht;rw [<- ht] at hc ⊢;have hb1:ts.length < 1000000000:=by omega
 have hb2:tot < 1000000000:=by omega
 clear h ht hb hl hc;go_enter Tryz.func85,Tryz.ntmps85
 go_upto_region 1 with fail
 obtain ⟨b1,hb1⟩:∃ z,z=w.heap.size:=⟨_,rfl⟩
 have hr1:zC (w.alloc (.cells #[.slice pca pcn pcc, .slice pma pmn pmc, .slice ta ts.length tc] 150)) b1 [.slice pca pcn pcc, .slice pma pmn pmc, .slice ta ts.length tc]:=J151 _;have hk1:Keeps zA w (w.alloc (.cells #[.slice pca pcn pcc, .slice pma pmn pmc, .slice ta ts.length tc] 150)):=(yB _ _).alloc _;rw [<- hb1];generalize w.alloc (.cells #[.slice pca pcn pcc, .slice pma pmn pmc, .slice ta ts.length tc] 150)=w1 at hr1 hk1 ⊢;have R1:=yA hr1;have K1:=yA hk1;clear hr1 hk1 hb1;go_wp2_with fail
 go_loopw [3,4] (fun nv iv wr=>∃ i n:Nat,i <= ts.length /\ nv=.int .i64 n /\ iv=.int .i64 i /\ Hid (n+zAM (ts.drop i)=tot) /\ Hid (Keeps zA w1 wr)) (fun _ iv _=>ts.length - (intOf iv).toNat)
 case atStart=>exact ⟨0,0,yH _,rfl,rfl,by show _=_;rw [yQ,HT.out];omega,yB _ _⟩
 case round =>
  obtain ⟨i,n,hi,rfl,rfl,HN,HK⟩:=hrel;obtain ⟨y0,y1,y2⟩:=(R1.out.keeps HK.out (fun h=>h)).three;by_cases hlt:i < ts.length
  ·have i1:(0:Int) <= i:=by omega
   have i2:(i:Int) < ts.length:=by omega
   have hd:=HN.out;rw [drop_at hlt] at hd;simp only [zAM] at hd;obtain ⟨g,o,ba,bc,e1,hg,d0,d1,hx⟩:=(HL.out.keeps (K1.out.zB HK.out) (fun _ _ h=>h)).at hlt;subst e1;have HX:Hid (∀ W,Keeps zA wr W -> Calls Tryz.prog 105 #[.slice ba ts[i].length bc] W fun e w'=>e=.returned (.int .i64 (St.zY ts[i]:Nat)) /\ Keeps zA W w'):=fun W hk=>zOz ts[i] W F ba bc (hx.keeps hk (fun _ _ h=>h)) (by have:=zDM (yL hlt);have:=HB.out;omega)
   obtain ⟨m,hm⟩:∃ m,m=St.zY ts[i]:=⟨_,rfl⟩
   rw [<- hm] at HX hd;have HD:=yA hd;have b2:n+m < 1000000000:=by omega
   clear hx hm hd;generalize ts[i].length=x1 at d1 HX;go_wp2_with (go_at_call 105;refine (HX.out _ (yB _ _)).mono ?_;rintro e w2 ⟨rfl,g1⟩;have G1:=yA g1;clear g1)
   exact J83 _
  ·obtain rfl:i=ts.length:=by omega
   have hd:=HN.out;rw [xI] at hd;simp only [zAM] at hd;exact J64 _
theorem zHP (nm:ByteArray) (ts:List (List St)) (w:World) (F:Nat -> Prop) (pca pma ta:Option Addr) (pcn pcc pmn pmc tc:Nat) (h:zAe w F nm ts ta) (hb:zBg ts < 900000000) :
 Calls Tryz.prog 84 #[.agg #[.slice pca pcn pcc, .slice pma pmn pmc, .slice ta ts.length tc]] w fun e w'=>e=.returned (.int .i64 (zAB ts:Nat)) /\ Keeps zA w w':=by
 have HL:=yA h;have hl:=zH0 ts;have hc:=zE3 ts;have HB:=yA hb;obtain ⟨tot,ht⟩:∃ t,t=zAB ts:=⟨_,rfl⟩
 have HT:=yA ht;rw [<- ht] at hc ⊢;have hb1:ts.length < 1000000000:=by omega
 have hb2:tot < 1000000000:=by omega
 clear h ht hb hl hc;go_enter Tryz.func84,Tryz.ntmps84
 go_upto_region 1 with fail
 obtain ⟨b1,hb1⟩:∃ z,z=w.heap.size:=⟨_,rfl⟩
 have hr1:zC (w.alloc (.cells #[.slice pca pcn pcc, .slice pma pmn pmc, .slice ta ts.length tc] 150)) b1 [.slice pca pcn pcc, .slice pma pmn pmc, .slice ta ts.length tc]:=J151 _;have hk1:Keeps zA w (w.alloc (.cells #[.slice pca pcn pcc, .slice pma pmn pmc, .slice ta ts.length tc] 150)):=(yB _ _).alloc _;rw [<- hb1];generalize w.alloc (.cells #[.slice pca pcn pcc, .slice pma pmn pmc, .slice ta ts.length tc] 150)=w1 at hr1 hk1 ⊢;have R1:=yA hr1;have K1:=yA hk1;clear hr1 hk1 hb1;go_wp2_with fail
 go_loopw [3,4] (fun nv iv wr=>∃ i n:Nat,i <= ts.length /\ nv=.int .i64 n /\ iv=.int .i64 i /\ Hid (max n (zAB (ts.drop i))=tot) /\ Hid (Keeps zA w1 wr)) (fun _ iv _=>ts.length - (intOf iv).toNat)
 case atStart=>exact ⟨0,0,yH _,rfl,rfl,by show _=_;rw [yQ,HT.out];omega,yB _ _⟩
 case round =>
  obtain ⟨i,n,hi,rfl,rfl,HN,HK⟩:=hrel;obtain ⟨y0,y1,y2⟩:=(R1.out.keeps HK.out (fun h=>h)).three;by_cases hlt:i < ts.length
  ·have i1:(0:Int) <= i:=by omega
   have i2:(i:Int) < ts.length:=by omega
   have hd:=HN.out;rw [drop_at hlt] at hd;simp only [zAB] at hd;obtain ⟨g,o,ba,bc,e1,hg,d0,d1,hx⟩:=(HL.out.keeps (K1.out.zB HK.out) (fun _ _ h=>h)).at hlt;subst e1;have HX:Hid (∀ W,Keeps zA wr W -> Calls Tryz.prog 104 #[.slice ba ts[i].length bc, .int .i64 1] W fun e w'=>e=.returned (.int .i64 (St.zm 1 ts[i]:Nat)) /\ Keeps zA W w'):=fun W hk=>zOw ts[i] W F ba bc 1 (hx.keeps hk (fun _ _ h=>h)) (by have:=zDM (yL hlt);have:=HB.out;omega)
   obtain ⟨m,hm⟩:∃ m,m=St.zm 1 ts[i]:=⟨_,rfl⟩
   rw [<- hm] at HX hd;obtain ⟨n1,hn1⟩:∃ z,z=max n m:=⟨_,rfl⟩
   have m1:max (n:Int) (m:Int)=(n1:Int):=by omega
   have HD:Hid (max n1 (zAB (ts.drop (i+1)))=tot):=by show _=_;omega
   clear hx hm hd hn1;generalize ts[i].length=x1 at d1 HX;go_wp2_with (go_at_call 104;refine (HX.out _ (yB _ _)).mono ?_;rintro e w2 ⟨rfl,g1⟩;have G1:=yA g1;clear g1)
   go_roundw
   case rel=>exact ⟨i+1,n1,by omega,by first | rfl | (congr 1;omega) | go_num,by go_num,HD,HK.out.zB G1.out⟩
   case measure=>simp [intOf];omega
  ·obtain rfl:i=ts.length:=by omega
   have hd:=HN.out;rw [xI] at hd;simp only [zAB] at hd;exact J64 _
end Go.Proofs.YtfokdllgnblamaaGreatDoor
