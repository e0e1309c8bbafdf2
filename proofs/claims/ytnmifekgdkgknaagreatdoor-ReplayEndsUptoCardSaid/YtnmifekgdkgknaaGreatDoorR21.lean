/- Layer R: texts joined. -/
import Derived.Test.YtnmifekgdkgknaaGreatDoorR15
import Derived.Test.YtnmifekgdkgknaaGreatDoorR20
import Derived.Test.YtnmifekgdkgknaaGreatDoorR02
import Derived.Test.YtnmifekgdkgknaaGreatDoorR12
import Derived.Test.YtnmifekgdkgknaaGreatDoorR03
set_option linter.unusedVariables false
set_option linter.unusedSimpArgs false
set_option linter.unnecessarySimpa false
namespace Go.Proofs.YtnmifekgdkgknaaGreatDoor
open Go.RowKit
mutual
def Ex.pts:Ex -> Nat
 | .mk k _ _ l=>if k=0 then 0 else 1+Ex.ptsL l
def Ex.ptsL:List Ex -> Nat
 | []=>0
 | x :: r=>Ex.pts x+Ex.ptsL r
end
theorem may_kind0 {k num regs:Int} {nm:ByteArray} {n:Nat} (h:exLeaf k num nm n regs=true):k ≠ 0:=by
 intro e;subst e;simp [exLeaf] at h
mutual
theorem Ex.pts_may (regs:Int):(x:Ex) -> x.may regs=true -> x.pts=x.cnt
 | .mk k num nm l,h=>by
   simp only [Ex.may,Bool.and_eq_true] at h;have h1:=Ex.ptsL_may regs l h.2;simp only [Ex.pts,Ex.cnt,if_neg (may_kind0 h.1),h1]
theorem Ex.ptsL_may (regs:Int):(l:List Ex) -> Ex.mayL regs l=true -> Ex.ptsL l=Ex.cntL l
 | [],_=>rfl
 | x :: r,h=>by
   simp only [Ex.mayL,Bool.and_eq_true] at h;have h1:=Ex.pts_may regs x h.1;have h2:=Ex.ptsL_may regs r h.2;simp only [Ex.ptsL,Ex.cntL,h1,h2]
end
mutual
theorem Ex.pts_le:(x:Ex) -> x.pts <= x.cnt
 | .mk k num nm l=>by
   have h:=Ex.ptsL_le l;simp only [Ex.pts,Ex.cnt];split <;> omega
theorem Ex.ptsL_le:(l:List Ex) -> Ex.ptsL l <= Ex.cntL l
 | []=>Nat.le_refl _
 | x :: r=>by
   have h1:=Ex.pts_le x;have h2:=Ex.ptsL_le r;simp only [Ex.ptsL,Ex.cntL];omega
end
def Ex.own (x:Ex):Nat:=1+(if x.kind=0 then 0 else x.cnt)
theorem Ex.own_le (x:Ex):x.own <= 1+x.cnt:=by unfold Ex.own;split <;> omega
mutual
def Ac.stp:Ac -> Nat
 | .mk k _ _ _ c t e=>if k=1 then 0 else if k=10 then max (Ac.stpL t) (Ac.stpL e) else if k=11 then Ac.stpL t*c.toNat else 1
def Ac.stpL:List Ac -> Nat
 | []=>0
 | x :: r=>Ac.stp x+Ac.stpL r
end
mutual
def Ac.wrk:Ac -> Nat
 | .mk k _ _ x c t e=>x.own+(if k=10 then max (Ac.wrkL t) (Ac.wrkL e) else if k=11 then (Ac.wrkL t+1)*c.toNat else 0)
def Ac.wrkL:List Ac -> Nat
 | []=>0
 | x :: r=>Ac.wrk x+Ac.wrkL r
end
mutual
def Ac.okc:Ac -> Prop
 | .mk _ _ _ x c t e=>(0 <= c /\ c <= 1000) /\ x.pts=(if x.kind=0 then 0 else x.cnt) /\ Ac.okcL t /\ Ac.okcL e
def Ac.okcL:List Ac -> Prop
 | []=>True
 | x :: r=>Ac.okc x /\ Ac.okcL r
end
theorem Ac.okcL_mem {l:List Ac} (h:Ac.okcL l) {y:Ac} (hy:y ∈ l):y.okc:=by
 induction l with
 | nil=>cases hy
 | cons x r ih =>
   simp only [Ac.okcL] at h;rcases List.mem_cons.1 hy with e | e
   ·subst e;exact h.1
   ·exact ih h.2 e
theorem Ac.okc_eq {x:Ac} (h:x.okc):(0 <= x.count /\ x.count <= 1000) /\ x.ex.pts=(if x.ex.kind=0 then 0 else x.ex.cnt) /\ Ac.okcL x.thn /\ Ac.okcL x.els:=by
 cases x;simp only [Ac.okc] at h;exact h
theorem Ac.stp_eq (x:Ac):x.stp=if x.kind=1 then 0 else if x.kind=10 then max (Ac.stpL x.thn) (Ac.stpL x.els) else if x.kind=11 then Ac.stpL x.thn*x.count.toNat else 1:=by
 cases x;simp only [Ac.stp];rfl
theorem Ac.wrk_eq (x:Ac):x.wrk=x.ex.own+(if x.kind=10 then max (Ac.wrkL x.thn) (Ac.wrkL x.els) else if x.kind=11 then (Ac.wrkL x.thn+1)*x.count.toNat else 0):=by
 cases x;simp only [Ac.wrk];rfl
theorem pts_ok {x:Ex} {regs:Int} (h:x.may regs=true \/ x.none=true):x.pts=(if x.kind=0 then 0 else x.cnt):=by
 rcases h with h | h
 ·have h1:=Ex.pts_may regs x h
  have h2:=may_kind h;rw [if_neg h2,h1]
 ·cases x with
  | mk k num nm l =>
    simp only [Ex.none,Bool.and_eq_true,beq_iff_eq] at h;have hk:=h.1.1.1;subst hk;show Ex.pts (.mk 0 num nm l)=if (0:Int)=0 then 0 else _
    simp [Ex.pts]
mutual
theorem Ac.okc_may (u:Un) (regs:Int):(x:Ac) -> Ac.may u regs x=true -> x.okc
 | .mk k reg obj ex count t e,h=>by
   simp only [Ac.may,Bool.and_eq_true] at h;have h1:=Ac.okcL_may u regs t h.1.2;have h2:=Ac.okcL_may u regs e h.2;have h3:=h.1.1;unfold acLeaf at h3;simp only [Bool.and_eq_true] at h3;obtain ⟨⟨⟨⟨⟨⟨⟨_,_⟩,_⟩,_⟩,hx⟩,hc⟩,_⟩,_⟩:=h3;simp only [Ac.okc];refine ⟨?_,pts_ok (regs:=regs) ?_,h1,h2⟩
   ·cases hf:(fields k).count
    ·rw [hf] at hc
     have:count=0:=by simpa using hc
     subst this;exact ⟨by decide,by decide⟩
    ·rw [hf] at hc
     simp only [if_true,Bool.and_eq_true,decide_eq_true_eq] at hc;exact hc
   ·cases hf:(fields k).ex
    ·rw [hf] at hx;exact .inr (by simpa using hx)
    ·rw [hf] at hx;exact .inl (by simpa using hx)
theorem Ac.okcL_may (u:Un) (regs:Int):(l:List Ac) -> Ac.mayL u regs l=true -> Ac.okcL l
 | [],_=>trivial
 | x :: r,h=>by
   simp only [Ac.mayL,Bool.and_eq_true] at h;simp only [Ac.okcL];exact ⟨Ac.okc_may u regs x h.1,Ac.okcL_may u regs r h.2⟩
end
theorem lt_two (n:Nat):n+1 <= 2 ^ n:=Nat.lt_two_pow_self
mutual
theorem Ac.wrk_lt:(x:Ac) -> x.okc -> x.wrk+1 <= 2 ^ (11*x.sz)
 | .mk k reg obj ex c t e,h=>by
   simp only [Ac.okc] at h;have h1:=Ac.wrkL_lt t h.2.2.1;have h2:=Ac.wrkL_lt e h.2.2.2;have h3:=Ex.own_le ex;have hc:c.toNat <= 1000:=by omega
   have hq:2048*(ex.cnt+1) <= 2 ^ (11*(1+ex.cnt)):=by
    have h4:=lt_two (11*ex.cnt);rw [show 11*(1+ex.cnt)=11+11*ex.cnt by omega,Nat.pow_add];exact Nat.mul_le_mul (by decide) (by omega)
   simp only [Ac.wrk,Ac.sz];rw [Nat.mul_add,Nat.mul_add,Nat.pow_add,Nat.pow_add];generalize 2 ^ (11*(1+ex.cnt))=Q at hq ⊢;generalize 2 ^ (11*Ac.szL t)=A at h1 ⊢;generalize 2 ^ (11*Ac.szL e)=B at h2 ⊢;have hA:1 <= A:=by omega
   have hB:1 <= B:=by omega
   have hAB:max A B <= A*B:=by
    rcases Nat.le_total A B with hh | hh
    ·rw [Nat.max_eq_right hh];exact Nat.le_mul_of_pos_left B hA
    ·rw [Nat.max_eq_left hh];exact Nat.le_mul_of_pos_right A hB
   have hA2:A <= A*B:=Nat.le_mul_of_pos_right A hB;rw [Nat.mul_assoc];generalize A*B=P at hAB hA2 ⊢;have hP:1 <= P:=by omega
   have key:∀ z,z <= 1000*P -> ex.own+z+1 <= Q*P:=fun z hz=>by
    have h5:2048*(ex.cnt+1)*P <= Q*P:=Nat.mul_le_mul_right P hq;have h6:ex.cnt+1 <= (ex.cnt+1)*P:=Nat.le_mul_of_pos_right _ hP;rw [Nat.mul_assoc] at h5;have h7:P <= (ex.cnt+1)*P:=Nat.le_mul_of_pos_left P (by omega);omega
   split
   ·exact key _ (by omega)
   ·split
    ·refine key _ ?_
     have h8:(Ac.wrkL t+1)*c.toNat <= P*1000:=Nat.mul_le_mul (by omega) hc;omega
    ·exact key 0 (by omega)
theorem Ac.wrkL_lt:(l:List Ac) -> Ac.okcL l -> Ac.wrkL l+1 <= 2 ^ (11*Ac.szL l)
 | [],_=>by simp [Ac.wrkL,Ac.szL]
 | x :: r,h=>by
   simp only [Ac.okcL] at h;have h1:=Ac.wrk_lt x h.1;have h2:=Ac.wrkL_lt r h.2;simp only [Ac.wrkL,Ac.szL];rw [Nat.mul_add,Nat.pow_add];have h3:(x.wrk+1)*(Ac.wrkL r+1) <= 2 ^ (11*x.sz)*2 ^ (11*Ac.szL r):=Nat.mul_le_mul h1 h2
   have h4:x.wrk+Ac.wrkL r+1 <= (x.wrk+1)*(Ac.wrkL r+1):=by
    rw [Nat.add_mul,Nat.mul_add];omega
   omega
end
mutual
theorem Ac.stp_le:(x:Ac) -> x.stp <= x.wrk
 | .mk k reg obj ex c t e=>by
   have h1:=Ac.stpL_le t;have h2:=Ac.stpL_le e;have h3:1 <= ex.own:=by unfold Ex.own;omega
   simp only [Ac.stp,Ac.wrk];split
   ·omega
   ·split
    ·omega
    ·split
     ·have h4:Ac.stpL t*c.toNat <= (Ac.wrkL t+1)*c.toNat:=Nat.mul_le_mul_right _ (by omega)
      omega
     ·omega
theorem Ac.stpL_le:(l:List Ac) -> Ac.stpL l <= Ac.wrkL l
 | []=>Nat.le_refl _
 | x :: r=>by
   have h1:=Ac.stp_le x;have h2:=Ac.stpL_le r;simp only [Ac.stpL,Ac.wrkL];omega
end
theorem pow_mono2 {b n:Nat} (hb:2 <= b):2 ^ n <= b ^ n:=Nat.pow_le_pow_left hb n
theorem Ac.dlen_le {b:Nat} (hb:2 <= b) {l:List Ac} (h:Ac.okcL l) (hs:Ac.szL l < 1000000000) {m:Nat} (hm:m <= Ac.wrkL l+1):(dig b m).length <= 12000000000:=by
 have h1:=Ac.wrkL_lt l h
 have h2:m < b ^ (11*Ac.szL l+1):=by
  have h3:=pow_mono2 (n:=11*Ac.szL l) hb;have h4:0 < b ^ (11*Ac.szL l):=Nat.pow_pos (by omega);have h5:2*b ^ (11*Ac.szL l) <= b*b ^ (11*Ac.szL l):=Nat.mul_le_mul_right _ hb;rw [Nat.pow_succ,Nat.mul_comm];omega
 have:=dig_le hb h2
 omega
theorem Ac.stpL_take {l:List Ac} {i:Nat} (hi:i < l.length):Ac.stpL (l.take (i+1))=Ac.stpL (l.take i)+l[i].stp:=by
 have key:∀ (a b:List Ac),Ac.stpL (a++b)=Ac.stpL a+Ac.stpL b:=by
  intro a b
  induction a with
  | nil=>simp [Ac.stpL]
  | cons x r ih=>simp only [List.cons_append,Ac.stpL,ih];omega
 rw [take_at hi,key];simp [Ac.stpL]
theorem Ac.wrkL_take {l:List Ac} {i:Nat} (hi:i < l.length):Ac.wrkL (l.take (i+1))=Ac.wrkL (l.take i)+l[i].wrk:=by
 have key:∀ (a b:List Ac),Ac.wrkL (a++b)=Ac.wrkL a+Ac.wrkL b:=by
  intro a b
  induction a with
  | nil=>simp [Ac.wrkL]
  | cons x r ih=>simp only [List.cons_append,Ac.wrkL,ih];omega
 rw [take_at hi,key];simp [Ac.wrkL]
theorem Ac.wrkL_part (l:List Ac) (i:Nat):Ac.wrkL (l.take i) <= Ac.wrkL l:=by
 induction l generalizing i with
 | nil=>simp
 | cons x r ih =>
   cases i with
   | zero=>simp [Ac.wrkL]
   | succ i=>have:=ih i;simp only [List.take_succ_cons,Ac.wrkL];omega
theorem Ac.stpL_part (l:List Ac) (i:Nat):Ac.stpL (l.take i) <= Ac.stpL l:=by
 induction l generalizing i with
 | nil=>simp
 | cons x r ih =>
   cases i with
   | zero=>simp [Ac.stpL]
   | succ i=>have:=ih i;simp only [List.take_succ_cons,Ac.stpL];omega
def NumV (w:World) (F:Nat -> Prop) (b n:Nat) (v:Value):Prop:=∃ ad cap,v=.slice ad (dig b n).length cap /\ DigAt w F b n ad
theorem NumV.keeps {S F:Nat -> Prop} {w w':World} {b n:Nat} {v:Value} (h:NumV w F b n v) (hk:Keeps S w w') (hS:∀ k,F k -> ¬ S k):NumV w' F b n v:=by
 obtain ⟨ad,cap,e,h1⟩:=h;exact ⟨ad,cap,e,h1.keeps hk hS⟩
theorem NumV.keeps0 {F:Nat -> Prop} {w w':World} {b n:Nat} {v:Value} (h:NumV w F b n v) (hk:Keeps NoBlk w w'):NumV w' F b n v:=h.keeps hk (fun _ _ h=>h)
theorem NumV.mono {F F':Nat -> Prop} {w:World} {b n:Nat} {v:Value} (h:NumV w F b n v) (hF:∀ k,F k -> F' k):NumV w F' b n v:=by
 obtain ⟨ad,cap,e,h1⟩:=h;exact ⟨ad,cap,e,h1.mono hF⟩
theorem NumV.zero (w:World) (F:Nat -> Prop) (b:Nat):NumV w F b 0 (.slice none 0 0):=⟨none,0,by rw [dig_zero];rfl,DigAt.zero _ _ _ _⟩
theorem NewNum.v {b m:Nat} {w w':World} {e:Ending} (h:NewNum b m w e w'):∃ v,e=.returned v /\ NumV w' (Since w.heap.size w') b m v /\ Keeps NoBlk w w':=by
 obtain ⟨ad,cap,he,h1,h2⟩:=h;exact ⟨_,he,⟨ad,cap,rfl,h1⟩,h2⟩
theorem dig_one {b:Nat} (hb:2 <= b):dig b 1=[1]:=by
 rw [dig_pos hb (by decide),Nat.mod_eq_of_lt (by omega),Nat.div_eq_of_lt (by omega),dig_zero]
theorem NumV.one {b:Nat} (hb:2 <= b) {w:World} {g:Nat} (F:Nat -> Prop) (hg:RowAt w g [.int .i64 1]) (hF:F g):NumV w F b 1 (.slice (some ⟨g,0,none⟩) 1 1):=by
 refine ⟨some ⟨g,0,none⟩,1,by rw [dig_one hb];rfl,fun i hi=>?_⟩
 rw [dig_one hb] at hi;have hi0:i=0:=by simpa using hi
 subst hi0;refine ⟨g,0,rfl,hF,?_⟩
 rw [Nat.pow_zero,Nat.div_one,Nat.mod_eq_of_lt (by omega)];exact hg.cell (k:=0) rfl
theorem exprDeep_any:∀ (x:Ex) (w:World) (F:Nat -> Prop) (ad:Option Addr) (cap:Nat),ExsAt w F x.args ad -> x.cnt < 1000000000 →
 Calls Tryz.prog 112 #[exV x ad cap] w fun e w'=>e=.returned (.int .i64 x.dep) /\ Keeps NoBlk w w':=by
 refine Ex.ind (fun k num nm l ih w F ad cap h hb=>?_)
 have HL:Hid (ExsAt w F l ad):=h;have IH:=Lib.hid ih;have hl:=Ex.len_le l;have hcn:Ex.cnt (.mk k num nm l)=1+Ex.cntL l:=by simp [Ex.cnt]
 have hdn:Ex.dep (.mk k num nm l)=Ex.depL l+1:=by simp [Ex.dep]
 have hdl:Ex.depL l+1 <= 1+Ex.cntL l:=by rw [<- hcn,<- hdn];exact Ex.dep_le _
 rw [hcn] at hb;rw [hdn];clear h ih hcn hdn;obtain ⟨tot,ht⟩:∃ t,t=Ex.depL l:=⟨_,rfl⟩
 obtain ⟨tc,htc⟩:∃ t,t=Ex.cntL l:=⟨_,rfl⟩
 have HT:=Lib.hid ht;have HTC:=Lib.hid htc;rw [<- ht] at hdl ⊢;rw [<- htc] at hb hl hdl;have hb2:tot < 1000000000:=by omega
 clear ht htc;show Calls _ _ #[.agg #[.int .i64 k, .int .i64 num, .string nm, .slice ad l.length cap]] _ _
 go_enter Tryz.func112,Tryz.ntmps112
 go_upto_region 1 with fail
 obtain ⟨b1,hb1⟩:∃ z,z=w.heap.size:=⟨_,rfl⟩
 have hr1:RowAt (w.alloc (.cells #[.int .i64 k, .int .i64 num, .string nm, .slice ad l.length cap] 72)) b1 [.int .i64 k, .int .i64 num, .string nm, .slice ad l.length cap]:=by rw [hb1];exact RowAt.ofBlock (heap_alloc_new w _)
 have hk1:Keeps NoBlk w (w.alloc (.cells #[.int .i64 k, .int .i64 num, .string nm, .slice ad l.length cap] 72)):=(Keeps.refl _ _).alloc _;rw [<- hb1];generalize w.alloc (.cells #[.int .i64 k, .int .i64 num, .string nm, .slice ad l.length cap] 72)=w1 at hr1 hk1 ⊢;have R1:=Lib.hid hr1;have K1:=Lib.hid hk1;have c3:=hr1.cell (k:=3) (v:=.slice ad l.length cap) rfl;clear hr1 hk1 hb1;go_wp2_with fail
 go_loopw [3,4] (fun nv iv wr=>∃ i n:Nat,i <= l.length /\ nv=.int .i64 n /\ iv=.int .i64 i /\ Hid (max n (Ex.depL (l.drop i))=tot) /\ Hid (Keeps NoBlk w1 wr)) (fun _ iv _=>l.length - (intOf iv).toNat)
 case atStart=>exact ⟨0,0,Nat.zero_le _,rfl,rfl,by show _=_;rw [List.drop_zero,HT.out];omega,Keeps.refl _ _⟩
 case round =>
  obtain ⟨i,n,hi,rfl,rfl,HN,HK⟩:=hrel;have c3':=(R1.out.keeps HK.out (fun h=>h)).cell (k:=3) (v:=.slice ad l.length cap) rfl;clear c3;by_cases hlt:i < l.length
  ·have i1:(0:Int) <= i:=by omega
   have i2:(i:Int) < l.length:=by omega
   have hd:=HN.out;rw [drop_at hlt,Ex.depL] at hd;obtain ⟨g,o,a,c,e1,hg,d0,d1,d2,d3,hx⟩:=(HL.out.keeps (K1.out.trans0 HK.out) (fun _ _ h=>h)).at hlt;subst e1;have HC:Hid (∀ W,Keeps NoBlk wr W -> Calls Tryz.prog 112 #[.agg #[.int .i64 l[i].kind, .int .i64 l[i].num, .string l[i].nm, .slice a l[i].args.length c]] W fun e w'=>e=.returned (.int .i64 l[i].dep) /\ Keeps NoBlk W w'):=fun W hk=>IH.out _ (List.getElem_mem hlt) W F a c (hx.keeps hk (fun _ _ h=>h)) (by have:=Ex.cnt_mem (List.getElem_mem hlt);have:=HTC.out;omega)
   obtain ⟨m,hm⟩:∃ m,m=l[i].dep:=⟨_,rfl⟩
   rw [<- hm] at HC hd;have HD:=Lib.hid hd;clear hx hm hd;generalize l[i].kind=x0 at d0 HC;generalize l[i].num=x1 at d1 HC;generalize l[i].nm=x2 at d2 HC;generalize l[i].args.length=x3 at d3 HC;have hmx:max (n:Int) (m:Int)=((max n m:Nat):Int):=by omega
   go_wp2_with (go_at_call 112;refine (HC.out _ (Keeps.refl _ _)).mono ?_;rintro e w2 ⟨rfl,g1⟩;have G1:=Lib.hid g1;clear g1)
   go_roundw
   case rel=>exact ⟨i+1,max n m,by omega,by first | rfl | (congr 1;omega) | go_num,by go_num,by show _=_;have:=HD.out;omega,HK.out.trans0 G1.out⟩
   case measure=>simp [intOf];omega
  ·obtain rfl:i=l.length:=by omega
   have hd:=HN.out;rw [List.drop_length] at hd;simp only [Ex.depL] at hd;obtain rfl:n=tot:=by omega
   go_wp2_with fail
   go_ret
   exact ⟨by go_num,K1.out.trans0 HK.out⟩
def RcOk (l:List St):Prop:=∀ (w:World) (F:Nat -> Prop) (ad:Option Addr) (cap:Nat),StsAt w F l ad -> St.szL l < 1000000000 →
 Calls Tryz.prog 93 #[.slice ad l.length cap] w fun e w'=>e=.returned (.int .i64 (St.cntL l:Nat)) /\ Keeps NoBlk w w'
set_option maxRecDepth 8000 in
set_option maxHeartbeats 2000000 in
theorem rcOk_of (l:List St) (ih:∀ y,y ∈ l -> RcOk y.thn /\ RcOk y.els):RcOk l:=by
 intro w F ad cap h hb
 have HL:=Lib.hid h;have IH:=Lib.hid ih;have hl:=St.len_le l;have hcl:=St.cntL_le l;have HB:=Lib.hid hb;obtain ⟨tot,ht⟩:∃ t,t=St.cntL l:=⟨_,rfl⟩
 have HT:=Lib.hid ht;rw [<- ht] at hcl ⊢;have hb1:l.length < 1000000000:=by omega
 have hb2:tot < 1000000000:=by omega
 clear h ih ht hb hl hcl;go_enter Tryz.func93,Tryz.ntmps93
 go_wp2_with fail
 go_loopw [3,4] (fun nv iv wr=>∃ i n:Nat,i <= l.length /\ nv=.int .i64 n /\ iv=.int .i64 i /\ Hid (n+St.cntL (l.drop i)=tot) /\ Hid (Keeps NoBlk w wr)) (fun _ iv _=>l.length - (intOf iv).toNat)
 case atStart=>exact ⟨0,0,Nat.zero_le _,rfl,rfl,by show _=_;rw [List.drop_zero,HT.out];omega,Keeps.refl _ _⟩
 case round =>
  obtain ⟨i,n,hi,rfl,rfl,HN,HK⟩:=hrel;by_cases hlt:i < l.length
  ·have i1:(0:Int) <= i:=by omega
   have i2:(i:Int) < l.length:=by omega
   have hd:=HN.out;rw [drop_at hlt] at hd;simp only [St.cntL,St.cnt_eq] at hd;obtain ⟨g,o,xa,xc,ta,tc,ea,ec,e1,hg,d0,d1,d2,d3,d4,d5,d6,d7,d8,d9,hx,hxt,hxe⟩:=(HL.out.keeps HK.out (fun _ _ h=>h)).at hlt;subst e1;have hsz:=St.sz_mem (List.getElem_mem hlt);rw [St.sz_eq] at hsz;have hB:=HB.out;have HTH:Hid (∀ W,Keeps NoBlk wr W -> Calls Tryz.prog 111 #[.agg #[.int .i64 l[i].ex.kind, .int .i64 l[i].ex.num, .string l[i].ex.nm, .slice xa l[i].ex.args.length xc]] W fun e w'=>e=.returned (.bool l[i].ex.there) /\ Keeps NoBlk W w'):=fun W hk=>exThere_any l[i].ex W xa xc
   have HX:Hid (∀ W,Keeps NoBlk wr W -> Calls Tryz.prog 106 #[.agg #[.int .i64 l[i].ex.kind, .int .i64 l[i].ex.num, .string l[i].ex.nm, .slice xa l[i].ex.args.length xc]] W fun e w'=>e=.returned (.int .i64 l[i].ex.cnt) /\ Keeps NoBlk W w'):=fun W hk=>exprCount_any l[i].ex W F xa xc (hx.keeps hk (fun _ _ h=>h)) (by omega)
   have HTT:Hid (∀ W,Keeps NoBlk wr W -> Calls Tryz.prog 93 #[.slice ta l[i].thn.length tc] W fun e w'=>e=.returned (.int .i64 (St.cntL l[i].thn:Nat)) /\ Keeps NoBlk W w'):=fun W hk=>(IH.out _ (List.getElem_mem hlt)).1 W F ta tc (hxt.keeps hk (fun _ _ h=>h)) (by omega)
   have HEE:Hid (∀ W,Keeps NoBlk wr W -> Calls Tryz.prog 93 #[.slice ea l[i].els.length ec] W fun e w'=>e=.returned (.int .i64 (St.cntL l[i].els:Nat)) /\ Keeps NoBlk W w'):=fun W hk=>(IH.out _ (List.getElem_mem hlt)).2 W F ea ec (hxe.keeps hk (fun _ _ h=>h)) (by omega)
   obtain ⟨th,hth⟩:∃ th,th=l[i].ex.there:=⟨_,rfl⟩
   obtain ⟨cx,hcx⟩:∃ c,c=l[i].ex.cnt:=⟨_,rfl⟩
   obtain ⟨ct,hct⟩:∃ c,c=St.cntL l[i].thn:=⟨_,rfl⟩
   obtain ⟨ce,hce⟩:∃ c,c=St.cntL l[i].els:=⟨_,rfl⟩
   rw [<- hth] at HTH hd;rw [<- hcx] at HX hd;rw [<- hct] at HTT hd;rw [<- hce] at HEE hd;clear hx hxt hxe hsz hB hth hcx hct hce d0 d1 d2 d7;generalize l[i].ex.kind=x3 at d3 HX HTH;generalize l[i].ex.num=x4 at d4 HX HTH;generalize l[i].ex.nm=x5 at d5 HX HTH;generalize l[i].ex.args.length=x6 at d6 HX HTH;generalize l[i].thn.length=x8 at d8 HTT;generalize l[i].els.length=x9 at d9 HEE;cases th
   ·rw [if_neg (by decide)] at hd
    have HD:=Lib.hid hd;have b1:n+1+ct+ce < 1000000000:=by omega
    have b2:n+1+ct < 1000000000:=by omega
    clear hd;go_upto_region 9 with (go_at_call 111;refine (HTH.out _ (Keeps.refl _ _)).mono ?_;rintro e w2 ⟨rfl,g1⟩;have G1:=Lib.hid g1;have d8':=g1.cell (p:=⟨g,o+i*10+8,none⟩) (fun h=>h) d8;clear g1)
    go_upto_region 10 with (go_at_call 93;refine (HTT.out _ G1.out).mono ?_;rintro e w3 ⟨rfl,g2⟩;have d9':=(G1.out.trans0 g2).cell (p:=⟨g,o+i*10+9,none⟩) (fun h=>h) d9;have G2:=Lib.hid (G1.out.trans0 g2);clear g2 d8')
    go_wp2_with (go_at_call 93;refine (HEE.out _ G2.out).mono ?_;rintro e w4 ⟨rfl,g3⟩;have G3:=Lib.hid (G2.out.trans0 g3);clear g3)
    go_roundw
    case rel=>exact ⟨i+1,n+1+ct+ce,by omega,by go_num,by go_num,by show _=_;have:=HD.out;omega,HK.out.trans0 G3.out⟩
    case measure=>simp [intOf];omega
   ·rw [if_pos rfl] at hd
    have HD:=Lib.hid hd;have b1:n+1+cx+ct+ce < 1000000000:=by omega
    have b2:n+1+cx+ct < 1000000000:=by omega
    have b3:n+1+cx < 1000000000:=by omega
    clear hd;go_upto_region 8 with (go_at_call 111;refine (HTH.out _ (Keeps.refl _ _)).mono ?_;rintro e w2 ⟨rfl,g1⟩;have G1:=Lib.hid g1;have d3':=g1.cell (p:=⟨g,o+i*10+3,none⟩) (fun h=>h) d3;have d4':=g1.cell (p:=⟨g,o+i*10+4,none⟩) (fun h=>h) d4;have d5':=g1.cell (p:=⟨g,o+i*10+5,none⟩) (fun h=>h) d5;have d6':=g1.cell (p:=⟨g,o+i*10+6,none⟩) (fun h=>h) d6;clear g1)
    go_upto_region 9 with (go_at_call 106;refine (HX.out _ G1.out).mono ?_;rintro e wx ⟨rfl,gx⟩;have GX:=Lib.hid (G1.out.trans0 gx);have d8':=(G1.out.trans0 gx).cell (p:=⟨g,o+i*10+8,none⟩) (fun h=>h) d8;clear gx d3' d4' d5' d6')
    go_upto_region 10 with (go_at_call 93;refine (HTT.out _ GX.out).mono ?_;rintro e w3 ⟨rfl,g2⟩;have d9':=(GX.out.trans0 g2).cell (p:=⟨g,o+i*10+9,none⟩) (fun h=>h) d9;have G2:=Lib.hid (GX.out.trans0 g2);clear g2 d8')
    go_wp2_with (go_at_call 93;refine (HEE.out _ G2.out).mono ?_;rintro e w4 ⟨rfl,g3⟩;have G3:=Lib.hid (G2.out.trans0 g3);clear g3)
    go_roundw
    case rel=>exact ⟨i+1,n+1+cx+ct+ce,by omega,by go_num,by go_num,by show _=_;have:=HD.out;omega,HK.out.trans0 G3.out⟩
    case measure=>simp [intOf];omega
  ·obtain rfl:i=l.length:=by omega
   have hd:=HN.out;rw [List.drop_length] at hd;simp only [St.cntL] at hd;obtain rfl:n=tot:=by omega
   go_wp2_with fail
   go_ret
   exact ⟨by go_num,HK.out⟩
theorem rcOk (l:List St):RcOk l:=by
 have key:∀ x:St,RcOk x.thn /\ RcOk x.els:=fun x=>St.ind (P:=fun x=>RcOk x.thn /\ RcOk x.els) (fun k r o x c t e h1 h2=>⟨rcOk_of t h1,rcOk_of e h2⟩) x
 exact rcOk_of l (fun y _=>key y)
def RdOk (l:List St):Prop:=∀ (w:World) (F:Nat -> Prop) (ad:Option Addr) (cap d:Nat),StsAt w F l ad -> d+St.szL l < 1000000000 →
 Calls Tryz.prog 92 #[.slice ad l.length cap, .int .i64 d] w fun e w'=>e=.returned (.int .i64 (St.deepL d l:Nat)) /\ Keeps NoBlk w w'
set_option maxRecDepth 8000 in
set_option maxHeartbeats 2000000 in
theorem rdOk_of (l:List St) (ih:∀ y,y ∈ l -> RdOk y.thn /\ RdOk y.els):RdOk l:=by
 intro w F ad cap d h hb
 have HL:=Lib.hid h;have IH:=Lib.hid ih;have hl:=St.len_le l;have hcl:=St.deepL_le d l;have HB:=Lib.hid hb;obtain ⟨tot,ht⟩:∃ t,t=St.deepL d l:=⟨_,rfl⟩
 have HT:=Lib.hid ht;rw [<- ht] at hcl ⊢;have hb1:l.length < 1000000000:=by omega
 have hb2:tot < 1000000000:=by omega
 have hb3:d < 1000000000:=by omega
 clear h ih ht hb hl hcl;have hw:IntKind.i64.wrap ((d:Int)+1)=(d:Int)+1:=wrap_small _ (by omega) (by omega);go_enter Tryz.func92,Tryz.ntmps92
 go_wp2_with fail
 go_loopw [5,6] (fun nv iv wr=>∃ i n:Nat,i <= l.length /\ nv=.int .i64 n /\ iv=.int .i64 i /\ Hid (max n (St.deepL d (l.drop i))=tot) /\ Hid (Keeps NoBlk w wr)) (fun _ iv _=>l.length - (intOf iv).toNat)
 case atStart=>exact ⟨0,0,Nat.zero_le _,rfl,rfl,by show _=_;rw [List.drop_zero,HT.out];omega,Keeps.refl _ _⟩
 case round =>
  obtain ⟨i,n,hi,rfl,rfl,HN,HK⟩:=hrel;by_cases hlt:i < l.length
  ·have i1:(0:Int) <= i:=by omega
   have i2:(i:Int) < l.length:=by omega
   have hd:=HN.out;rw [drop_at hlt] at hd;simp only [St.deepL,St.deep_eq] at hd;obtain ⟨g,o,xa,xc,ta,tc,ea,ec,e1,hg,d0,d1,d2,d3,d4,d5,d6,d7,d8,d9,hx,hxt,hxe⟩:=(HL.out.keeps HK.out (fun _ _ h=>h)).at hlt;subst e1;have hsz:=St.sz_mem (List.getElem_mem hlt);rw [St.sz_eq] at hsz;have hB:=HB.out;have e:((d+1:Nat):Int)=(d:Int)+1:=by omega
   have HTH:Hid (∀ W,Keeps NoBlk wr W -> Calls Tryz.prog 111 #[.agg #[.int .i64 l[i].ex.kind, .int .i64 l[i].ex.num, .string l[i].ex.nm, .slice xa l[i].ex.args.length xc]] W fun e w'=>e=.returned (.bool l[i].ex.there) /\ Keeps NoBlk W w'):=fun W hk=>exThere_any l[i].ex W xa xc
   have HX:Hid (∀ W,Keeps NoBlk wr W -> Calls Tryz.prog 112 #[.agg #[.int .i64 l[i].ex.kind, .int .i64 l[i].ex.num, .string l[i].ex.nm, .slice xa l[i].ex.args.length xc]] W fun e w'=>e=.returned (.int .i64 l[i].ex.dep) /\ Keeps NoBlk W w'):=fun W hk=>exprDeep_any l[i].ex W F xa xc (hx.keeps hk (fun _ _ h=>h)) (by omega)
   have HTT:Hid (∀ W,Keeps NoBlk wr W -> Calls Tryz.prog 92 #[.slice ta l[i].thn.length tc, .int .i64 ((d:Int)+1)] W fun e w'=>e=.returned (.int .i64 (St.deepL (d+1) l[i].thn:Nat)) /\ Keeps NoBlk W w'):=fun W hk=>by rw [<- e];exact (IH.out _ (List.getElem_mem hlt)).1 W F ta tc (d+1) (hxt.keeps hk (fun _ _ h=>h)) (by omega)
   have HEE:Hid (∀ W,Keeps NoBlk wr W -> Calls Tryz.prog 92 #[.slice ea l[i].els.length ec, .int .i64 ((d:Int)+1)] W fun e w'=>e=.returned (.int .i64 (St.deepL (d+1) l[i].els:Nat)) /\ Keeps NoBlk W w'):=fun W hk=>by rw [<- e];exact (IH.out _ (List.getElem_mem hlt)).2 W F ea ec (d+1) (hxe.keeps hk (fun _ _ h=>h)) (by omega)
   obtain ⟨th,hth⟩:∃ th,th=l[i].ex.there:=⟨_,rfl⟩
   obtain ⟨cx,hcx⟩:∃ c,c=l[i].ex.dep:=⟨_,rfl⟩
   obtain ⟨ct,hct⟩:∃ c,c=St.deepL (d+1) l[i].thn:=⟨_,rfl⟩
   obtain ⟨ce,hce⟩:∃ c,c=St.deepL (d+1) l[i].els:=⟨_,rfl⟩
   rw [<- hth] at HTH hd;rw [<- hcx] at HX hd;rw [<- hct] at HTT hd;rw [<- hce] at HEE hd;clear hx hxt hxe hsz hB hth hcx hct hce d0 d1 d2 d7 e;generalize l[i].ex.kind=x3 at d3 HX HTH;generalize l[i].ex.num=x4 at d4 HX HTH;generalize l[i].ex.nm=x5 at d5 HX HTH;generalize l[i].ex.args.length=x6 at d6 HX HTH;generalize l[i].thn.length=x8 at d8 HTT;generalize l[i].els.length=x9 at d9 HEE;obtain ⟨n1,hn1⟩:∃ z,z=max n d:=⟨_,rfl⟩
   have m1:max (n:Int) (d:Int)=(n1:Int):=by omega
   cases th
   ·rw [if_neg (by decide)] at hd
    obtain ⟨n2,hn2⟩:∃ z,z=max n1 ct:=⟨_,rfl⟩
    have m2:max (n1:Int) (ct:Int)=(n2:Int):=by omega
    obtain ⟨n3,hn3⟩:∃ z,z=max n2 ce:=⟨_,rfl⟩
    have m3:max (n2:Int) (ce:Int)=(n3:Int):=by omega
    have HD:Hid (max n3 (St.deepL d (l.drop (i+1)))=tot):=by show _=_;omega
    clear hd hn1 hn2 hn3;go_upto_region 10 with (go_at_call 111;refine (HTH.out _ (Keeps.refl _ _)).mono ?_;rintro e w2 ⟨rfl,g1⟩;have G1:=Lib.hid g1;have d8':=g1.cell (p:=⟨g,o+i*10+8,none⟩) (fun h=>h) d8;clear g1)
    go_upto_region 12 with (go_at_call 92;refine (HTT.out _ G1.out).mono ?_;rintro e w3 ⟨rfl,g2⟩;have d9':=(G1.out.trans0 g2).cell (p:=⟨g,o+i*10+9,none⟩) (fun h=>h) d9;have G2:=Lib.hid (G1.out.trans0 g2);clear g2 d8')
    go_wp2_with (go_at_call 92;refine (HEE.out _ G2.out).mono ?_;rintro e w4 ⟨rfl,g3⟩;have G3:=Lib.hid (G2.out.trans0 g3);clear g3)
    go_roundw
    case rel=>exact ⟨i+1,n3,by omega,by first | rfl | (congr 1;omega) | go_num,by go_num,HD,HK.out.trans0 G3.out⟩
    case measure=>simp [intOf];omega
   ·rw [if_pos rfl] at hd
    obtain ⟨nx,hnx⟩:∃ z,z=max n1 cx:=⟨_,rfl⟩
    have mx:max (n1:Int) (cx:Int)=(nx:Int):=by omega
    obtain ⟨n2,hn2⟩:∃ z,z=max nx ct:=⟨_,rfl⟩
    have m2:max (nx:Int) (ct:Int)=(n2:Int):=by omega
    obtain ⟨n3,hn3⟩:∃ z,z=max n2 ce:=⟨_,rfl⟩
    have m3:max (n2:Int) (ce:Int)=(n3:Int):=by omega
    have HD:Hid (max n3 (St.deepL d (l.drop (i+1)))=tot):=by show _=_;omega
    clear hd hn1 hn2 hn3 hnx;go_upto_region 8 with (go_at_call 111;refine (HTH.out _ (Keeps.refl _ _)).mono ?_;rintro e w2 ⟨rfl,g1⟩;have G1:=Lib.hid g1;have d3':=g1.cell (p:=⟨g,o+i*10+3,none⟩) (fun h=>h) d3;have d4':=g1.cell (p:=⟨g,o+i*10+4,none⟩) (fun h=>h) d4;have d5':=g1.cell (p:=⟨g,o+i*10+5,none⟩) (fun h=>h) d5;have d6':=g1.cell (p:=⟨g,o+i*10+6,none⟩) (fun h=>h) d6;clear g1)
    go_upto_region 10 with (go_at_call 112;refine (HX.out _ G1.out).mono ?_;rintro e wx ⟨rfl,gx⟩;have GX:=Lib.hid (G1.out.trans0 gx);have d8':=(G1.out.trans0 gx).cell (p:=⟨g,o+i*10+8,none⟩) (fun h=>h) d8;clear gx d3' d4' d5' d6')
    go_upto_region 12 with (go_at_call 92;refine (HTT.out _ GX.out).mono ?_;rintro e w3 ⟨rfl,g2⟩;have d9':=(GX.out.trans0 g2).cell (p:=⟨g,o+i*10+9,none⟩) (fun h=>h) d9;have G2:=Lib.hid (GX.out.trans0 g2);clear g2 d8')
    go_wp2_with (go_at_call 92;refine (HEE.out _ G2.out).mono ?_;rintro e w4 ⟨rfl,g3⟩;have G3:=Lib.hid (G2.out.trans0 g3);clear g3)
    go_roundw
    case rel=>exact ⟨i+1,n3,by omega,by first | rfl | (congr 1;omega) | go_num,by go_num,HD,HK.out.trans0 G3.out⟩
    case measure=>simp [intOf];omega
  ·obtain rfl:i=l.length:=by omega
   have hd:=HN.out;rw [List.drop_length] at hd;simp only [St.deepL] at hd;obtain rfl:n=tot:=by omega
   go_wp2_with fail
   go_ret
   exact ⟨by go_num,HK.out⟩
theorem rdOk (l:List St):RdOk l:=by
 have key:∀ x:St,RdOk x.thn /\ RdOk x.els:=fun x=>St.ind (P:=fun x=>RdOk x.thn /\ RdOk x.els) (fun k r o x c t e h1 h2=>⟨rdOk_of t h1,rdOk_of e h2⟩) x
 exact rdOk_of l (fun y _=>key y)
set_option maxRecDepth 8000 in
theorem refCount_any (nm:ByteArray) (ts:List (List St)) (w:World) (F:Nat -> Prop) (pca pma ta:Option Addr) (pcn pcc pmn pmc tc:Nat) (h:ThsAt w F nm ts ta) (hb:psSz ts < 900000000) :
 Calls Tryz.prog 67 #[.agg #[.slice pca pcn pcc, .slice pma pmn pmc, .slice ta ts.length tc]] w fun e w'=>e=.returned (.int .i64 (psCnt ts:Nat)) /\ Keeps NoBlk w w':=by
 have HL:=Lib.hid h;have hl:=psLen_le ts;have hc:=psCnt_le ts;have HB:=Lib.hid hb;obtain ⟨tot,ht⟩:∃ t,t=psCnt ts:=⟨_,rfl⟩
 have HT:=Lib.hid ht;rw [<- ht] at hc ⊢;have hb1:ts.length < 1000000000:=by omega
 have hb2:tot < 1000000000:=by omega
 clear h ht hb hl hc;go_enter Tryz.func67,Tryz.ntmps67
 go_upto_region 1 with fail
 obtain ⟨b1,hb1⟩:∃ z,z=w.heap.size:=⟨_,rfl⟩
 have hr1:RowAt (w.alloc (.cells #[.slice pca pcn pcc, .slice pma pmn pmc, .slice ta ts.length tc] 116)) b1 [.slice pca pcn pcc, .slice pma pmn pmc, .slice ta ts.length tc]:=by rw [hb1];exact RowAt.ofBlock (heap_alloc_new w _)
 have hk1:Keeps NoBlk w (w.alloc (.cells #[.slice pca pcn pcc, .slice pma pmn pmc, .slice ta ts.length tc] 116)):=(Keeps.refl _ _).alloc _;rw [<- hb1];generalize w.alloc (.cells #[.slice pca pcn pcc, .slice pma pmn pmc, .slice ta ts.length tc] 116)=w1 at hr1 hk1 ⊢;have R1:=Lib.hid hr1;have K1:=Lib.hid hk1;clear hr1 hk1 hb1;go_wp2_with fail
 go_loopw [3,4] (fun nv iv wr=>∃ i n:Nat,i <= ts.length /\ nv=.int .i64 n /\ iv=.int .i64 i /\ Hid (n+psCnt (ts.drop i)=tot) /\ Hid (Keeps NoBlk w1 wr)) (fun _ iv _=>ts.length - (intOf iv).toNat)
 case atStart=>exact ⟨0,0,Nat.zero_le _,rfl,rfl,by show _=_;rw [List.drop_zero,HT.out];omega,Keeps.refl _ _⟩
 case round =>
  obtain ⟨i,n,hi,rfl,rfl,HN,HK⟩:=hrel;obtain ⟨y0,y1,y2⟩:=(R1.out.keeps HK.out (fun h=>h)).three;by_cases hlt:i < ts.length
  ·have i1:(0:Int) <= i:=by omega
   have i2:(i:Int) < ts.length:=by omega
   have hd:=HN.out;rw [drop_at hlt] at hd;simp only [psCnt] at hd;obtain ⟨g,o,ba,bc,e1,hg,d0,d1,hx⟩:=(HL.out.keeps (K1.out.trans0 HK.out) (fun _ _ h=>h)).at hlt;subst e1;have HX:Hid (∀ W,Keeps NoBlk wr W -> Calls Tryz.prog 93 #[.slice ba ts[i].length bc] W fun e w'=>e=.returned (.int .i64 (St.cntL ts[i]:Nat)) /\ Keeps NoBlk W w'):=fun W hk=>rcOk ts[i] W F ba bc (hx.keeps hk (fun _ _ h=>h)) (by have:=psSz_mem (List.getElem_mem hlt);have:=HB.out;omega)
   obtain ⟨m,hm⟩:∃ m,m=St.cntL ts[i]:=⟨_,rfl⟩
   rw [<- hm] at HX hd;have HD:=Lib.hid hd;have b2:n+m < 1000000000:=by omega
   clear hx hm hd;generalize ts[i].length=x1 at d1 HX;go_wp2_with (go_at_call 93;refine (HX.out _ (Keeps.refl _ _)).mono ?_;rintro e w2 ⟨rfl,g1⟩;have G1:=Lib.hid g1;clear g1)
   go_roundw
   case rel=>exact ⟨i+1,n+m,by omega,by go_num,by go_num,by show _=_;have:=HD.out;omega,HK.out.trans0 G1.out⟩
   case measure=>simp [intOf];omega
  ·obtain rfl:i=ts.length:=by omega
   have hd:=HN.out;rw [List.drop_length] at hd;simp only [psCnt] at hd;obtain rfl:n=tot:=by omega
   go_wp2_with fail
   go_ret
   exact ⟨by go_num,K1.out.trans0 HK.out⟩
set_option maxRecDepth 8000 in
theorem refDeep_any (nm:ByteArray) (ts:List (List St)) (w:World) (F:Nat -> Prop) (pca pma ta:Option Addr) (pcn pcc pmn pmc tc:Nat) (h:ThsAt w F nm ts ta) (hb:psSz ts < 900000000) :
 Calls Tryz.prog 66 #[.agg #[.slice pca pcn pcc, .slice pma pmn pmc, .slice ta ts.length tc]] w fun e w'=>e=.returned (.int .i64 (psDeep ts:Nat)) /\ Keeps NoBlk w w':=by
 have HL:=Lib.hid h;have hl:=psLen_le ts;have hc:=psDeep_le ts;have HB:=Lib.hid hb;obtain ⟨tot,ht⟩:∃ t,t=psDeep ts:=⟨_,rfl⟩
 have HT:=Lib.hid ht;rw [<- ht] at hc ⊢;have hb1:ts.length < 1000000000:=by omega
 have hb2:tot < 1000000000:=by omega
 clear h ht hb hl hc;go_enter Tryz.func66,Tryz.ntmps66
 go_upto_region 1 with fail
 obtain ⟨b1,hb1⟩:∃ z,z=w.heap.size:=⟨_,rfl⟩
 have hr1:RowAt (w.alloc (.cells #[.slice pca pcn pcc, .slice pma pmn pmc, .slice ta ts.length tc] 116)) b1 [.slice pca pcn pcc, .slice pma pmn pmc, .slice ta ts.length tc]:=by rw [hb1];exact RowAt.ofBlock (heap_alloc_new w _)
 have hk1:Keeps NoBlk w (w.alloc (.cells #[.slice pca pcn pcc, .slice pma pmn pmc, .slice ta ts.length tc] 116)):=(Keeps.refl _ _).alloc _;rw [<- hb1];generalize w.alloc (.cells #[.slice pca pcn pcc, .slice pma pmn pmc, .slice ta ts.length tc] 116)=w1 at hr1 hk1 ⊢;have R1:=Lib.hid hr1;have K1:=Lib.hid hk1;clear hr1 hk1 hb1;go_wp2_with fail
 go_loopw [3,4] (fun nv iv wr=>∃ i n:Nat,i <= ts.length /\ nv=.int .i64 n /\ iv=.int .i64 i /\ Hid (max n (psDeep (ts.drop i))=tot) /\ Hid (Keeps NoBlk w1 wr)) (fun _ iv _=>ts.length - (intOf iv).toNat)
 case atStart=>exact ⟨0,0,Nat.zero_le _,rfl,rfl,by show _=_;rw [List.drop_zero,HT.out];omega,Keeps.refl _ _⟩
 case round =>
  obtain ⟨i,n,hi,rfl,rfl,HN,HK⟩:=hrel;obtain ⟨y0,y1,y2⟩:=(R1.out.keeps HK.out (fun h=>h)).three;by_cases hlt:i < ts.length
  ·have i1:(0:Int) <= i:=by omega
   have i2:(i:Int) < ts.length:=by omega
   have hd:=HN.out;rw [drop_at hlt] at hd;simp only [psDeep] at hd;obtain ⟨g,o,ba,bc,e1,hg,d0,d1,hx⟩:=(HL.out.keeps (K1.out.trans0 HK.out) (fun _ _ h=>h)).at hlt;subst e1;have HX:Hid (∀ W,Keeps NoBlk wr W -> Calls Tryz.prog 92 #[.slice ba ts[i].length bc, .int .i64 1] W fun e w'=>e=.returned (.int .i64 (St.deepL 1 ts[i]:Nat)) /\ Keeps NoBlk W w'):=fun W hk=>rdOk ts[i] W F ba bc 1 (hx.keeps hk (fun _ _ h=>h)) (by have:=psSz_mem (List.getElem_mem hlt);have:=HB.out;omega)
   obtain ⟨m,hm⟩:∃ m,m=St.deepL 1 ts[i]:=⟨_,rfl⟩
   rw [<- hm] at HX hd;obtain ⟨n1,hn1⟩:∃ z,z=max n m:=⟨_,rfl⟩
   have m1:max (n:Int) (m:Int)=(n1:Int):=by omega
   have HD:Hid (max n1 (psDeep (ts.drop (i+1)))=tot):=by show _=_;omega
   clear hx hm hd hn1;generalize ts[i].length=x1 at d1 HX;go_wp2_with (go_at_call 92;refine (HX.out _ (Keeps.refl _ _)).mono ?_;rintro e w2 ⟨rfl,g1⟩;have G1:=Lib.hid g1;clear g1)
   go_roundw
   case rel=>exact ⟨i+1,n1,by omega,by first | rfl | (congr 1;omega) | go_num,by go_num,HD,HK.out.trans0 G1.out⟩
   case measure=>simp [intOf];omega
  ·obtain rfl:i=ts.length:=by omega
   have hd:=HN.out;rw [List.drop_length] at hd;simp only [psDeep] at hd;obtain rfl:n=tot:=by omega
   go_wp2_with fail
   go_ret
   exact ⟨by go_num,K1.out.trans0 HK.out⟩
end Go.Proofs.YtnmifekgdkgknaaGreatDoor
