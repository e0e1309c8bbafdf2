/- Layer N: texts joined. -/
import Derived.Test.YtoapgjjepiopbaaGreatDoorN22
import Derived.Test.YtoapgjjepiopbaaGreatDoorN25
set_option linter.all false
set_option maxHeartbeats 4000000
set_option maxRecDepth 8000
namespace Go.Proofs.YtoapgjjepiopbaaGreatDoor
open Go.RowKit
theorem J35 (P:Prop) (h:P:=by
 go_wp2_with fail
 go_ret
 exact ⟨rfl,K1.out⟩):P:=h
theorem J100 (P:Prop) (h:P:=by
 go_wp2_with fail
 go_ret
 exact ⟨rfl,HKR.out.zB K7.out⟩):P:=h
theorem J112 (P:Prop) (h:P:=by
 rcases (show j < i \/ j=i by omega) with h1 | h1
 ·exact HU.out j hj h1
 ·subst h1;exact h):P:=h
theorem J145 (P:Prop) (h:P:=by
 have q3':(8:Int) < cs.length:=by omega
 obtain rfl:=HNO.out (fun h=>by have h1:cs.length <= 8:=h.2.2.1;omega);exact J35 _):P:=h
theorem J146 (P:Prop) (h:P:=by
 have q2':(8:Int) < bs.length:=by omega
 obtain rfl:=HNO.out (fun h=>by have h1:bs.length <= 8:=h.2.1;omega);exact J35 _):P:=h
theorem J147 (P:Prop) (h:P:=by
 have q1':(bs.length:Int) < 1:=by omega
 obtain rfl:=HNO.out (fun h=>by have h1:1 <= bs.length:=h.1;omega);exact J35 _):P:=h
theorem J174 (P:Prop) (h:P:=by intro q hq;simp only [List.mem_cons,List.not_mem_nil,or_false] at hq;rcases hq with rfl | rfl <;> rfl):P:=h
theorem J199 (P:Prop) (h:P:=by have:=zD5 (List.getElem_mem hlt);have:=HSZ.out;omega):P:=h
mutual
theorem Ac.zJn:(x:Ac) -> x.plain.cnt=x.cnt
 | .mk k reg obj ex count t e=>by
   have h1:=Ac.zCv t;have h2:=Ac.zCv e;simp only [Ac.plain,St.cnt,Ac.cnt,h1,h2]
theorem Ac.zCv:(l:List Ac) -> St.zM (Ac.zAF l)=Ac.zM l
 | []=>rfl
 | x :: r=>by
   have h1:=Ac.zJn x;have h2:=Ac.zCv r;simp only [Ac.zAF,St.zM,Ac.zM,h1,h2]
end
mutual
theorem Ac.zIV (d:Nat):(x:Ac) -> x.plain.deep d=x.deep d
 | .mk k reg obj ex count t e=>by
   have h1:=Ac.zCE (d+1) t;have h2:=Ac.zCE (d+1) e;simp only [Ac.plain,St.deep,Ac.deep,h1,h2]
theorem Ac.zCE (d:Nat):(l:List Ac) -> St.zk d (Ac.zAF l)=Ac.zk d l
 | []=>rfl
 | x :: r=>by
   have h1:=Ac.zIV d x;have h2:=Ac.zCE d r;simp only [Ac.zAF,St.zk,Ac.zk,h1,h2]
end
mutual
theorem Ac.zKb:(x:Ac) -> x.plain.sz=x.sz
 | .mk k reg obj ex count t e=>by
   have h1:=Ac.zDI t;have h2:=Ac.zDI e;simp only [Ac.plain,St.sz,Ac.sz,h1,h2]
theorem Ac.zDI:(l:List Ac) -> St.szL (Ac.zAF l)=Ac.szL l
 | []=>rfl
 | x :: r=>by
   have h1:=Ac.zKb x;have h2:=Ac.zDI r;simp only [Ac.zAF,St.szL,Ac.szL,h1,h2]
end
def zAi (bs:List Bd):List (List St):=bs.map fun b=>Ac.zAF b.acts
theorem zFm (bs:List Bd):zy (zAi bs)=(bs.map fun b=>Ac.zk 1 b.acts).foldr max 0:=by
 induction bs with
 | nil=>rfl
 | cons b r ih =>
   have ih':zy (r.map fun b=>Ac.zAF b.acts)=(r.map fun b=>Ac.zk 1 b.acts).foldr max 0:=ih;simp only [zAi,List.map_cons,zy,List.foldr_cons,Ac.zCE,ih']
theorem zGo (bs:List Bd):zAH (zAi bs)=(bs.map fun b=>Ac.zM b.acts).foldr (·+·) 0:=by
 induction bs with
 | nil=>rfl
 | cons b r ih =>
   have ih':zAH (r.map fun b=>Ac.zAF b.acts)=(r.map fun b=>Ac.zM b.acts).foldr (·+·) 0:=ih;simp only [zAi,List.map_cons,zAH,List.foldr_cons,Ac.zCv,ih']
theorem zHo (bs:List Bd):zBC (zAi bs)=zAb bs:=by
 induction bs with
 | nil=>rfl
 | cons b r ih =>
   have ih':zBC (r.map fun b=>Ac.zAF b.acts)=zAb r:=ih;simp only [zAi,List.map_cons,zBC,zAb,Ac.zDI,ih']
theorem zJF {u:Un} {c:Int} (hc:c ∈ u.cells) (h:zBr c=false):zu u=false:=by
 have h1:u.cells.all zBr=false:=by
  rw [Bool.eq_false_iff];intro e
  have:=List.all_eq_true.1 e c hc
  rw [h] at this;cases this
 unfold zu;rw [h1];simp
theorem zF2 {u:Un} {b:Bd} (hb:b ∈ u.threads) (h:Ac.zq u b.regs b.acts=false):zu u=false:=by
 have h1:(u.threads.all fun b=>decide (0 <= b.regs)&&decide (b.regs <= 8)&&Ac.zq u b.regs b.acts)=false:=by
  rw [Bool.eq_false_iff];intro e
  have:=List.all_eq_true.1 e b hb
  simp only [Bool.and_eq_true,decide_eq_true_eq] at this;rw [h] at this;cases this.2
 unfold zu;rw [h1];simp
theorem zJU {u:Un} (h:zDt u) (hc:u.cells.all zBr=true) (hr:∀ b,b ∈ u.threads -> 0 <= b.regs /\ b.regs <= 8 /\ Ac.zq u b.regs b.acts=true):zu u=(decide (zy (zAi u.threads) <= 16)&&decide (zAH (zAi u.threads) <= 500)):=by
 have h1:(u.threads.all fun b=>decide (0 <= b.regs)&&decide (b.regs <= 8)&&Ac.zq u b.regs b.acts)=true:=by
  rw [List.all_eq_true];intro b hb
  have:=hr b hb
  simp only [Bool.and_eq_true,decide_eq_true_eq];exact ⟨⟨this.1,this.2.1⟩,this.2.2⟩
 unfold zu;rw [h1,hc,zFm,zGo];simp [h.1,h.2.1,h.2.2.1,h.2.2.2.1,h.2.2.2.2]
def zDh:zBA (List St):=fun w F t cs=>∃ ba bc,cs=[.string zn, .slice ba t.length bc] /\ zm w F t ba
theorem zJt:zAN zDh 2:=⟨fun h hk hS=>by exact J193 _,fun h hF=>by exact J198 _,fun h=>by obtain ⟨ba,bc,e,h1⟩:=h;rw [e];rfl⟩
theorem Acc.tbs {w:World} {G:Nat -> Prop} {B n cap:Nat} {ty:TypeId} {ad:Option Addr} {ts:List (List St)} {css:List (List Value)} (h:Acc zDh G B 2 ty w (.slice ad n cap) ts css) (hl:ts.length <= 1000):zAP w (fun k=>G k \/ (B <= k /\ k < w.heap.size)) zn ts ad:=by
 obtain ⟨h1,h2⟩:=h.elems zJt (ad:=ad) (n:=n) (cap:=cap) rfl;refine ⟨hl,fun i hi=>?_⟩
 obtain ⟨g,o,e,hg,hl,hc⟩:=h1 i hi;obtain ⟨ba,bc,hR',hs⟩:=h2 i ts[i] (List.getElem?_eq_getElem hi);have hc0:=hc 0 (.string zn) (by show (css.getD i [])[_]?=_;rw [hR'];rfl);have hc1:=hc 1 (.slice ba ts[i].length bc) (by show (css.getD i [])[_]?=_;rw [hR'];rfl);refine ⟨g,o,ba,bc,e,hg,hc0,?_,hs⟩
 rw [Nat.add_assoc];exact hc1
theorem zEG (cs:List Int) (mu:Int) (bs:List Bd) (w:World) (F:Nat -> Prop) (uca uta:Option Addr) (ucc utc:Nat)
 (hcs:zAn w F cs uca) (hbd:zBa w F bs uta) (hF:∀ k,F k -> k < w.heap.size) (hsz:zAb bs < 900000000) (hl1:cs.length < 1000000000) (hl2:bs.length < 1000000000) :
 Calls Tryz.prog 20 #[.agg #[.slice uca cs.length ucc, .int .i64 mu, .slice uta bs.length utc]] w fun e w'=>e=.returned (.bool (zu ⟨cs,mu,bs⟩)) /\ Keeps zA w w':=by
 have HCS:=Lib.hid hcs;have HBD:=Lib.hid hbd;have HFs:=Lib.hid hF;have HSZ:=Lib.hid hsz;obtain ⟨j3,hj3,hy0,hy1,hy2⟩:=info_parts zE3;obtain ⟨r,hr⟩:=eX (zu ⟨cs,mu,bs⟩);have HR:=Lib.hid hr;rw [<- hr];clear hcs hbd hF hsz hr;go_enter Tryz.func20,Tryz.ntmps20
 go_upto_region 1 with fail
 obtain ⟨b1,hb1⟩:=eX w.heap.size;have hr1:zC (w.alloc (.cells #[.slice uca cs.length ucc, .int .i64 mu, .slice uta bs.length utc] 25)) b1 [.slice uca cs.length ucc, .int .i64 mu, .slice uta bs.length utc]:=J150 _;have hk1:Keeps zA w (w.alloc (.cells #[.slice uca cs.length ucc, .int .i64 mu, .slice uta bs.length utc] 25)):=(Keeps.refl _ _).alloc _;have hs1:b1 < (w.alloc (.cells #[.slice uca cs.length ucc, .int .i64 mu, .slice uta bs.length utc] 25)).heap.size:=by rw [hb1];simp
 rw [<- hb1];generalize w.alloc (.cells #[.slice uca cs.length ucc, .int .i64 mu, .slice uta bs.length utc] 25)=w1 at hr1 hk1 hs1 ⊢;obtain ⟨d0,d1,d2⟩:=hr1.three;have R1:=Lib.hid hr1;have K1:=Lib.hid hk1;have S1:Hid (b1 < w1.heap.size /\ w.heap.size <= b1):=⟨hs1,by omega⟩;clear hr1 hk1 hb1 hs1;have HNO:Hid (¬ zDt ⟨cs,mu,bs⟩ -> false=r):=fun h=>by rw [HR.out,zET h]
 rcases Nat.lt_or_ge bs.length 1 with q1 | q1
 ·exact J147 _
 have q1':¬ (bs.length:Int) < 1:=by omega
 rcases Nat.lt_or_ge 8 bs.length with q2 | q2
 ·exact J146 _
 have q2':¬ (8:Int) < bs.length:=by omega
 rcases Nat.lt_or_ge 8 cs.length with q3 | q3
 ·exact J145 _
 have q3':¬ (8:Int) < cs.length:=by omega
 rcases Int.lt_or_le mu 0 with q4 | q4
 ·obtain rfl:=HNO.out (fun h=>by have h1:0 <= mu:=h.2.2.2.1;omega)
  exact J35 _
 have q4':¬ mu < 0:=by omega
 rcases Int.lt_or_le 8 mu with q5 | q5
 ·obtain rfl:=HNO.out (fun h=>by have h1:mu <= 8:=h.2.2.2.2;omega)
  exact J35 _
 have q5':¬ 8 < mu:=by omega
 have HHD:Hid (zDt ⟨cs,mu,bs⟩):=⟨q1,q2,q3,q4,q5⟩;go_upto_region 4 with fail
 clear d0 d1 d2 q4' q5' q3' q2' q1' q1 q4 q5;have CS1:Hid (zAn w1 F cs uca):=HCS.out.keeps K1.out (fun _ _ h=>h);have BD1:Hid (zBa w1 F bs uta):=HBD.out.keeps K1.out (fun _ _ h=>h);clear HCS HBD;go_loopw [3] (fun iv wr=>∃ (i:Nat),i <= cs.length /\ iv=.int .i64 i /\ Hid (Keeps zA w1 wr) /\ Hid ((cs.take i).all zBr=true)) (fun iv _=>cs.length - (intOf iv).toNat)
 case atStart=>exact ⟨0,Nat.zero_le _,rfl,Keeps.refl _ _,by show _=_;rfl⟩
 case round =>
  obtain ⟨i,hi,rfl,HK,HU⟩:=hrel;obtain ⟨y0,y1,y2⟩:=(R1.out.keeps HK.out (fun h=>h)).three;by_cases hlt:i < cs.length
  ·have i1:(0:Int) <= i:=by omega
   have i2:(i:Int) < cs.length:=by omega
   obtain ⟨g,o,e1,hg,d0⟩:=(CS1.out.keeps HK.out (fun _ _ h=>h)) i hlt;subst e1;have HNO3:Hid (zBr cs[i]=false -> false=r):=fun h=>by rw [HR.out,zJF (u:=⟨cs,mu,bs⟩) (List.getElem_mem hlt) h]
   have HU2:Hid (zBr cs[i]=true -> (cs.take (i+1)).all zBr=true):=fun h=>by rw [take_at hlt,List.all_append,HU.out];simp [h]
   generalize cs[i]=x at d0 HNO3 HU2;rcases Int.lt_or_le x (-2147483647) with h1 | h1
   ·obtain rfl:=HNO3.out (by unfold zBr;rw [decide_eq_false (by omega:¬ -2147483647 <= x)];rfl)
    go_wp2_with fail
    go_ret
    exact ⟨rfl,K1.out.zB HK.out⟩
   have h1':¬ x < -2147483647:=by omega
   rcases Int.lt_or_le 2147483647 x with h2 | h2
   ·obtain rfl:=HNO3.out (by unfold zBr;rw [decide_eq_false (by omega:¬ x <= 2147483647)];simp)
    go_wp2_with fail
    go_ret
    exact ⟨rfl,K1.out.zB HK.out⟩
   have h2':¬ 2147483647 < x:=by omega
   have HU3:=Lib.hid (HU2.out (by unfold zBr;simp [h1,h2]));clear HNO3 HU2;go_wp2_with fail
   go_roundw
   case rel=>exact ⟨i+1,by omega,by go_num,HK,HU3⟩
   case measure=>simp [intOf];omega
  ·obtain rfl:i=cs.length:=by omega
   have HCA:Hid (cs.all zBr=true):=by have h:=HU.out;rw [List.take_length] at h;exact h
   clear HU hi;go_upto_region 9 with fail
   obtain ⟨b4,hb4⟩:=eX wr.heap.size;have hr4:zC (wr.alloc (.cells #[.slice none 0 0, .slice none 0 0, .slice none 0 0] 102)) b4 [.slice none 0 0, .slice none 0 0, .slice none 0 0]:=by rw [hb4];exact zC.zG (heap_alloc_new wr _)
   have hk4:Keeps zA wr (wr.alloc (.cells #[.slice none 0 0, .slice none 0 0, .slice none 0 0] 102)):=(Keeps.refl _ _).alloc _;have hs4:b4 < (wr.alloc (.cells #[.slice none 0 0, .slice none 0 0, .slice none 0 0] 102)).heap.size:=by rw [hb4];simp
   rw [<- hb4];generalize wr.alloc (.cells #[.slice none 0 0, .slice none 0 0, .slice none 0 0] 102)=w4 at hr4 hk4 hs4 ⊢;have R4:=Lib.hid hr4;have K4:Hid (Keeps zA w1 w4):=HK.out.zB hk4;have KW4:Hid (Keeps zA w w4):=K1.out.zB K4.out;have S4:Hid (w1.heap.size <= b4 /\ b4 < w4.heap.size /\ b1 ≠ b4):=⟨by have:=HK.out.size;omega,hs4,by have:=S1.out;have:=HK.out.size;omega⟩;clear hr4 hk4 hb4 hs4 y0 y1 y2;obtain ⟨B,hB⟩:=eX w4.heap.size;have HBE:Hid (B=w4.heap.size /\ b4 < B /\ w.heap.size <= B /\ w.heap.size <= b4):=⟨hB,by have:=S4.out;omega,by have:=KW4.out.size;omega,by have:=S4.out;have:=K1.out.size;omega⟩;clear hB;have hFb:Hid (∀ q,F q -> ¬ (fun q=>q=b4) q):=fun q hq e=>by have e':q=b4:=e;have:=HFs.out q hq;have:=HBE.out;omega
   have BD4:Hid (zBa w4 F bs uta):=BD1.out.keeps K4.out (fun _ _ h=>h);have R14:Hid (zC w4 b1 [.slice uca cs.length ucc, .int .i64 mu, .slice uta bs.length utc]):=R1.out.keeps K4.out (fun h=>h);clear HK R1 BD1 CS1;obtain ⟨ps,hps⟩:=eX (zAi bs);have HPS:Hid (ps=zAi bs):=hps;have HPL:Hid (ps.length=bs.length):=by show _=_;rw [hps];unfold zAi;rw [List.length_map]
   clear hps;go_upto_region 10 with fail
   go_loopw [5] (fun iv wr=>∃ (i:Nat) (ea:Option Addr) (ec:Nat) (css:List (List Value)),i <= bs.length /\ iv=.int .i64 i /\ Hid (zC wr b4 [.slice none 0 0, .slice none 0 0, .slice ea i ec]) /\ Hid (Acc zDh F B 2 111 wr (.slice ea i ec) (ps.take i) css) /\ Hid (Keeps (fun q=>q=b4) w4 wr) /\ Hid (∀ j (hj:j < bs.length),j < i -> 0 <= bs[j].regs /\ bs[j].regs <= 8 /\ Ac.zq ⟨cs,mu,bs⟩ bs[j].regs bs[j].acts=true)) (fun iv _=>bs.length - (intOf iv).toNat)
   case atStart=>exact ⟨0,none,0,[],Nat.zero_le _,rfl,R4,Acc.nil w4,Keeps.refl _ _,fun j hj h=>by omega⟩
   case round =>
    obtain ⟨i,ea,ec,css,hi,rfl,RB,HA,HK,HU⟩:=hrel;obtain ⟨y0,y1,y2⟩:=(R14.out.keeps HK.out (fun e=>S4.out.2.2 e)).three;have HKR:Hid (Keeps zA w wr):=KW4.out.trans HK.out (fun q hq e=>by have e':q=b4:=e;have:=HBE.out;omega);by_cases hlt:i < bs.length
    ·have i1:(0:Int) <= i:=by omega
     have i2:(i:Int) < bs.length:=by omega
     obtain ⟨g,o,ba,bc,e1,hg,d0,d1,hx⟩:=(BD4.out.keeps HK.out hFb.out) i hlt;subst e1;have HNO2:Hid (¬ (0 <= bs[i].regs /\ bs[i].regs <= 8) -> false=r):=fun h=>by rw [HR.out,zFz (u:=⟨cs,mu,bs⟩) (List.getElem_mem hlt) h]
     have HNO4:Hid (Ac.zq ⟨cs,mu,bs⟩ bs[i].regs bs[i].acts=false -> false=r):=fun h=>by rw [HR.out,zF2 (u:=⟨cs,mu,bs⟩) (List.getElem_mem hlt) h]
     have HU2:Hid (0 <= bs[i].regs /\ bs[i].regs <= 8 /\ Ac.zq ⟨cs,mu,bs⟩ bs[i].regs bs[i].acts=true -> ∀ j (hj:j < bs.length),j < i+1 -> 0 <= bs[j].regs /\ bs[j].regs <= 8 /\ Ac.zq ⟨cs,mu,bs⟩ bs[j].regs bs[j].acts=true):=fun h j hj hj2=>by
      exact J112 _
     have hszi:Ac.szL bs[i].acts < 1000000000:=J199 _
     have HM:Hid (∀ W,Keeps zA wr W -> Calls Tryz.prog 48 #[.slice ba bs[i].acts.length bc, .int .i64 bs[i].regs, .agg #[.slice uca cs.length ucc, .int .i64 mu, .slice (some ⟨g,o,none⟩) bs.length utc]] W fun e w'=>e=.returned (.bool (Ac.zq ⟨cs,mu,bs⟩ bs[i].regs bs[i].acts)) /\ Keeps zA W w'):=fun W hk =>
      zNf bs[i].acts ⟨cs,mu,bs⟩ bs[i].regs W F uca ucc (some ⟨g,o,none⟩) utc ba bc (hx.keeps hk (fun _ _ h=>h)) hszi
     obtain ⟨p,hp⟩:=eX (Ac.zAF bs[i].acts)
     have HPP:Hid (∀ W,Keeps zA wr W -> Calls Tryz.prog 49 #[.slice ba bs[i].acts.length bc] W fun e w'=>∃ ad' cap',e=.returned (.slice ad' bs[i].acts.length cap') /\ zm w' (fun k=>F k \/ (W.heap.size <= k /\ k < w'.heap.size)) p ad' /\ Keeps zA W w'):=fun W hk=>by
      rw [hp];exact zM3 bs[i].acts W F ba bc (hx.keeps hk (fun _ _ h=>h)) (fun k hk'=>Nat.lt_of_lt_of_le (HFs.out k hk') (Nat.le_trans HKR.out.size hk.size)) hszi
     have HPN:Hid (p.length=bs[i].acts.length):=by show _=_;rw [hp,Ac.zCh]
     have HTK:Hid (ps.take (i+1)=ps.take i++[p]):=by
      show _=_
      have hl:i < ps.length:=by have:=HPL.out;omega
      have e3:ps[i]=Ac.zAF bs[i].acts:=by
       have h1:=HPS.out;subst h1;simp [zAi]
      rw [take_at hl,hp,e3]
     obtain ⟨mm,hmm⟩:=eX (Ac.zq ⟨cs,mu,bs⟩ bs[i].regs bs[i].acts);rw [<- hmm] at HNO4 HM HU2;clear hx hp hmm hszi;generalize bs[i].regs=x0 at d0 HNO2 HU2 HM;generalize bs[i].acts.length=x1 at d1 HM HPP HPN;go_upto_region 13 with fail
     obtain ⟨b6,hb6⟩:=eX wr.heap.size;have hr6:zC (wr.alloc (.cells #[.int .i64 x0, .slice ba x1 bc] 48)) b6 [.int .i64 x0, .slice ba x1 bc]:=by rw [hb6];exact zC.zG (heap_alloc_new wr _)
     have hk6:Keeps zA wr (wr.alloc (.cells #[.int .i64 x0, .slice ba x1 bc] 48)):=(Keeps.refl _ _).alloc _;rw [<- hb6];generalize wr.alloc (.cells #[.int .i64 x0, .slice ba x1 bc] 48)=w6 at hr6 hk6 ⊢;obtain ⟨t0,t1⟩:=hr6.two;have R6:=Lib.hid hr6;have K6:=Lib.hid hk6;have R16:=R14.out.keeps (HK.out.trans hk6 (fun _ _ h=>False.elim h)) (fun e=>S4.out.2.2 e);clear hr6 hk6 hb6 d0 d1 y0 y1 y2;obtain ⟨y0,y1,y2⟩:=R16.three;clear R16;go_upto_region 14 with (go_at_call 48;refine (HM.out _ K6.out).mono ?_;rintro e w7 ⟨rfl,g7⟩;have r7:=R6.out.keeps g7 (fun h=>h);have K7:=Lib.hid (K6.out.zB g7);have R7:=Lib.hid r7;clear g7 r7 t0 t1)
     clear y0 y1 y2;obtain ⟨t0,t1⟩:=R7.out.two;rcases Int.lt_or_le x0 0 with q4 | q4
     ·obtain rfl:=HNO2.out (fun h=>by omega)
      exact J100 _
     have q4':¬ x0 < 0:=by omega
     rcases Int.lt_or_le 8 x0 with q5 | q5
     ·obtain rfl:=HNO2.out (fun h=>by omega)
      exact J100 _
     have q5':¬ 8 < x0:=by omega
     cases mm
     ·obtain rfl:=HNO4.out rfl
      exact J100 _
     have HU3:=Lib.hid (HU2.out ⟨q4,q5,rfl⟩);go_upto_region 17 with (go_at_call 49;refine (HPP.out _ K7.out).mono ?_;rintro e w8 ⟨pa,pc,rfl,p8,g8⟩;have P8:=Lib.hid p8;have K8:=Lib.hid (K7.out.zB g8);have G8:=Lib.hid g8;clear g8 p8 t0 t1)
     clear q4 q5 q4' q5' HNO2 HNO4 HM HPP HU2;have RB8:Hid (zC w8 b4 [.slice none 0 0, .slice none 0 0, .slice ea i ec]):=RB.out.keeps K8.out (fun h=>h);obtain ⟨z0,z1,z2⟩:=RB8.out.three;have HA8:Hid (Acc zDh F B 2 111 w8 (.slice ea i ec) (ps.take i) css):=HA.out.zD zJt K8.out;have HLEN:Hid ((ps.take i).length=i):=by show _=_;rw [List.length_take];have:=HPL.out;omega
     have hOB:Hid (∀ q,(Value.slice ea i ec).ownBlock=some q -> B <= q):=HA.out.2.2.1;have i3:i+1 <= 8:=by omega
     go_upto_region 11 with (at_builtin;refine zI _ (by rfl) _ _ 100 (by rfl) 0 111 j3 _ 2 40 Tryz.underlying100 hj3 hy0 hy1 hy2 rfl (by decide) (.slice ea i ec) i css.flatten (by rfl) (by have h1:=(HA8.out.zD zJt ((Keeps.refl zA w8).alloc (.cells #[.string zn, .slice pa x1 pc] 111))).2.1;rw [HLEN.out] at h1;exact h1) (.slice (some ⟨w8.heap.size,0,none⟩) 1 1) 1 [.string zn, .slice pa x1 pc] (by rfl) (zC.src (zC.zG (heap_alloc_new w8 _))) rfl (J174 _) (by unfold maxLen;omega) (by omega) (Nat.zero_le _) ?_;intro da2 dc2 w9 ha;have HAO:=Lib.hid ha;have k9:=zi.keeps ha ((Keeps.refl (fun q=>(Value.slice ea i ec).ownBlock=some q) w8).alloc _) (fun q e _=>e);have r9:=RB8.out.keeps k9 (fun e=>by have:=hOB.out b4 e;have:=HBE.out;omega);have z22:=r9.cell (k:=2) (v:=.slice ea i ec) rfl;have f22:=r9.free (k:=2) (by simp);have R9W:=Lib.hid r9;have K9W:=Lib.hid k9;clear ha k9 r9 z0 z1 z2)
     obtain ⟨wA,hwA⟩:=eX (w8.alloc (.cells #[.string zn, .slice pa x1 pc] 111));have KA:Keeps zA w8 wA:=J173 _;have HAA:Acc zDh F B 2 111 wA (.slice ea i ec) (ps.take i) css:=HA8.out.zD zJt KA;have HAO':zi wA 0 111 2 (.slice ea i ec) (i+1) (css.flatten++[.string zn, .slice pa x1 pc]) da2 dc2 w9:=by rw [hwA];exact HAO.out
     have hown:∀ kb,(Value.slice ea i ec).ownBlock=some kb -> kb < wr.heap.size:=fun kb e=>zS HA.out.2.1 e
     have hel:zDh wA (zB6 F B wA (.slice ea i ec)) p [.string zn, .slice pa x1 pc]:=by
      have e:x1=p.length:=HPN.out.symm;refine ⟨pa,pc,by rw [e],(P8.out.keeps KA (fun _ _ h=>h)).mono (fun k hk=>?_)⟩
      rcases hk with hk | ⟨hk1,hk2⟩
      ·exact .inl hk
      ·refine .inr ⟨?_,Nat.lt_of_lt_of_le hk2 KA.size,fun e=>?_⟩
       ·have:=HBE.out;have:=HK.out.size;have:=K7.out.size;omega
       ·have:=hown k e;have:=K7.out.size;omega
     have hset:Keeps (fun q=>q=b4) w9 (w9.setCell ⟨b4,2,none⟩ (.slice da2 (i+1) dc2)):=(Keeps.refl (fun q=>q=b4) w9).setCell (p:=⟨b4,2,none⟩) (fun _=>rfl) _
     have hpush:Acc zDh F B 2 111 (w9.setCell ⟨b4,2,none⟩ (.slice da2 (i+1) dc2)) (.slice da2 (i+1) dc2) (ps.take (i+1)) (css++[[.string zn, .slice pa x1 pc]]):=by
      have h1:=HAA.push zJt (fun k hk=>by have:=HFs.out k hk;have:=HBE.out;omega) (by have:=HBE.out;have:=HK.out.size;have:=K8.out.size;have:=KA.size;omega) hel (by decide) (ad:=da2) (cap:=dc2) (w':=w9) (by rw [HLEN.out];exact HAO');rw [HLEN.out] at h1;rw [HTK.out];exact h1.keeps zJt hset (fun k hk=>⟨by have e':k=b4:=hk;have:=HBE.out;omega,fun h=>hFb.out k h hk⟩)
     have hrow:zC (w9.setCell ⟨b4,2,none⟩ (.slice da2 (i+1) dc2)) b4 [.slice none 0 0, .slice none 0 0, .slice da2 (i+1) dc2]:=R9W.out.set 2 (by simp) _
     have hkeep:Keeps (fun q=>q=b4) w4 (w9.setCell ⟨b4,2,none⟩ (.slice da2 (i+1) dc2)) :=
      (((HK.out.trans K8.out (fun _ _ h=>h.elim)).trans K9W.out (fun q hq e=>by exact J196 _)).trans hset (fun _ _ h=>h))
     have HPU:=Lib.hid hpush;have HRO:=Lib.hid hrow;have HKE:=Lib.hid hkeep;clear hpush hrow hkeep hset hel HAO' HAA KA hwA hown;go_wp2_with fail
     go_roundw
     case rel=>exact ⟨i+1,da2,dc2,css++[[.string zn, .slice pa x1 pc]],by omega,by go_num,HRO,HPU,HKE,HU3⟩
     case measure=>simp [intOf];omega
    ·obtain rfl:i=bs.length:=by omega
     have hA:=HA.out;have e:ps.take bs.length=ps:=by rw [<- HPL.out,List.take_length]
     rw [e] at hA;have THR:Hid (zAP wr (fun k=>F k \/ (B <= k /\ k < wr.heap.size)) zn ps ea):=hA.tbs (by have:=HPL.out;omega);clear hA HA e
     have hreg:∀ b,b ∈ bs -> 0 <= b.regs /\ b.regs <= 8 /\ Ac.zq ⟨cs,mu,bs⟩ b.regs b.acts=true:=fun b hb=>by
      obtain ⟨j,hj,e⟩:=List.mem_iff_getElem.1 hb;rw [<- e];exact HU.out j hj hj
     have hrf:r=(decide (zy ps <= 16)&&decide (zAH ps <= 500)):=by rw [HR.out,HPS.out];exact zJU HHD.out HCA.out hreg
     have hsz:zBC ps < 900000000:=by rw [HPS.out,zHo];exact HSZ.out
     have HDP:Hid (∀ W,Keeps zA wr W -> Calls Tryz.prog 50 #[.agg #[.slice none 0 0, .slice none 0 0, .slice ea bs.length ec]] W fun e w'=>e=.returned (.int .i64 (zy ps:Nat)) /\ Keeps zA W w'):=fun W hk=>by
      have h1:=zHc zn ps W _ none none ea 0 0 0 0 ec (THR.out.keeps hk (fun _ _ h=>h)) hsz;rw [HPL.out] at h1;exact h1
     have HCP:Hid (∀ W,Keeps zA wr W -> Calls Tryz.prog 51 #[.agg #[.slice none 0 0, .slice none 0 0, .slice ea bs.length ec]] W fun e w'=>e=.returned (.int .i64 (zAH ps:Nat)) /\ Keeps zA W w'):=fun W hk=>by
      have h1:=zGc zn ps W _ none none ea 0 0 0 0 ec (THR.out.keeps hk (fun _ _ h=>h)) hsz;rw [HPL.out] at h1;exact h1
     generalize zy ps=D at hrf HDP;generalize zAH ps=C at hrf HCP;clear hreg hsz HR HU HNO;obtain ⟨z0,z1,z2⟩:=RB.out.three;go_upto_region 19 with (go_at_call 50;refine (HDP.out _ (Keeps.refl _ _)).mono ?_;rintro e w5 ⟨rfl,g5⟩;have r5:=RB.out.keeps g5 (fun h=>h);have R5:=Lib.hid r5;have G5:=Lib.hid g5;clear r5 g5 z0 z1 z2 y0 y1 y2)
     obtain ⟨z0,z1,z2⟩:=R5.out.three;go_upto_region 20 with (go_at_call 51;refine (HCP.out _ G5.out).mono ?_;rintro e w6 ⟨rfl,g6⟩;have G6:=Lib.hid (G5.out.zB g6);clear g6)
     clear z0 z1 z2;by_cases hd1:D <= 16
     ·have hd1i:(D:Int) <= 16:=by omega
      by_cases hd2:C <= 500
      ·have hd2i:(C:Int) <= 500:=by omega
       obtain rfl:r=true:=by rw [hrf];simp [hd1,hd2]
       clear hrf;go_wp2_with fail
       go_ret
       exact ⟨by simp [hd2i],HKR.out.zB G6.out⟩
      ·have hd2i:¬ (C:Int) <= 500:=by omega
       obtain rfl:r=false:=by rw [hrf];simp [hd1,hd2]
       clear hrf;go_wp2_with fail
       go_ret
       exact ⟨by simp [hd2i],HKR.out.zB G6.out⟩
     ·have hd1i:¬ (D:Int) <= 16:=by omega
      obtain rfl:r=false:=by rw [hrf];simp [hd1]
      clear hrf;go_wp2_with fail
      go_ret
      exact ⟨by simp [hd1i],HKR.out.zB G6.out⟩
end Go.Proofs.YtoapgjjepiopbaaGreatDoor
