/- Layer M: texts joined. -/
import Derived.Test.YtfokdllgnblamaaGreatDoorM15
import Derived.Test.YtfokdllgnblamaaGreatDoorM18
set_option linter.all false
set_option maxHeartbeats 4000000
set_option maxRecDepth 8000
namespace Go.Proofs.YtfokdllgnblamaaGreatDoor
open Go.RowKit
abbrev vY:=@List.length_map
theorem J39 (P:Prop) (h:P:=by
 go_wp2_with fail
 go_ret
 exact ⟨rfl,K1.out⟩):P:=h
theorem J125 (P:Prop) (h:P:=by
 go_wp2_with fail
 go_ret
 exact ⟨rfl,HKR.out.zB K7.out⟩):P:=h
theorem J143 (P:Prop) (h:P:=by
 rcases (show j < i \/ j=i by omega) with h1 | h1
 ·exact HU.out j hj h1
 ·subst h1;exact h):P:=h
theorem J183 (P:Prop) (h:P:=by
 have q3':(8:Int) < cs.length:=by omega
 obtain rfl:=HNO.out (fun h=>by have h1:cs.length <= 8:=h.2.2.1;omega);exact J39 _):P:=h
theorem J184 (P:Prop) (h:P:=by
 have q2':(8:Int) < bs.length:=by omega
 obtain rfl:=HNO.out (fun h=>by have h1:bs.length <= 8:=h.2.1;omega);exact J39 _):P:=h
theorem J185 (P:Prop) (h:P:=by
 have q1':(bs.length:Int) < 1:=by omega
 obtain rfl:=HNO.out (fun h=>by have h1:1 <= bs.length:=h.1;omega);exact J39 _):P:=h
theorem J203 (P:Prop) (h:P:=by intro q hq;simp only [xU,vJ,or_false] at hq;rcases hq with rfl | rfl <;> rfl):P:=h
theorem J242 (P:Prop) (h:P:=by have:=zDm (yO hlt);have:=HSZ.out;omega):P:=h
mutual
theorem Ac.zKP:(x:Ac) -> x.plain.cnt=x.cnt
 | .mk k reg obj ex count t e=>by
   have h1:=Ac.zDI t;have h2:=Ac.zDI e;simp only [Ac.plain,St.cnt,Ac.cnt,h1,h2]
theorem Ac.zDI:(l:List Ac) -> St.zX (Ac.zAW l)=Ac.zX l
 | []=>rfl
 | x :: r=>by
   have h1:=Ac.zKP x;have h2:=Ac.zDI r;simp only [Ac.zAW,St.zX,Ac.zX,h1,h2]
end
mutual
theorem Ac.zI5 (d:Nat):(x:Ac) -> x.plain.deep d=x.deep d
 | .mk k reg obj ex count t e=>by
   have h1:=Ac.zCu (d+1) t;have h2:=Ac.zCu (d+1) e;simp only [Ac.plain,St.deep,Ac.deep,h1,h2]
theorem Ac.zCu (d:Nat):(l:List Ac) -> St.zy d (Ac.zAW l)=Ac.zy d l
 | []=>rfl
 | x :: r=>by
   have h1:=Ac.zI5 d x;have h2:=Ac.zCu d r;simp only [Ac.zAW,St.zy,Ac.zy,h1,h2]
end
mutual
theorem Ac.zKv:(x:Ac) -> x.plain.sz=x.sz
 | .mk k reg obj ex count t e=>by
   have h1:=Ac.zD0 t;have h2:=Ac.zD0 e;simp only [Ac.plain,St.sz,Ac.sz,h1,h2]
theorem Ac.zD0:(l:List Ac) -> St.szL (Ac.zAW l)=Ac.szL l
 | []=>rfl
 | x :: r=>by
   have h1:=Ac.zKv x;have h2:=Ac.zD0 r;simp only [Ac.zAW,St.szL,Ac.szL,h1,h2]
end
def zBM (bs:List Bd):List (List St):=bs.map fun b=>Ac.zAW b.acts
theorem zGO (bs:List Bd):zAI (zBM bs)=(bs.map fun b=>Ac.zy 1 b.acts).foldr max 0:=by
 induction bs with
 | nil=>rfl
 | cons b r ih =>
   have ih':zAI (r.map fun b=>Ac.zAW b.acts)=(r.map fun b=>Ac.zy 1 b.acts).foldr max 0:=ih;simp only [zBM,uY,zAI,List.foldr_cons,Ac.zCu,ih']
theorem zHJ (bs:List Bd):zAc (zBM bs)=(bs.map fun b=>Ac.zX b.acts).foldr (·+·) 0:=by
 induction bs with
 | nil=>rfl
 | cons b r ih =>
   have ih':zAc (r.map fun b=>Ac.zAW b.acts)=(r.map fun b=>Ac.zX b.acts).foldr (·+·) 0:=ih;simp only [zBM,uY,zAc,List.foldr_cons,Ac.zDI,ih']
theorem zHk (bs:List Bd):zBn (zBM bs)=zA1 bs:=by
 induction bs with
 | nil=>rfl
 | cons b r ih =>
   have ih':zBn (r.map fun b=>Ac.zAW b.acts)=zA1 r:=ih;simp only [zBM,uY,zBn,zA1,Ac.zD0,ih']
theorem zJy {u:Un} {c:Int} (hc:c ∈ u.cells) (h:zCV c=false):zU u=false:=by
 have h1:u.cells.all zCV=false:=by
  rw [Bool.eq_false_iff];intro e
  have:=xK.1 e c hc
  rw [h] at this;cases this
 unfold zU;rw [h1];simp
theorem zGs {u:Un} {b:Bd} (hb:b ∈ u.threads) (h:Ac.zAM u b.regs b.acts=false):zU u=false:=by
 have h1:(u.threads.all fun b=>decide (0 <= b.regs)&&decide (b.regs <= 8)&&Ac.zAM u b.regs b.acts)=false:=by
  rw [Bool.eq_false_iff];intro e
  have:=xK.1 e b hb
  simp only [yU,yV] at this;rw [h] at this;cases this.2
 unfold zU;rw [h1];simp
theorem zJ5 {u:Un} (h:zEG u) (hc:u.cells.all zCV=true) (hr:∀ b,b ∈ u.threads -> 0 <= b.regs /\ b.regs <= 8 /\ Ac.zAM u b.regs b.acts=true):zU u=(decide (zAI (zBM u.threads) <= 16)&&decide (zAc (zBM u.threads) <= 500)):=by
 have h1:(u.threads.all fun b=>decide (0 <= b.regs)&&decide (b.regs <= 8)&&Ac.zAM u b.regs b.acts)=true:=by
  rw [xK];intro b hb
  have:=hr b hb
  simp only [yU,yV];exact ⟨⟨this.1,this.2.1⟩,this.2.2⟩
 unfold zU;rw [h1,hc,zGO,zHJ];simp [h.1,h.2.1,h.2.2.1,h.2.2.2.1,h.2.2.2.2]
def zEZ:zAz (List St):=fun w F t cs=>∃ ba bc,cs=[.string zq, .slice ba t.length bc] /\ zAC w F t ba
theorem zJ4:zAb zEZ 2:=⟨fun h hk hS=>by exact J237 _,fun h hF=>by exact J241 _,fun h=>by obtain ⟨ba,bc,e,h1⟩:=h;rw [e];rfl⟩
theorem Acc.tbs {w:World} {G:Nat -> Prop} {B n cap:Nat} {ty:TypeId} {ad:Option Addr} {ts:List (List St)} {css:List (List Value)} (h:Acc zEZ G B 2 ty w (.slice ad n cap) ts css) (hl:ts.length <= 1000):zAv w (fun k=>G k \/ (B <= k /\ k < w.heap.size)) zq ts ad:=by
 obtain ⟨h1,h2⟩:=h.elems zJ4 (ad:=ad) (n:=n) (cap:=cap) rfl;refine ⟨hl,fun i hi=>?_⟩
 obtain ⟨g,o,e,hg,hl,hc⟩:=h1 i hi;obtain ⟨ba,bc,hR',hs⟩:=h2 i ts[i] (yR hi);have hc0:=hc 0 (.string zq) (by show (css.getD i [])[_]?=_;rw [hR'];rfl);have hc1:=hc 1 (.slice ba ts[i].length bc) (by show (css.getD i [])[_]?=_;rw [hR'];rfl);refine ⟨g,o,ba,bc,e,hg,hc0,?_,hs⟩
 rw [uH];exact hc1
theorem zGw (cs:List Int) (mu:Int) (bs:List Bd) (w:World) (F:Nat -> Prop) (uca uta:Option Addr) (ucc utc:Nat)
 (hcs:zBH w F cs uca) (hbd:zAt w F bs uta) (hF:∀ k,F k -> k < w.heap.size) (hsz:zA1 bs < 900000000) (hl1:cs.length < 1000000000) (hl2:bs.length < 1000000000) :
 Calls Tryz.prog 55 #[.agg #[.slice uca cs.length ucc, .int .i64 mu, .slice uta bs.length utc]] w fun e w'=>e=.returned (.bool (zU ⟨cs,mu,bs⟩)) /\ Keeps zA w w':=by
 have HCS:=yC hcs;have HBD:=yC hbd;have HFs:=yC hF;have HSZ:=yC hsz;obtain ⟨j3,hj3,hy0,hy1,hy2⟩:=info_parts zF5;obtain ⟨r,hr⟩:=eX (zU ⟨cs,mu,bs⟩);have HR:=yC hr;rw [<- hr];clear hcs hbd hF hsz hr;go_enter Tryz.func55,Tryz.ntmps55
 go_upto_region 1 with fail
 obtain ⟨b1,hb1⟩:=eX w.heap.size;have hr1:zC (w.alloc (.cells #[.slice uca cs.length ucc, .int .i64 mu, .slice uta bs.length utc] 25)) b1 [.slice uca cs.length ucc, .int .i64 mu, .slice uta bs.length utc]:=J189 _;have hk1:Keeps zA w (w.alloc (.cells #[.slice uca cs.length ucc, .int .i64 mu, .slice uta bs.length utc] 25)):=(yD _ _).alloc _;have hs1:b1 < (w.alloc (.cells #[.slice uca cs.length ucc, .int .i64 mu, .slice uta bs.length utc] 25)).heap.size:=by rw [hb1];simp
 rw [<- hb1];generalize w.alloc (.cells #[.slice uca cs.length ucc, .int .i64 mu, .slice uta bs.length utc] 25)=w1 at hr1 hk1 hs1 ⊢;obtain ⟨d0,d1,d2⟩:=hr1.three;have R1:=yC hr1;have K1:=yC hk1;have S1:Hid (b1 < w1.heap.size /\ w.heap.size <= b1):=⟨hs1,by omega⟩;clear hr1 hk1 hb1 hs1;have HNO:Hid (¬ zEG ⟨cs,mu,bs⟩ -> false=r):=fun h=>by rw [HR.out,zE8 h]
 rcases xM bs.length 1 with q1 | q1
 ·exact J185 _
 have q1':¬ (bs.length:Int) < 1:=by omega
 rcases xM 8 bs.length with q2 | q2
 ·exact J184 _
 have q2':¬ (8:Int) < bs.length:=by omega
 rcases xM 8 cs.length with q3 | q3
 ·exact J183 _
 have q3':¬ (8:Int) < cs.length:=by omega
 rcases vN mu 0 with q4 | q4
 ·obtain rfl:=HNO.out (fun h=>by have h1:0 <= mu:=h.2.2.2.1;omega)
  exact J39 _
 have q4':¬ mu < 0:=by omega
 rcases vN 8 mu with q5 | q5
 ·obtain rfl:=HNO.out (fun h=>by have h1:mu <= 8:=h.2.2.2.2;omega)
  exact J39 _
 have q5':¬ 8 < mu:=by omega
 have HHD:Hid (zEG ⟨cs,mu,bs⟩):=⟨q1,q2,q3,q4,q5⟩;go_upto_region 4 with fail
 clear d0 d1 d2 q4' q5' q3' q2' q1' q1 q4 q5;have CS1:Hid (zBH w1 F cs uca):=HCS.out.keeps K1.out (fun _ _ h=>h);have BD1:Hid (zAt w1 F bs uta):=HBD.out.keeps K1.out (fun _ _ h=>h);clear HCS HBD;go_loopw [3] (fun iv wr=>∃ (i:Nat),i <= cs.length /\ iv=.int .i64 i /\ Hid (Keeps zA w1 wr) /\ Hid ((cs.take i).all zCV=true)) (fun iv _=>cs.length - (intOf iv).toNat)
 case atStart=>exact ⟨0,yK _,rfl,yD _ _,by show _=_;rfl⟩
 case round =>
  obtain ⟨i,hi,rfl,HK,HU⟩:=hrel;obtain ⟨y0,y1,y2⟩:=(R1.out.keeps HK.out (fun h=>h)).three;by_cases hlt:i < cs.length
  ·have i1:(0:Int) <= i:=by omega
   have i2:(i:Int) < cs.length:=by omega
   obtain ⟨g,o,e1,hg,d0⟩:=(CS1.out.keeps HK.out (fun _ _ h=>h)) i hlt;subst e1;have HNO3:Hid (zCV cs[i]=false -> false=r):=fun h=>by rw [HR.out,zJy (u:=⟨cs,mu,bs⟩) (yO hlt) h]
   have HU2:Hid (zCV cs[i]=true -> (cs.take (i+1)).all zCV=true):=fun h=>by rw [take_at hlt,List.all_append,HU.out];simp [h]
   generalize cs[i]=x at d0 HNO3 HU2;rcases vN x (-2147483647) with h1 | h1
   ·obtain rfl:=HNO3.out (by unfold zCV;rw [xL (by omega:¬ -2147483647 <= x)];rfl)
    go_wp2_with fail
    go_ret
    exact ⟨rfl,K1.out.zB HK.out⟩
   have h1':¬ x < -2147483647:=by omega
   rcases vN 2147483647 x with h2 | h2
   ·obtain rfl:=HNO3.out (by unfold zCV;rw [xL (by omega:¬ x <= 2147483647)];simp)
    go_wp2_with fail
    go_ret
    exact ⟨rfl,K1.out.zB HK.out⟩
   have h2':¬ 2147483647 < x:=by omega
   have HU3:=yC (HU2.out (by unfold zCV;simp [h1,h2]));clear HNO3 HU2;go_wp2_with fail
   go_roundw
   case rel=>exact ⟨i+1,by omega,by go_num,HK,HU3⟩
   case measure=>simp [intOf];omega
  ·obtain rfl:i=cs.length:=by omega
   have HCA:Hid (cs.all zCV=true):=by have h:=HU.out;rw [xY] at h;exact h
   clear HU hi;go_upto_region 9 with fail
   obtain ⟨b4,hb4⟩:=eX wr.heap.size;have hr4:zC (wr.alloc (.cells #[.slice none 0 0, .slice none 0 0, .slice none 0 0] 150)) b4 [.slice none 0 0, .slice none 0 0, .slice none 0 0]:=by rw [hb4];exact yN (yL wr _)
   have hk4:Keeps zA wr (wr.alloc (.cells #[.slice none 0 0, .slice none 0 0, .slice none 0 0] 150)):=(yD _ _).alloc _;have hs4:b4 < (wr.alloc (.cells #[.slice none 0 0, .slice none 0 0, .slice none 0 0] 150)).heap.size:=by rw [hb4];simp
   rw [<- hb4];generalize wr.alloc (.cells #[.slice none 0 0, .slice none 0 0, .slice none 0 0] 150)=w4 at hr4 hk4 hs4 ⊢;have R4:=yC hr4;have K4:Hid (Keeps zA w1 w4):=HK.out.zB hk4;have KW4:Hid (Keeps zA w w4):=K1.out.zB K4.out;have S4:Hid (w1.heap.size <= b4 /\ b4 < w4.heap.size /\ b1 ≠ b4):=⟨by have:=HK.out.size;omega,hs4,by have:=S1.out;have:=HK.out.size;omega⟩;clear hr4 hk4 hb4 hs4 y0 y1 y2;obtain ⟨B,hB⟩:=eX w4.heap.size;have HBE:Hid (B=w4.heap.size /\ b4 < B /\ w.heap.size <= B /\ w.heap.size <= b4):=⟨hB,by have:=S4.out;omega,by have:=KW4.out.size;omega,by have:=S4.out;have:=K1.out.size;omega⟩;clear hB;have hFb:Hid (∀ q,F q -> ¬ (fun q=>q=b4) q):=fun q hq e=>by have e':q=b4:=e;have:=HFs.out q hq;have:=HBE.out;omega
   have BD4:Hid (zAt w4 F bs uta):=BD1.out.keeps K4.out (fun _ _ h=>h);have R14:Hid (zC w4 b1 [.slice uca cs.length ucc, .int .i64 mu, .slice uta bs.length utc]):=R1.out.keeps K4.out (fun h=>h);clear HK R1 BD1 CS1;obtain ⟨ps,hps⟩:=eX (zBM bs);have HPS:Hid (ps=zBM bs):=hps;have HPL:Hid (ps.length=bs.length):=by show _=_;rw [hps];unfold zBM;rw [vY]
   clear hps;go_upto_region 10 with fail
   go_loopw [5] (fun iv wr=>∃ (i:Nat) (ea:Option Addr) (ec:Nat) (css:List (List Value)),i <= bs.length /\ iv=.int .i64 i /\ Hid (zC wr b4 [.slice none 0 0, .slice none 0 0, .slice ea i ec]) /\ Hid (Acc zEZ F B 2 155 wr (.slice ea i ec) (ps.take i) css) /\ Hid (Keeps (fun q=>q=b4) w4 wr) /\ Hid (∀ j (hj:j < bs.length),j < i -> 0 <= bs[j].regs /\ bs[j].regs <= 8 /\ Ac.zAM ⟨cs,mu,bs⟩ bs[j].regs bs[j].acts=true)) (fun iv _=>bs.length - (intOf iv).toNat)
   case atStart=>exact ⟨0,none,0,[],yK _,rfl,R4,Acc.nil w4,yD _ _,fun j hj h=>by omega⟩
   case round =>
    obtain ⟨i,ea,ec,css,hi,rfl,RB,HA,HK,HU⟩:=hrel;obtain ⟨y0,y1,y2⟩:=(R14.out.keeps HK.out (fun e=>S4.out.2.2 e)).three;have HKR:Hid (Keeps zA w wr):=KW4.out.trans HK.out (fun q hq e=>by have e':q=b4:=e;have:=HBE.out;omega);by_cases hlt:i < bs.length
    ·have i1:(0:Int) <= i:=by omega
     have i2:(i:Int) < bs.length:=by omega
     obtain ⟨g,o,ba,bc,e1,hg,d0,d1,hx⟩:=(BD4.out.keeps HK.out hFb.out) i hlt;subst e1;have HNO2:Hid (¬ (0 <= bs[i].regs /\ bs[i].regs <= 8) -> false=r):=fun h=>by rw [HR.out,zGk (u:=⟨cs,mu,bs⟩) (yO hlt) h]
     have HNO4:Hid (Ac.zAM ⟨cs,mu,bs⟩ bs[i].regs bs[i].acts=false -> false=r):=fun h=>by rw [HR.out,zGs (u:=⟨cs,mu,bs⟩) (yO hlt) h]
     have HU2:Hid (0 <= bs[i].regs /\ bs[i].regs <= 8 /\ Ac.zAM ⟨cs,mu,bs⟩ bs[i].regs bs[i].acts=true -> ∀ j (hj:j < bs.length),j < i+1 -> 0 <= bs[j].regs /\ bs[j].regs <= 8 /\ Ac.zAM ⟨cs,mu,bs⟩ bs[j].regs bs[j].acts=true):=fun h j hj hj2=>by
      exact J143 _
     have hszi:Ac.szL bs[i].acts < 1000000000:=J242 _
     have HM:Hid (∀ W,Keeps zA wr W -> Calls Tryz.prog 82 #[.slice ba bs[i].acts.length bc, .int .i64 bs[i].regs, .agg #[.slice uca cs.length ucc, .int .i64 mu, .slice (some ⟨g,o,none⟩) bs.length utc]] W fun e w'=>e=.returned (.bool (Ac.zAM ⟨cs,mu,bs⟩ bs[i].regs bs[i].acts)) /\ Keeps zA W w'):=fun W hk =>
      zNm bs[i].acts ⟨cs,mu,bs⟩ bs[i].regs W F uca ucc (some ⟨g,o,none⟩) utc ba bc (hx.keeps hk (fun _ _ h=>h)) hszi
     obtain ⟨p,hp⟩:=eX (Ac.zAW bs[i].acts)
     have HPP:Hid (∀ W,Keeps zA wr W -> Calls Tryz.prog 83 #[.slice ba bs[i].acts.length bc] W fun e w'=>∃ ad' cap',e=.returned (.slice ad' bs[i].acts.length cap') /\ zAC w' (fun k=>F k \/ (W.heap.size <= k /\ k < w'.heap.size)) p ad' /\ Keeps zA W w'):=fun W hk=>by
      rw [hp];exact zM6 bs[i].acts W F ba bc (hx.keeps hk (fun _ _ h=>h)) (fun k hk'=>yJ (HFs.out k hk') (yX HKR.out.size hk.size)) hszi
     have HPN:Hid (p.length=bs[i].acts.length):=by show _=_;rw [hp,Ac.zDK]
     have HTK:Hid (ps.take (i+1)=ps.take i++[p]):=by
      show _=_
      have hl:i < ps.length:=by have:=HPL.out;omega
      have e3:ps[i]=Ac.zAW bs[i].acts:=by
       have h1:=HPS.out;subst h1;simp [zBM]
      rw [take_at hl,hp,e3]
     obtain ⟨mm,hmm⟩:=eX (Ac.zAM ⟨cs,mu,bs⟩ bs[i].regs bs[i].acts);rw [<- hmm] at HNO4 HM HU2;clear hx hp hmm hszi;generalize bs[i].regs=x0 at d0 HNO2 HU2 HM;generalize bs[i].acts.length=x1 at d1 HM HPP HPN;go_upto_region 13 with fail
     obtain ⟨b6,hb6⟩:=eX wr.heap.size;have hr6:zC (wr.alloc (.cells #[.int .i64 x0, .slice ba x1 bc] 70)) b6 [.int .i64 x0, .slice ba x1 bc]:=by rw [hb6];exact yN (yL wr _)
     have hk6:Keeps zA wr (wr.alloc (.cells #[.int .i64 x0, .slice ba x1 bc] 70)):=(yD _ _).alloc _;rw [<- hb6];generalize wr.alloc (.cells #[.int .i64 x0, .slice ba x1 bc] 70)=w6 at hr6 hk6 ⊢;obtain ⟨t0,t1⟩:=hr6.two;have R6:=yC hr6;have K6:=yC hk6;have R16:=R14.out.keeps (HK.out.trans hk6 (fun _ _ h=>False.elim h)) (fun e=>S4.out.2.2 e);clear hr6 hk6 hb6 d0 d1 y0 y1 y2;obtain ⟨y0,y1,y2⟩:=R16.three;clear R16;go_upto_region 14 with (go_at_call 82;refine (HM.out _ K6.out).mono ?_;rintro e w7 ⟨rfl,g7⟩;have r7:=R6.out.keeps g7 (fun h=>h);have K7:=yC (K6.out.zB g7);have R7:=yC r7;clear g7 r7 t0 t1)
     clear y0 y1 y2;obtain ⟨t0,t1⟩:=R7.out.two;rcases vN x0 0 with q4 | q4
     ·obtain rfl:=HNO2.out (fun h=>by omega)
      exact J125 _
     have q4':¬ x0 < 0:=by omega
     rcases vN 8 x0 with q5 | q5
     ·obtain rfl:=HNO2.out (fun h=>by omega)
      exact J125 _
     have q5':¬ 8 < x0:=by omega
     cases mm
     ·obtain rfl:=HNO4.out rfl
      exact J125 _
     have HU3:=yC (HU2.out ⟨q4,q5,rfl⟩);go_upto_region 17 with (go_at_call 83;refine (HPP.out _ K7.out).mono ?_;rintro e w8 ⟨pa,pc,rfl,p8,g8⟩;have P8:=yC p8;have K8:=yC (K7.out.zB g8);have G8:=yC g8;clear g8 p8 t0 t1)
     clear q4 q5 q4' q5' HNO2 HNO4 HM HPP HU2;have RB8:Hid (zC w8 b4 [.slice none 0 0, .slice none 0 0, .slice ea i ec]):=RB.out.keeps K8.out (fun h=>h);obtain ⟨z0,z1,z2⟩:=RB8.out.three;have HA8:Hid (Acc zEZ F B 2 155 w8 (.slice ea i ec) (ps.take i) css):=HA.out.zD zJ4 K8.out;have HLEN:Hid ((ps.take i).length=i):=by show _=_;rw [uU];have:=HPL.out;omega
     have hOB:Hid (∀ q,(Value.slice ea i ec).ownBlock=some q -> B <= q):=HA.out.2.2.1;have i3:i+1 <= 8:=by omega
     go_upto_region 11 with (at_builtin;refine zI _ (by rfl) _ _ 148 (by rfl) 0 155 j3 _ 2 40 Tryz.underlying148 hj3 hy0 hy1 hy2 rfl (by decide) (.slice ea i ec) i css.flatten (by rfl) (by have h1:=(HA8.out.zD zJ4 ((yD zA w8).alloc (.cells #[.string zq, .slice pa x1 pc] 155))).2.1;rw [HLEN.out] at h1;exact h1) (.slice (some ⟨w8.heap.size,0,none⟩) 1 1) 1 [.string zq, .slice pa x1 pc] (by rfl) (xR (yN (yL w8 _))) rfl (J203 _) (by unfold maxLen;omega) (by omega) (yK _) ?_;intro da2 dc2 w9 ha;have HAO:=yC ha;have k9:=uF ha ((yD (fun q=>(Value.slice ea i ec).ownBlock=some q) w8).alloc _) (fun q e _=>e);have r9:=RB8.out.keeps k9 (fun e=>by have:=hOB.out b4 e;have:=HBE.out;omega);have z22:=r9.cell (k:=2) (v:=.slice ea i ec) rfl;have f22:=r9.free (k:=2) (by simp);have R9W:=yC r9;have K9W:=yC k9;clear ha k9 r9 z0 z1 z2)
     obtain ⟨wA,hwA⟩:=eX (w8.alloc (.cells #[.string zq, .slice pa x1 pc] 155));have KA:Keeps zA w8 wA:=J211 _;have HAA:Acc zEZ F B 2 155 wA (.slice ea i ec) (ps.take i) css:=HA8.out.zD zJ4 KA;have HAO':zAQ wA 0 155 2 (.slice ea i ec) (i+1) (css.flatten++[.string zq, .slice pa x1 pc]) da2 dc2 w9:=by rw [hwA];exact HAO.out
     have hown:∀ kb,(Value.slice ea i ec).ownBlock=some kb -> kb < wr.heap.size:=fun kb e=>zN HA.out.2.1 e
     have hel:zEZ wA (zBu F B wA (.slice ea i ec)) p [.string zq, .slice pa x1 pc]:=by
      have e:x1=p.length:=HPN.out.symm;refine ⟨pa,pc,by rw [e],(P8.out.keeps KA (fun _ _ h=>h)).mono (fun k hk=>?_)⟩
      rcases hk with hk | ⟨hk1,hk2⟩
      ·exact .inl hk
      ·refine .inr ⟨?_,yJ hk2 KA.size,fun e=>?_⟩
       ·have:=HBE.out;have:=HK.out.size;have:=K7.out.size;omega
       ·have:=hown k e;have:=K7.out.size;omega
     have hset:Keeps (fun q=>q=b4) w9 (w9.setCell ⟨b4,2,none⟩ (.slice da2 (i+1) dc2)):=(yD (fun q=>q=b4) w9).setCell (p:=⟨b4,2,none⟩) (fun _=>rfl) _
     have hpush:Acc zEZ F B 2 155 (w9.setCell ⟨b4,2,none⟩ (.slice da2 (i+1) dc2)) (.slice da2 (i+1) dc2) (ps.take (i+1)) (css++[[.string zq, .slice pa x1 pc]]):=by
      have h1:=HAA.push zJ4 (fun k hk=>by have:=HFs.out k hk;have:=HBE.out;omega) (by have:=HBE.out;have:=HK.out.size;have:=K8.out.size;have:=KA.size;omega) hel (by decide) (ad:=da2) (cap:=dc2) (w':=w9) (by rw [HLEN.out];exact HAO');rw [HLEN.out] at h1;rw [HTK.out];exact h1.keeps zJ4 hset (fun k hk=>⟨by have e':k=b4:=hk;have:=HBE.out;omega,fun h=>hFb.out k h hk⟩)
     have hrow:zC (w9.setCell ⟨b4,2,none⟩ (.slice da2 (i+1) dc2)) b4 [.slice none 0 0, .slice none 0 0, .slice da2 (i+1) dc2]:=R9W.out.set 2 (by simp) _
     have hkeep:Keeps (fun q=>q=b4) w4 (w9.setCell ⟨b4,2,none⟩ (.slice da2 (i+1) dc2)) :=
      (((HK.out.trans K8.out (fun _ _ h=>h.elim)).trans K9W.out (fun q hq e=>by exact J240 _)).trans hset (fun _ _ h=>h))
     have HPU:=yC hpush;have HRO:=yC hrow;have HKE:=yC hkeep;clear hpush hrow hkeep hset hel HAO' HAA KA hwA hown;go_wp2_with fail
     go_roundw
     case rel=>exact ⟨i+1,da2,dc2,css++[[.string zq, .slice pa x1 pc]],by omega,by go_num,HRO,HPU,HKE,HU3⟩
     case measure=>simp [intOf];omega
    ·obtain rfl:i=bs.length:=by omega
     have hA:=HA.out;have e:ps.take bs.length=ps:=by rw [<- HPL.out,xY]
     rw [e] at hA;have THR:Hid (zAv wr (fun k=>F k \/ (B <= k /\ k < wr.heap.size)) zq ps ea):=hA.tbs (by have:=HPL.out;omega);clear hA HA e
     have hreg:∀ b,b ∈ bs -> 0 <= b.regs /\ b.regs <= 8 /\ Ac.zAM ⟨cs,mu,bs⟩ b.regs b.acts=true:=fun b hb=>by
      obtain ⟨j,hj,e⟩:=vR.1 hb;rw [<- e];exact HU.out j hj hj
     have hrf:r=(decide (zAI ps <= 16)&&decide (zAc ps <= 500)):=by rw [HR.out,HPS.out];exact zJ5 HHD.out HCA.out hreg
     have hsz:zBn ps < 900000000:=by rw [HPS.out,zHk];exact HSZ.out
     have HDP:Hid (∀ W,Keeps zA wr W -> Calls Tryz.prog 84 #[.agg #[.slice none 0 0, .slice none 0 0, .slice ea bs.length ec]] W fun e w'=>e=.returned (.int .i64 (zAI ps:Nat)) /\ Keeps zA W w'):=fun W hk=>by
      have h1:=zIS zq ps W _ none none ea 0 0 0 0 ec (THR.out.keeps hk (fun _ _ h=>h)) hsz;rw [HPL.out] at h1;exact h1
     have HCP:Hid (∀ W,Keeps zA wr W -> Calls Tryz.prog 85 #[.agg #[.slice none 0 0, .slice none 0 0, .slice ea bs.length ec]] W fun e w'=>e=.returned (.int .i64 (zAc ps:Nat)) /\ Keeps zA W w'):=fun W hk=>by
      have h1:=zHc zq ps W _ none none ea 0 0 0 0 ec (THR.out.keeps hk (fun _ _ h=>h)) hsz;rw [HPL.out] at h1;exact h1
     generalize zAI ps=D at hrf HDP;generalize zAc ps=C at hrf HCP;clear hreg hsz HR HU HNO;obtain ⟨z0,z1,z2⟩:=RB.out.three;go_upto_region 19 with (go_at_call 84;refine (HDP.out _ (yD _ _)).mono ?_;rintro e w5 ⟨rfl,g5⟩;have r5:=RB.out.keeps g5 (fun h=>h);have R5:=yC r5;have G5:=yC g5;clear r5 g5 z0 z1 z2 y0 y1 y2)
     obtain ⟨z0,z1,z2⟩:=R5.out.three;go_upto_region 20 with (go_at_call 85;refine (HCP.out _ G5.out).mono ?_;rintro e w6 ⟨rfl,g6⟩;have G6:=yC (G5.out.zB g6);clear g6)
     clear z0 z1 z2;by_cases hd1:D <= 16
     ·have hd1i:(D:Int) <= 16:=by omega
      by_cases hd2:C <= 500
      ·have hd2i:(C:Int) <= 500:=by omega
       obtain rfl:r=true:=by rw [hrf];simp [hd1,hd2]
       clear hrf;go_wp2_with fail
       go_ret
       exact ⟨by simp [hd2i],HKR.out.zB G6.out⟩
      ·have hd2i:¬ (C:Int) <= 500:=by omega
       obtain rfl:r=false:=by rw [hrf];simp [hd1,hd2]
       clear hrf;go_wp2_with fail
       go_ret
       exact ⟨by simp [hd2i],HKR.out.zB G6.out⟩
     ·have hd1i:¬ (D:Int) <= 16:=by omega
      obtain rfl:r=false:=by rw [hrf];simp [hd1]
      clear hrf;go_wp2_with fail
      go_ret
      exact ⟨by simp [hd1i],HKR.out.zB G6.out⟩
end Go.Proofs.YtfokdllgnblamaaGreatDoor
