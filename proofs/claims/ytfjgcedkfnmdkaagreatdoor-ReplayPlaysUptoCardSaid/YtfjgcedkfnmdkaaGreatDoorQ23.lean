/- Layer Q: texts joined. -/
import Derived.Test.YtfjgcedkfnmdkaaGreatDoorQ19
import Derived.Test.YtfjgcedkfnmdkaaGreatDoorQ22
set_option linter.all false
set_option maxHeartbeats 4000000
set_option maxRecDepth 8000
namespace Go.Proofs.YtfjgcedkfnmdkaaGreatDoor
open Go.RowKit
abbrev yp:=@List.mem_append
abbrev vX:=@List.length_map
abbrev vS:=@List.mem_of_getElem?
theorem J39 (P:Prop) (h:P:=by
 go_wp2_with fail
 go_ret
 exact ⟨rfl,K1.out⟩):P:=h
theorem J75 (P:Prop) (h:P:=by
 obtain rfl:g=⟨f.rest.tail,f.all,f.left⟩:=by simpa using hg
 refine ⟨?_,hfl.2⟩
 have:=hfl.1
 cases hr:f.rest with
 | nil=>simp [Ac.zAG]
 | cons a r =>
   rw [hr] at this;exact (Ac.zCX this).2):P:=h
theorem J80 (P:Prop) (h:P:=by
 induction l with
 | nil=>intro hb;cases hb
 | cons x r ih =>
   intro hb
   simp only [uZ,List.foldr_cons];rcases xY.1 hb with e | e
   ·subst e;omega
   ·have:=ih e;omega):P:=h
theorem J107 (P:Prop) (h:P:=by
 rw [vT] at e1;obtain ⟨b',_,rfl⟩:=Option.map_eq_some_iff.1 e1;exact ⟨.inl rfl,fun h=>absurd rfl h,fun h=>by cases h⟩):P:=h
theorem J118 (P:Prop) (h:P:=by
 go_wp2_with fail
 go_ret
 exact ⟨rfl,HKR.out.zB K7.out⟩):P:=h
theorem J135 (P:Prop) (h:P:=by
 rcases (show j < i \/ j=i by omega) with h1 | h1
 ·exact HU.out j hj h1
 ·subst h1;exact h):P:=h
theorem J172 (P:Prop) (h:P:=by
 have q3':(8:Int) < cs.length:=by omega
 obtain rfl:=HNO.out (fun h=>by have h1:cs.length <= 8:=h.2.2.1;omega);exact J39 _):P:=h
theorem J173 (P:Prop) (h:P:=by
 have q2':(8:Int) < bs.length:=by omega
 obtain rfl:=HNO.out (fun h=>by have h1:bs.length <= 8:=h.2.1;omega);exact J39 _):P:=h
theorem J174 (P:Prop) (h:P:=by
 have q1':(bs.length:Int) < 1:=by omega
 obtain rfl:=HNO.out (fun h=>by have h1:1 <= bs.length:=h.1;omega);exact J39 _):P:=h
theorem J191 (P:Prop) (h:P:=by intro q hq;simp only [xY,kH,or_false] at hq;rcases hq with rfl | rfl <;> rfl):P:=h
theorem J235 (P:Prop) (h:P:=by have:=zDi (yN hlt);have:=HSZ.out;omega):P:=h
theorem J237 (P:Prop) (h:P:=by rcases hok.1 with e | e | e | e <;> first | exact e | exact absurd e h3 | exact absurd e h4 | exact absurd e h5):P:=h
theorem J256 (P:Prop) (h:P:=by rw [hbl];show Ac.hL (if a.ex.val r ≠ 0 then a.thn else a.els)+_ <= _;omega):P:=h
mutual
theorem Ac.zJx:(x:Ac) -> x.plain.cnt=x.cnt
 | .mk k reg obj ex count t e=>by
   have h1:=Ac.zDP t;have h2:=Ac.zDP e;simp only [Ac.plain,St.cnt,Ac.cnt,h1,h2]
theorem Ac.zDP:(l:List Ac) -> St.zX (Ac.zAV l)=Ac.zX l
 | []=>rfl
 | x :: r=>by
   have h1:=Ac.zJx x;have h2:=Ac.zDP r;simp only [Ac.zAV,St.zX,Ac.zX,h1,h2]
end
mutual
theorem Ac.zIT (d:Nat):(x:Ac) -> x.plain.deep d=x.deep d
 | .mk k reg obj ex count t e=>by
   have h1:=Ac.zCp (d+1) t;have h2:=Ac.zCp (d+1) e;simp only [Ac.plain,St.deep,Ac.deep,h1,h2]
theorem Ac.zCp (d:Nat):(l:List Ac) -> St.zq d (Ac.zAV l)=Ac.zq d l
 | []=>rfl
 | x :: r=>by
   have h1:=Ac.zIT d x;have h2:=Ac.zCp d r;simp only [Ac.zAV,St.zq,Ac.zq,h1,h2]
end
mutual
theorem Ac.zLz:(x:Ac) -> x.plain.sz=x.sz
 | .mk k reg obj ex count t e=>by
   have h1:=Ac.zDx t;have h2:=Ac.zDx e;simp only [Ac.plain,St.sz,Ac.sz,h1,h2]
theorem Ac.zDx:(l:List Ac) -> St.szL (Ac.zAV l)=Ac.szL l
 | []=>rfl
 | x :: r=>by
   have h1:=Ac.zLz x;have h2:=Ac.zDx r;simp only [Ac.zAV,St.szL,Ac.szL,h1,h2]
end
def zBJ (bs:List Bd):List (List St):=bs.map fun b=>Ac.zAV b.acts
theorem zGG (bs:List Bd):zAH (zBJ bs)=(bs.map fun b=>Ac.zq 1 b.acts).foldr max 0:=by
 induction bs with
 | nil=>rfl
 | cons b r ih =>
   have ih':zAH (r.map fun b=>Ac.zAV b.acts)=(r.map fun b=>Ac.zq 1 b.acts).foldr max 0:=ih;simp only [zBJ,uZ,zAH,List.foldr_cons,Ac.zCp,ih']
theorem zG7 (bs:List Bd):zAZ (zBJ bs)=(bs.map fun b=>Ac.zX b.acts).foldr (·+·) 0:=by
 induction bs with
 | nil=>rfl
 | cons b r ih =>
   have ih':zAZ (r.map fun b=>Ac.zAV b.acts)=(r.map fun b=>Ac.zX b.acts).foldr (·+·) 0:=ih;simp only [zBJ,uZ,zAZ,List.foldr_cons,Ac.zDP,ih']
theorem zIN (bs:List Bd):zBl (zBJ bs)=zAx bs:=by
 induction bs with
 | nil=>rfl
 | cons b r ih =>
   have ih':zBl (r.map fun b=>Ac.zAV b.acts)=zAx r:=ih;simp only [zBJ,uZ,zBl,zAx,Ac.zDx,ih']
theorem zKH {u:Un} {c:Int} (hc:c ∈ u.cells) (h:zCW c=false):zW u=false:=by
 have h1:u.cells.all zCW=false:=by
  rw [Bool.eq_false_iff];intro e
  have:=xH.1 e c hc
  rw [h] at this;cases this
 unfold zW;rw [h1];simp
theorem zGh {u:Un} {b:Bd} (hb:b ∈ u.threads) (h:Ac.zAG u b.regs b.acts=false):zW u=false:=by
 have h1:(u.threads.all fun b=>decide (0 <= b.regs)&&decide (b.regs <= 8)&&Ac.zAG u b.regs b.acts)=false:=by
  rw [Bool.eq_false_iff];intro e
  have:=xH.1 e b hb
  simp only [yT,yV] at this;rw [h] at this;cases this.2
 unfold zW;rw [h1];simp
theorem zKQ {u:Un} (h:zEU u) (hc:u.cells.all zCW=true) (hr:∀ b,b ∈ u.threads -> 0 <= b.regs /\ b.regs <= 8 /\ Ac.zAG u b.regs b.acts=true):zW u=(decide (zAH (zBJ u.threads) <= 16)&&decide (zAZ (zBJ u.threads) <= 500)):=by
 have h1:(u.threads.all fun b=>decide (0 <= b.regs)&&decide (b.regs <= 8)&&Ac.zAG u b.regs b.acts)=true:=by
  rw [xH];intro b hb
  have:=hr b hb
  simp only [yT,yV];exact ⟨⟨this.1,this.2.1⟩,this.2.2⟩
 unfold zW;rw [h1,hc,zGG,zG7];simp [h.1,h.2.1,h.2.2.1,h.2.2.2.1,h.2.2.2.2]
def zEI:zA9 (List St):=fun w F t cs=>∃ ba bc,cs=[.string zx, .slice ba t.length bc] /\ zAA w F t ba
theorem zJw:zAc zEI 2:=⟨fun h hk hS=>by exact J230 _,fun h hF=>by exact J234 _,fun h=>by obtain ⟨ba,bc,e,h1⟩:=h;rw [e];rfl⟩
theorem Acc.tbs {w:World} {G:Nat -> Prop} {B n cap:Nat} {ty:TypeId} {ad:Option Addr} {ts:List (List St)} {css:List (List Value)} (h:Acc zEI G B 2 ty w (.slice ad n cap) ts css) (hl:ts.length <= 1000):zAu w (fun k=>G k \/ (B <= k /\ k < w.heap.size)) zx ts ad:=by
 obtain ⟨h1,h2⟩:=h.elems zJw (ad:=ad) (n:=n) (cap:=cap) rfl;refine ⟨hl,fun i hi=>?_⟩
 obtain ⟨g,o,e,hg,hl,hc⟩:=h1 i hi;obtain ⟨ba,bc,hR',hs⟩:=h2 i ts[i] (yQ hi);have hc0:=hc 0 (.string zx) (by show (css.getD i [])[_]?=_;rw [hR'];rfl);have hc1:=hc 1 (.slice ba ts[i].length bc) (by show (css.getD i [])[_]?=_;rw [hR'];rfl);refine ⟨g,o,ba,bc,e,hg,hc0,?_,hs⟩
 rw [uH];exact hc1
theorem zHD (cs:List Int) (mu:Int) (bs:List Bd) (w:World) (F:Nat -> Prop) (uca uta:Option Addr) (ucc utc:Nat)
 (hcs:zBD w F cs uca) (hbd:zBB w F bs uta) (hF:∀ k,F k -> k < w.heap.size) (hsz:zAx bs < 900000000) (hl1:cs.length < 1000000000) (hl2:bs.length < 1000000000) :
 Calls Tryz.prog 66 #[.agg #[.slice uca cs.length ucc, .int .i64 mu, .slice uta bs.length utc]] w fun e w'=>e=.returned (.bool (zW ⟨cs,mu,bs⟩)) /\ Keeps zA w w':=by
 have HCS:=yB hcs;have HBD:=yB hbd;have HFs:=yB hF;have HSZ:=yB hsz;obtain ⟨j3,hj3,hy0,hy1,hy2⟩:=info_parts zFp;obtain ⟨r,hr⟩:∃ r,r=zW ⟨cs,mu,bs⟩:=⟨_,rfl⟩
 have HR:=yB hr;rw [<- hr];clear hcs hbd hF hsz hr;go_enter Tryz.func66,Tryz.ntmps66
 go_upto_region 1 with fail
 obtain ⟨b1,hb1⟩:∃ z,z=w.heap.size:=⟨_,rfl⟩
 have hr1:zC (w.alloc (.cells #[.slice uca cs.length ucc, .int .i64 mu, .slice uta bs.length utc] 25)) b1 [.slice uca cs.length ucc, .int .i64 mu, .slice uta bs.length utc]:=J178 _;have hk1:Keeps zA w (w.alloc (.cells #[.slice uca cs.length ucc, .int .i64 mu, .slice uta bs.length utc] 25)):=(yC _ _).alloc _;have hs1:b1 < (w.alloc (.cells #[.slice uca cs.length ucc, .int .i64 mu, .slice uta bs.length utc] 25)).heap.size:=by rw [hb1];simp
 rw [<- hb1];generalize w.alloc (.cells #[.slice uca cs.length ucc, .int .i64 mu, .slice uta bs.length utc] 25)=w1 at hr1 hk1 hs1 ⊢;obtain ⟨d0,d1,d2⟩:=hr1.three;have R1:=yB hr1;have K1:=yB hk1;have S1:Hid (b1 < w1.heap.size /\ w.heap.size <= b1):=⟨hs1,by omega⟩;clear hr1 hk1 hb1 hs1;have HNO:Hid (¬ zEU ⟨cs,mu,bs⟩ -> false=r):=fun h=>by rw [HR.out,zEs h]
 rcases xR bs.length 1 with q1 | q1
 ·exact J174 _
 have q1':¬ (bs.length:Int) < 1:=by omega
 rcases xR 8 bs.length with q2 | q2
 ·exact J173 _
 have q2':¬ (8:Int) < bs.length:=by omega
 rcases xR 8 cs.length with q3 | q3
 ·exact J172 _
 have q3':¬ (8:Int) < cs.length:=by omega
 rcases vL mu 0 with q4 | q4
 ·obtain rfl:=HNO.out (fun h=>by have h1:0 <= mu:=h.2.2.2.1;omega)
  exact J39 _
 have q4':¬ mu < 0:=by omega
 rcases vL 8 mu with q5 | q5
 ·obtain rfl:=HNO.out (fun h=>by have h1:mu <= 8:=h.2.2.2.2;omega)
  exact J39 _
 have q5':¬ 8 < mu:=by omega
 have HHD:Hid (zEU ⟨cs,mu,bs⟩):=⟨q1,q2,q3,q4,q5⟩;go_upto_region 4 with fail
 clear d0 d1 d2 q4' q5' q3' q2' q1' q1 q4 q5;have CS1:Hid (zBD w1 F cs uca):=HCS.out.keeps K1.out (fun _ _ h=>h);have BD1:Hid (zBB w1 F bs uta):=HBD.out.keeps K1.out (fun _ _ h=>h);clear HCS HBD;go_loopw [3] (fun iv wr=>∃ (i:Nat),i <= cs.length /\ iv=.int .i64 i /\ Hid (Keeps zA w1 wr) /\ Hid ((cs.take i).all zCW=true)) (fun iv _=>cs.length - (intOf iv).toNat)
 case atStart=>exact ⟨0,yJ _,rfl,yC _ _,by show _=_;rfl⟩
 case round =>
  obtain ⟨i,hi,rfl,HK,HU⟩:=hrel;obtain ⟨y0,y1,y2⟩:=(R1.out.keeps HK.out (fun h=>h)).three;by_cases hlt:i < cs.length
  ·have i1:(0:Int) <= i:=by omega
   have i2:(i:Int) < cs.length:=by omega
   obtain ⟨g,o,e1,hg,d0⟩:=(CS1.out.keeps HK.out (fun _ _ h=>h)) i hlt;subst e1;have HNO3:Hid (zCW cs[i]=false -> false=r):=fun h=>by rw [HR.out,zKH (u:=⟨cs,mu,bs⟩) (yN hlt) h]
   have HU2:Hid (zCW cs[i]=true -> (cs.take (i+1)).all zCW=true):=fun h=>by rw [take_at hlt,List.all_append,HU.out];simp [h]
   generalize cs[i]=x at d0 HNO3 HU2;rcases vL x (-2147483647) with h1 | h1
   ·obtain rfl:=HNO3.out (by unfold zCW;rw [xL (by omega:¬ -2147483647 <= x)];rfl)
    go_wp2_with fail
    go_ret
    exact ⟨rfl,K1.out.zB HK.out⟩
   have h1':¬ x < -2147483647:=by omega
   rcases vL 2147483647 x with h2 | h2
   ·obtain rfl:=HNO3.out (by unfold zCW;rw [xL (by omega:¬ x <= 2147483647)];simp)
    go_wp2_with fail
    go_ret
    exact ⟨rfl,K1.out.zB HK.out⟩
   have h2':¬ 2147483647 < x:=by omega
   have HU3:=yB (HU2.out (by unfold zCW;simp [h1,h2]));clear HNO3 HU2;go_wp2_with fail
   go_roundw
   case rel=>exact ⟨i+1,by omega,by go_num,HK,HU3⟩
   case measure=>simp [intOf];omega
  ·obtain rfl:i=cs.length:=by omega
   have HCA:Hid (cs.all zCW=true):=by have h:=HU.out;rw [xV] at h;exact h
   clear HU hi;go_upto_region 9 with fail
   obtain ⟨b4,hb4⟩:∃ z,z=wr.heap.size:=⟨_,rfl⟩
   have hr4:zC (wr.alloc (.cells #[.slice none 0 0, .slice none 0 0, .slice none 0 0] 159)) b4 [.slice none 0 0, .slice none 0 0, .slice none 0 0]:=by rw [hb4];exact yP (yL wr _)
   have hk4:Keeps zA wr (wr.alloc (.cells #[.slice none 0 0, .slice none 0 0, .slice none 0 0] 159)):=(yC _ _).alloc _;have hs4:b4 < (wr.alloc (.cells #[.slice none 0 0, .slice none 0 0, .slice none 0 0] 159)).heap.size:=by rw [hb4];simp
   rw [<- hb4];generalize wr.alloc (.cells #[.slice none 0 0, .slice none 0 0, .slice none 0 0] 159)=w4 at hr4 hk4 hs4 ⊢;have R4:=yB hr4;have K4:Hid (Keeps zA w1 w4):=HK.out.zB hk4;have KW4:Hid (Keeps zA w w4):=K1.out.zB K4.out;have S4:Hid (w1.heap.size <= b4 /\ b4 < w4.heap.size /\ b1 ≠ b4):=⟨by have:=HK.out.size;omega,hs4,by have:=S1.out;have:=HK.out.size;omega⟩;clear hr4 hk4 hb4 hs4 y0 y1 y2;obtain ⟨B,hB⟩:∃ B,B=w4.heap.size:=⟨_,rfl⟩
   have HBE:Hid (B=w4.heap.size /\ b4 < B /\ w.heap.size <= B /\ w.heap.size <= b4):=⟨hB,by have:=S4.out;omega,by have:=KW4.out.size;omega,by have:=S4.out;have:=K1.out.size;omega⟩;clear hB;have hFb:Hid (∀ q,F q -> ¬ (fun q=>q=b4) q):=fun q hq e=>by have e':q=b4:=e;have:=HFs.out q hq;have:=HBE.out;omega
   have BD4:Hid (zBB w4 F bs uta):=BD1.out.keeps K4.out (fun _ _ h=>h);have R14:Hid (zC w4 b1 [.slice uca cs.length ucc, .int .i64 mu, .slice uta bs.length utc]):=R1.out.keeps K4.out (fun h=>h);clear HK R1 BD1 CS1;obtain ⟨ps,hps⟩:∃ ps,ps=zBJ bs:=⟨_,rfl⟩
   have HPS:Hid (ps=zBJ bs):=hps;have HPL:Hid (ps.length=bs.length):=by show _=_;rw [hps];unfold zBJ;rw [vX]
   clear hps;go_upto_region 10 with fail
   go_loopw [5] (fun iv wr=>∃ (i:Nat) (ea:Option Addr) (ec:Nat) (css:List (List Value)),i <= bs.length /\ iv=.int .i64 i /\ Hid (zC wr b4 [.slice none 0 0, .slice none 0 0, .slice ea i ec]) /\ Hid (Acc zEI F B 2 164 wr (.slice ea i ec) (ps.take i) css) /\ Hid (Keeps (fun q=>q=b4) w4 wr) /\ Hid (∀ j (hj:j < bs.length),j < i -> 0 <= bs[j].regs /\ bs[j].regs <= 8 /\ Ac.zAG ⟨cs,mu,bs⟩ bs[j].regs bs[j].acts=true)) (fun iv _=>bs.length - (intOf iv).toNat)
   case atStart=>exact ⟨0,none,0,[],yJ _,rfl,R4,Acc.nil w4,yC _ _,fun j hj h=>by omega⟩
   case round =>
    obtain ⟨i,ea,ec,css,hi,rfl,RB,HA,HK,HU⟩:=hrel;obtain ⟨y0,y1,y2⟩:=(R14.out.keeps HK.out (fun e=>S4.out.2.2 e)).three;have HKR:Hid (Keeps zA w wr):=KW4.out.trans HK.out (fun q hq e=>by have e':q=b4:=e;have:=HBE.out;omega);by_cases hlt:i < bs.length
    ·have i1:(0:Int) <= i:=by omega
     have i2:(i:Int) < bs.length:=by omega
     obtain ⟨g,o,ba,bc,e1,hg,d0,d1,hx⟩:=(BD4.out.keeps HK.out hFb.out) i hlt;subst e1;have HNO2:Hid (¬ (0 <= bs[i].regs /\ bs[i].regs <= 8) -> false=r):=fun h=>by rw [HR.out,zGX (u:=⟨cs,mu,bs⟩) (yN hlt) h]
     have HNO4:Hid (Ac.zAG ⟨cs,mu,bs⟩ bs[i].regs bs[i].acts=false -> false=r):=fun h=>by rw [HR.out,zGh (u:=⟨cs,mu,bs⟩) (yN hlt) h]
     have HU2:Hid (0 <= bs[i].regs /\ bs[i].regs <= 8 /\ Ac.zAG ⟨cs,mu,bs⟩ bs[i].regs bs[i].acts=true -> ∀ j (hj:j < bs.length),j < i+1 -> 0 <= bs[j].regs /\ bs[j].regs <= 8 /\ Ac.zAG ⟨cs,mu,bs⟩ bs[j].regs bs[j].acts=true):=fun h j hj hj2=>by
      exact J135 _
     have hszi:Ac.szL bs[i].acts < 1000000000:=J235 _
     have HM:Hid (∀ W,Keeps zA wr W -> Calls Tryz.prog 92 #[.slice ba bs[i].acts.length bc, .int .i64 bs[i].regs, .agg #[.slice uca cs.length ucc, .int .i64 mu, .slice (some ⟨g,o,none⟩) bs.length utc]] W fun e w'=>e=.returned (.bool (Ac.zAG ⟨cs,mu,bs⟩ bs[i].regs bs[i].acts)) /\ Keeps zA W w'):=fun W hk =>
      zN3 bs[i].acts ⟨cs,mu,bs⟩ bs[i].regs W F uca ucc (some ⟨g,o,none⟩) utc ba bc (hx.keeps hk (fun _ _ h=>h)) hszi
     obtain ⟨p,hp⟩:∃ p,p=Ac.zAV bs[i].acts:=⟨_,rfl⟩
     have HPP:Hid (∀ W,Keeps zA wr W -> Calls Tryz.prog 93 #[.slice ba bs[i].acts.length bc] W fun e w'=>∃ ad' cap',e=.returned (.slice ad' bs[i].acts.length cap') /\ zAA w' (fun k=>F k \/ (W.heap.size <= k /\ k < w'.heap.size)) p ad' /\ Keeps zA W w'):=fun W hk=>by
      rw [hp];exact zM8 bs[i].acts W F ba bc (hx.keeps hk (fun _ _ h=>h)) (fun k hk'=>yK (HFs.out k hk') (yX HKR.out.size hk.size)) hszi
     have HPN:Hid (p.length=bs[i].acts.length):=by show _=_;rw [hp,Ac.zDS]
     have HTK:Hid (ps.take (i+1)=ps.take i++[p]):=by
      show _=_
      have hl:i < ps.length:=by have:=HPL.out;omega
      have e3:ps[i]=Ac.zAV bs[i].acts:=by
       have h1:=HPS.out;subst h1;simp [zBJ]
      rw [take_at hl,hp,e3]
     obtain ⟨mm,hmm⟩:∃ m,m=Ac.zAG ⟨cs,mu,bs⟩ bs[i].regs bs[i].acts:=⟨_,rfl⟩
     rw [<- hmm] at HNO4 HM HU2;clear hx hp hmm hszi;generalize bs[i].regs=x0 at d0 HNO2 HU2 HM;generalize bs[i].acts.length=x1 at d1 HM HPP HPN;go_upto_region 13 with fail
     obtain ⟨b6,hb6⟩:∃ z,z=wr.heap.size:=⟨_,rfl⟩
     have hr6:zC (wr.alloc (.cells #[.int .i64 x0, .slice ba x1 bc] 77)) b6 [.int .i64 x0, .slice ba x1 bc]:=by rw [hb6];exact yP (yL wr _)
     have hk6:Keeps zA wr (wr.alloc (.cells #[.int .i64 x0, .slice ba x1 bc] 77)):=(yC _ _).alloc _;rw [<- hb6];generalize wr.alloc (.cells #[.int .i64 x0, .slice ba x1 bc] 77)=w6 at hr6 hk6 ⊢;obtain ⟨t0,t1⟩:=hr6.two;have R6:=yB hr6;have K6:=yB hk6;have R16:=R14.out.keeps (HK.out.trans hk6 (fun _ _ h=>False.elim h)) (fun e=>S4.out.2.2 e);clear hr6 hk6 hb6 d0 d1 y0 y1 y2;obtain ⟨y0,y1,y2⟩:=R16.three;clear R16;go_upto_region 14 with (go_at_call 92;refine (HM.out _ K6.out).mono ?_;rintro e w7 ⟨rfl,g7⟩;have r7:=R6.out.keeps g7 (fun h=>h);have K7:=yB (K6.out.zB g7);have R7:=yB r7;clear g7 r7 t0 t1)
     clear y0 y1 y2;obtain ⟨t0,t1⟩:=R7.out.two;rcases vL x0 0 with q4 | q4
     ·obtain rfl:=HNO2.out (fun h=>by omega)
      exact J118 _
     have q4':¬ x0 < 0:=by omega
     rcases vL 8 x0 with q5 | q5
     ·obtain rfl:=HNO2.out (fun h=>by omega)
      exact J118 _
     have q5':¬ 8 < x0:=by omega
     cases mm
     ·obtain rfl:=HNO4.out rfl
      exact J118 _
     have HU3:=yB (HU2.out ⟨q4,q5,rfl⟩);go_upto_region 17 with (go_at_call 93;refine (HPP.out _ K7.out).mono ?_;rintro e w8 ⟨pa,pc,rfl,p8,g8⟩;have P8:=yB p8;have K8:=yB (K7.out.zB g8);have G8:=yB g8;clear g8 p8 t0 t1)
     clear q4 q5 q4' q5' HNO2 HNO4 HM HPP HU2;have RB8:Hid (zC w8 b4 [.slice none 0 0, .slice none 0 0, .slice ea i ec]):=RB.out.keeps K8.out (fun h=>h);obtain ⟨z0,z1,z2⟩:=RB8.out.three;have HA8:Hid (Acc zEI F B 2 164 w8 (.slice ea i ec) (ps.take i) css):=HA.out.zF zJw K8.out;have HLEN:Hid ((ps.take i).length=i):=by show _=_;rw [uO];have:=HPL.out;omega
     have hOB:Hid (∀ q,(Value.slice ea i ec).ownBlock=some q -> B <= q):=HA.out.2.2.1;have i3:i+1 <= 8:=by omega
     go_upto_region 11 with (at_builtin;refine zI _ (by rfl) _ _ 157 (by rfl) 0 164 j3 _ 2 40 Tryz.underlying157 hj3 hy0 hy1 hy2 rfl (by decide) (.slice ea i ec) i css.flatten (by rfl) (by have h1:=(HA8.out.zF zJw ((yC zA w8).alloc (.cells #[.string zx, .slice pa x1 pc] 164))).2.1;rw [HLEN.out] at h1;exact h1) (.slice (some ⟨w8.heap.size,0,none⟩) 1 1) 1 [.string zx, .slice pa x1 pc] (by rfl) (xP (yP (yL w8 _))) rfl (J191 _) (by unfold maxLen;omega) (by omega) (yJ _) ?_;intro da2 dc2 w9 ha;have HAO:=yB ha;have k9:=uE ha ((yC (fun q=>(Value.slice ea i ec).ownBlock=some q) w8).alloc _) (fun q e _=>e);have r9:=RB8.out.keeps k9 (fun e=>by have:=hOB.out b4 e;have:=HBE.out;omega);have z22:=r9.cell (k:=2) (v:=.slice ea i ec) rfl;have f22:=r9.free (k:=2) (by simp);have R9W:=yB r9;have K9W:=yB k9;clear ha k9 r9 z0 z1 z2)
     obtain ⟨wA,hwA⟩:∃ z,z=w8.alloc (.cells #[.string zx, .slice pa x1 pc] 164):=⟨_,rfl⟩
     have KA:Keeps zA w8 wA:=J201 _;have HAA:Acc zEI F B 2 164 wA (.slice ea i ec) (ps.take i) css:=HA8.out.zF zJw KA;have HAO':zAM wA 0 164 2 (.slice ea i ec) (i+1) (css.flatten++[.string zx, .slice pa x1 pc]) da2 dc2 w9:=by rw [hwA];exact HAO.out
     have hown:∀ kb,(Value.slice ea i ec).ownBlock=some kb -> kb < wr.heap.size:=fun kb e=>zP HA.out.2.1 e
     have hel:zEI wA (zBx F B wA (.slice ea i ec)) p [.string zx, .slice pa x1 pc]:=by
      have e:x1=p.length:=HPN.out.symm;refine ⟨pa,pc,by rw [e],(P8.out.keeps KA (fun _ _ h=>h)).mono (fun k hk=>?_)⟩
      rcases hk with hk | ⟨hk1,hk2⟩
      ·exact .inl hk
      ·refine .inr ⟨?_,yK hk2 KA.size,fun e=>?_⟩
       ·have:=HBE.out;have:=HK.out.size;have:=K7.out.size;omega
       ·have:=hown k e;have:=K7.out.size;omega
     have hset:Keeps (fun q=>q=b4) w9 (w9.setCell ⟨b4,2,none⟩ (.slice da2 (i+1) dc2)):=(yC (fun q=>q=b4) w9).setCell (p:=⟨b4,2,none⟩) (fun _=>rfl) _
     have hpush:Acc zEI F B 2 164 (w9.setCell ⟨b4,2,none⟩ (.slice da2 (i+1) dc2)) (.slice da2 (i+1) dc2) (ps.take (i+1)) (css++[[.string zx, .slice pa x1 pc]]):=by
      have h1:=HAA.push zJw (fun k hk=>by have:=HFs.out k hk;have:=HBE.out;omega) (by have:=HBE.out;have:=HK.out.size;have:=K8.out.size;have:=KA.size;omega) hel (by decide) (ad:=da2) (cap:=dc2) (w':=w9) (by rw [HLEN.out];exact HAO');rw [HLEN.out] at h1;rw [HTK.out];exact h1.keeps zJw hset (fun k hk=>⟨by have e':k=b4:=hk;have:=HBE.out;omega,fun h=>hFb.out k h hk⟩)
     have hrow:zC (w9.setCell ⟨b4,2,none⟩ (.slice da2 (i+1) dc2)) b4 [.slice none 0 0, .slice none 0 0, .slice da2 (i+1) dc2]:=R9W.out.set 2 (by simp) _
     have hkeep:Keeps (fun q=>q=b4) w4 (w9.setCell ⟨b4,2,none⟩ (.slice da2 (i+1) dc2)) :=
      (((HK.out.trans K8.out (fun _ _ h=>h.elim)).trans K9W.out (fun q hq e=>by exact J233 _)).trans hset (fun _ _ h=>h))
     have HPU:=yB hpush;have HRO:=yB hrow;have HKE:=yB hkeep;clear hpush hrow hkeep hset hel HAO' HAA KA hwA hown;go_wp2_with fail
     go_roundw
     case rel=>exact ⟨i+1,da2,dc2,css++[[.string zx, .slice pa x1 pc]],by omega,by go_num,HRO,HPU,HKE,HU3⟩
     case measure=>simp [intOf];omega
    ·obtain rfl:i=bs.length:=by omega
     have hA:=HA.out;have e:ps.take bs.length=ps:=by rw [<- HPL.out,xV]
     rw [e] at hA;have THR:Hid (zAu wr (fun k=>F k \/ (B <= k /\ k < wr.heap.size)) zx ps ea):=hA.tbs (by have:=HPL.out;omega);clear hA HA e
     have hreg:∀ b,b ∈ bs -> 0 <= b.regs /\ b.regs <= 8 /\ Ac.zAG ⟨cs,mu,bs⟩ b.regs b.acts=true:=fun b hb=>by
      obtain ⟨j,hj,e⟩:=List.mem_iff_getElem.1 hb;rw [<- e];exact HU.out j hj hj
     have hrf:r=(decide (zAH ps <= 16)&&decide (zAZ ps <= 500)):=by rw [HR.out,HPS.out];exact zKQ HHD.out HCA.out hreg
     have hsz:zBl ps < 900000000:=by rw [HPS.out,zIN];exact HSZ.out
     have HDP:Hid (∀ W,Keeps zA wr W -> Calls Tryz.prog 94 #[.agg #[.slice none 0 0, .slice none 0 0, .slice ea bs.length ec]] W fun e w'=>e=.returned (.int .i64 (zAH ps:Nat)) /\ Keeps zA W w'):=fun W hk=>by
      have h1:=zHQ zx ps W _ none none ea 0 0 0 0 ec (THR.out.keeps hk (fun _ _ h=>h)) hsz;rw [HPL.out] at h1;exact h1
     have HCP:Hid (∀ W,Keeps zA wr W -> Calls Tryz.prog 95 #[.agg #[.slice none 0 0, .slice none 0 0, .slice ea bs.length ec]] W fun e w'=>e=.returned (.int .i64 (zAZ ps:Nat)) /\ Keeps zA W w'):=fun W hk=>by
      have h1:=zHI zx ps W _ none none ea 0 0 0 0 ec (THR.out.keeps hk (fun _ _ h=>h)) hsz;rw [HPL.out] at h1;exact h1
     generalize zAH ps=D at hrf HDP;generalize zAZ ps=C at hrf HCP;clear hreg hsz HR HU HNO;obtain ⟨z0,z1,z2⟩:=RB.out.three;go_upto_region 19 with (go_at_call 94;refine (HDP.out _ (yC _ _)).mono ?_;rintro e w5 ⟨rfl,g5⟩;have r5:=RB.out.keeps g5 (fun h=>h);have R5:=yB r5;have G5:=yB g5;clear r5 g5 z0 z1 z2 y0 y1 y2)
     obtain ⟨z0,z1,z2⟩:=R5.out.three;go_upto_region 20 with (go_at_call 95;refine (HCP.out _ G5.out).mono ?_;rintro e w6 ⟨rfl,g6⟩;have G6:=yB (G5.out.zB g6);clear g6)
     clear z0 z1 z2;by_cases hd1:D <= 16
     ·have hd1i:(D:Int) <= 16:=by omega
      by_cases hd2:C <= 500
      ·have hd2i:(C:Int) <= 500:=by omega
       obtain rfl:r=true:=by rw [hrf];simp [hd1,hd2]
       clear hrf;go_wp2_with fail
       go_ret
       exact ⟨by simp [hd2i],HKR.out.zB G6.out⟩
      ·have hd2i:¬ (C:Int) <= 500:=by omega
       obtain rfl:r=false:=by rw [hrf];simp [hd1,hd2]
       clear hrf;go_wp2_with fail
       go_ret
       exact ⟨by simp [hd2i],HKR.out.zB G6.out⟩
     ·have hd1i:¬ (D:Int) <= 16:=by omega
      obtain rfl:r=false:=by rw [hrf];simp [hd1]
      clear hrf;go_wp2_with fail
      go_ret
      exact ⟨by simp [hd1i],HKR.out.zB G6.out⟩
end Go.Proofs.YtfjgcedkfnmdkaaGreatDoor
namespace Go.Proofs.YtfjgcedkfnmdkaaGreatDoor
theorem Ac.zDE {u:Un} {regs:Int} {a:Ac} (h:Ac.may u regs a=true):zBR u regs a.kind a.reg a.obj a.ex a.count a.thn.length a.els.length=true /\ Ac.zAG u regs a.thn=true /\ Ac.zAG u regs a.els=true:=by
 cases a;simp only [Ac.may,yT] at h;exact ⟨h.1.1,h.1.2,h.2⟩
theorem Ac.zEc {u:Un} {regs:Int} {a:Ac} (h:Ac.may u regs a=true):1 <= a.kind /\ a.kind <= 11:=by
 have h1:=(Ac.zDE h).1;unfold zBR at h1;simp only [yT,yV] at h1;exact ⟨h1.1.1.1.1.1.1.1,h1.1.1.1.1.1.1.2⟩
theorem Ac.zDt {u:Un} {regs:Int} {a:Ac} (h:Ac.may u regs a=true) (hk:a.kind=1 \/ a.kind=2 \/ a.kind=4):0 <= a.reg /\ a.reg < regs:=by
 have h1:=(Ac.zDE h).1;unfold zBR at h1;have hf:(fields a.kind).reg=true:=by rcases hk with e | e | e <;> rw [e] <;> rfl
 rw [if_pos hf] at h1;simp only [yT,yV] at h1;exact ⟨h1.1.1.1.1.1.2.1,h1.1.1.1.1.1.2.2⟩
theorem Ac.zGk {u:Un} {regs:Int} {a:Ac} (h:Ac.may u regs a=true) (hk:2 <= a.kind /\ a.kind <= 8):0 <= a.obj /\ a.obj < zBN u a.kind:=by
 have h1:=(Ac.zDE h).1;unfold zBR at h1
 have hf:(fields a.kind).name=true:=by
  rcases (show a.kind=2 \/ a.kind=3 \/ a.kind=4 \/ a.kind=5 \/ a.kind=6 \/ a.kind=7 \/ a.kind=8 by omega) with e | e | e | e | e | e | e <;> rw [e] <;> rfl
 rw [if_pos hf] at h1;simp only [yT,yV] at h1;exact ⟨h1.1.1.1.1.2.1,h1.1.1.1.1.2.2⟩
theorem Ac.zCx {u:Un} {regs:Int} {a:Ac} (h:Ac.may u regs a=true) (hk:a.kind=1 \/ a.kind=3 \/ a.kind=4 \/ a.kind=9 \/ a.kind=10):a.ex.may regs=true:=by
 have h1:=(Ac.zDE h).1;unfold zBR at h1;have hf:(fields a.kind).ex=true:=by rcases hk with e | e | e | e | e <;> rw [e] <;> rfl
 rw [if_pos hf] at h1;simp only [yT,yV] at h1;exact h1.1.1.1.2
theorem Ac.zJy {u:Un} {regs:Int} {a:Ac} (h:Ac.may u regs a=true) (hk:a.kind=11):0 <= a.count /\ a.count <= 1000:=by
 have h1:=(Ac.zDE h).1;unfold zBR at h1;have hf:(fields a.kind).count=true:=by rw [hk];rfl
 rw [if_pos hf] at h1;simp only [yT,yV] at h1;exact ⟨h1.1.1.2.1,h1.1.1.2.2⟩
theorem Ac.zFi {u:Un} {regs:Int} {l:List Ac} (h:Ac.zAG u regs l=true) {a:Ac} (ha:a ∈ l):Ac.may u regs a=true:=by
 induction l with
 | nil=>cases ha
 | cons x r ih =>
   simp only [Ac.zAG,yT] at h;rcases xY.1 ha with e | e
   ·subst e;exact h.1
   ·exact ih h.2 e
theorem Ac.zCX {u:Un} {regs:Int} {x:Ac} {r:List Ac} (h:Ac.zAG u regs (x :: r)=true):Ac.may u regs x=true /\ Ac.zAG u regs r=true:=by
 simpa only [Ac.zAG,yT] using h
mutual
def Ac.h:Ac -> Nat
 | .mk _ _ _ _ _ t e=>1+max (Ac.hL t) (Ac.hL e)
def Ac.hL:List Ac -> Nat
 | []=>0
 | x :: r=>max (Ac.h x) (Ac.hL r)
end
theorem Ac.h_eq (x:Ac):x.h=1+max (Ac.hL x.thn) (Ac.hL x.els):=by cases x;rw [Ac.h];rfl
mutual
theorem Ac.zOX:(x:Ac) -> x.h <= x.cnt
 | .mk _ _ _ ex _ t e=>by
   have h1:=Ac.zHG t;have h2:=Ac.zHG e;simp only [Ac.h,Ac.cnt];omega
theorem Ac.zHG:(l:List Ac) -> Ac.hL l <= Ac.zX l
 | []=>xC _
 | x :: r=>by
   have h1:=Ac.zOX x;have h2:=Ac.zHG r;simp only [Ac.hL,Ac.zX];omega
end
def zHF (fs:List WFr):Prop:=fs.length <= 1001 /\ ∀ (j:Nat) (f:WFr),fs[j]?=some f -> Ac.hL f.rest+j <= 1000 /\ Ac.hL f.all+j <= 1000
theorem zBY {fs:List WFr} {f:WFr} (h:zHF fs) (h1:fs.length <= 1000) (h2:Ac.hL f.rest+fs.length <= 1000) (h3:Ac.hL f.all+fs.length <= 1000):zHF (fs++[f]):=by
 refine ⟨by simp;omega,fun j g e=>?_⟩
 rcases xR j fs.length with hj | hj
 ·rw [xT hj] at e
  exact h.2 j g e
 ·rw [xG hj] at e
  have hz:j - fs.length=0:=by
   have:=(yO.1 e).1
   simpa using this
  rw [hz] at e;simp only [yD,yM] at e;subst e;exact ⟨by omega,by omega⟩
theorem zE4 {fs:List WFr} (h:zHF fs):zHF fs.dropLast :=
 ⟨by rw [List.length_dropLast];have:=h.1;omega,fun j f e=>by
  have hj:=(yO.1 e).1;rw [List.length_dropLast] at hj;refine h.2 j f ?_
  rw [List.getElem?_dropLast,if_pos hj] at e;exact e⟩
theorem zEv {fs:List WFr} {f:WFr} (h:zHF fs) (hl:fs.getLast?=some f):fs.dropLast.length+1=fs.length /\ fs.dropLast.length <= 1000 /\ Ac.hL f.rest+fs.dropLast.length <= 1000 /\ Ac.hL f.all+fs.dropLast.length <= 1000:=by
 have hs:=zAd hl
 have hn:fs.length=fs.dropLast.length+1:=by
  have:=vP List.length hs
  simpa using this
 have e:fs[fs.dropLast.length]?=some f:=by
  have:fs[fs.dropLast.length]?=(fs.dropLast++[f])[fs.dropLast.length]?:=vP (fun l=>l[fs.dropLast.length]?) hs
  rw [this,xG (xC _)];simp
 have h2:=h.2 _ _ e;have h1:=h.1;exact ⟨hn.symm,by omega,h2.1,h2.2⟩
theorem zH6 {r r':List Int} {fs fs':List WFr} (h:zA8 r fs=some (r',fs')) (hf:zHF fs):zHF fs':=by
 unfold zA8 at h;cases hl:fs.getLast? with
 | none=>rw [hl] at h;cases h
 | some f =>
   obtain ⟨l1,l2,l3,l4⟩:=zEv hf hl;have hi:=zE4 hf;rw [hl] at h;simp only at h;cases hr:f.rest with
   | nil =>
     rw [hr] at h;simp only [yM,uC] at h;obtain ⟨_,rfl⟩:=h;split
     ·exact zBY hi l2 l4 l4
     ·exact hi
   | cons a tl =>
     rw [hr] at h l3;have hh:=Ac.h_eq a;simp only [Ac.hL] at l3;have hb:zHF (fs.dropLast++[(⟨tl,f.all,f.left⟩:WFr)]):=zBY hi l2 (by show Ac.hL tl+_ <= _;omega) l4;have hbl:(fs.dropLast++[(⟨tl,f.all,f.left⟩:WFr)]).length=fs.dropLast.length+1:=by rw [xS];rfl
     simp only at h;split at h
     ·simp only [yM,uC] at h
      obtain ⟨_,rfl⟩:=h;exact hb
     ·split at h
      ·simp only [yM,uC] at h
       obtain ⟨_,rfl⟩:=h;have hc:Ac.hL (if a.ex.val r ≠ 0 then a.thn else a.els)+1 <= a.h:=by split <;> omega
       exact zBY hb (by rw [hbl];omega) (J256 _) (J256 _)
      ·split at h
       ·simp only [yM,uC] at h
        obtain ⟨_,rfl⟩:=h;split
        ·exact zBY hb (by rw [hbl];omega) (by rw [hbl];show Ac.hL a.thn+_ <= _;omega) (by rw [hbl];show Ac.hL a.thn+_ <= _;omega)
        ·exact hb
       ·cases h
def WFr.ok (u:Un) (regs:Int) (f:WFr):Prop:=Ac.zAG u regs f.rest=true /\ Ac.zAG u regs f.all=true /\ f.left <= 1000
structure zDG (u:Un) (regs:Int) (fs:List WFr):Prop where
 each:∀ f,f ∈ fs -> f.ok u regs
 low:zHF fs
def WTh.ok (u:Un) (b:Bd) (t:WTh):Prop :=
 (t.st=1 \/ t.st=2 \/ t.st=3 \/ t.st=4) /\ (t.st ≠ 1 -> t.regs.length=b.regs.toNat /\ zDG u b.regs t.fs) /\ (t.st=2 -> zA8 t.regs t.fs=none)
structure ze.ok (u:Un) (m:ze):Prop where
 cells:m.cells.length=u.cells.length
 owners:m.owners.length=u.mutexes.toNat
 zL:m.zL.length=u.threads.length
 own:∀ o,o ∈ m.owners -> -1 <= o
 each:∀ (i:Nat) (t:WTh) (b:Bd),m.zL[i]?=some t -> u.threads[i]?=some b -> t.ok u b
theorem zGl {u:Un} {n:Int} {r r':List Int} {fs fs':List WFr} (h:zA8 r fs=some (r',fs')) (hf:∀ f,f ∈ fs -> f.ok u n):r'.length=r.length /\ ∀ f,f ∈ fs' -> f.ok u n:=by
 unfold zA8 at h;cases hl:fs.getLast? with
 | none=>rw [hl] at h;cases h
 | some f =>
   have hs:=zAd hl;have hfo:f.ok u n:=hf f (by rw [hs];simp);have hd:∀ g,g ∈ fs.dropLast -> g.ok u n:=fun g hg=>hf g (List.dropLast_subset _ hg)
   rw [hl] at h;simp only at h;cases hr:f.rest with
   | nil =>
     rw [hr] at h;simp only [yM,uC] at h;obtain ⟨rfl,rfl⟩:=h;refine ⟨rfl,fun g hg=>?_⟩
     split at hg
     ·rcases yp.1 hg with hg | hg
      ·exact hd g hg
      ·obtain rfl:g=⟨f.all,f.all,f.left - 1⟩:=by simpa using hg
       exact ⟨hfo.2.1,hfo.2.1,by have:=hfo.2.2;show f.left - 1 <= 1000;omega⟩
     ·exact hd g hg
   | cons a tl =>
     rw [hr] at h;have h0:=hfo.1;rw [hr] at h0;obtain ⟨ha,hm⟩:=Ac.zCX h0;obtain ⟨_,hat,hae⟩:=Ac.zDE ha
     have hb:∀ g,g ∈ fs.dropLast++[(⟨tl,f.all,f.left⟩:WFr)] -> g.ok u n:=fun g hg=>by
      rcases yp.1 hg with hg | hg
      ·exact hd g hg
      ·obtain rfl:g=⟨tl,f.all,f.left⟩:=by simpa using hg
       exact ⟨hm,hfo.2⟩
     simp only at h;split at h
     ·simp only [yM,uC] at h
      obtain ⟨rfl,rfl⟩:=h;exact ⟨by simp,hb⟩
     ·split at h
      ·simp only [yM,uC] at h
       obtain ⟨rfl,rfl⟩:=h;refine ⟨rfl,fun g hg=>?_⟩
       rcases yp.1 hg with hg | hg
       ·exact hb g hg
       ·have hg2:g=⟨if a.ex.val r ≠ 0 then a.thn else a.els,if a.ex.val r ≠ 0 then a.thn else a.els,1⟩:=by simpa using hg
        rw [hg2];by_cases q:a.ex.val r ≠ 0
        ·rw [if_pos q];exact ⟨hat,hat,by show 1 <= 1000;omega⟩
        ·rw [if_neg q];exact ⟨hae,hae,by show 1 <= 1000;omega⟩
      ·split at h
       ·simp only [yM,uC] at h
        obtain ⟨rfl,rfl⟩:=h;refine ⟨rfl,fun g hg=>?_⟩
        split at hg
        ·rcases yp.1 hg with hg | hg
         ·exact hb g hg
         ·obtain rfl:g=⟨a.thn,a.thn,a.count.toNat⟩:=by simpa using hg
          exact ⟨hat,hat,by have:=(Ac.zJy ha (by assumption)).2;show a.count.toNat <= 1000;omega⟩
        ·exact hb g hg
       ·cases h
theorem zLB {u:Un} {n:Int} {r:List Int} {fs:List WFr} (hf:zDG u n fs):((loc r fs).1.length=r.length /\ zDG u n (loc r fs).2) /\ zA8 (loc r fs).1 (loc r fs).2=none :=
 zJW (P:=fun r' fs'=>r'.length=r.length /\ zDG u n fs') (fun r1 fs1 r2 fs2 hp h=>⟨(zGl h hp.2.each).1.trans hp.1,(zGl h hp.2.each).2,zH6 h hp.2.low⟩) ⟨rfl,hf⟩
theorem zC9 {u:Un} {n:Int} {t:WTh} (hl:zA8 t.regs t.fs=none) (hf:zDG u n t.fs):(t.next=none /\ t.fs=[]) \/ ∃ a f r,t.next=some a /\ t.fs.getLast?=some f /\ f.rest=a :: r /\ Ac.may u n a=true /\ 2 <= a.kind /\ a.kind <= 9:=by
 unfold zA8 at hl;unfold WTh.next;cases h:t.fs.getLast? with
 | none=>exact .inl ⟨rfl,by simpa using h⟩
 | some f =>
   rw [h] at hl;simp only at hl;have hfo:f.ok u n:=hf.each f (by rw [zAd h];simp);cases hr:f.rest with
   | nil=>rw [hr] at hl;cases hl
   | cons a r =>
     rw [hr] at hl;have h0:=hfo.1;rw [hr] at h0;obtain ⟨ha,_⟩:=Ac.zCX h0;obtain ⟨k1,k2⟩:=Ac.zEc ha;refine .inr ⟨a,f,r,by simp [hr],rfl,hr,ha,?_,?_⟩
     ·simp only at hl
      by_cases q:a.kind=1
      ·rw [if_pos q] at hl;cases hl
      ·omega
     ·simp only at hl
      split at hl
      ·cases hl
      ·split at hl
       ·cases hl
       ·split at hl
        ·cases hl
        ·omega
theorem zAw {u:Un} (h:zW u=true):1 <= u.threads.length /\ u.threads.length <= 8 /\ u.cells.length <= 8 /\ 0 <= u.mutexes /\ u.mutexes <= 8 /\ ∀ b,b ∈ u.threads -> 0 <= b.regs /\ b.regs <= 8 /\ Ac.zAG u b.regs b.acts=true /\ Ac.hL b.acts <= 500:=by
 unfold zW at h;simp only [yT,yV] at h;obtain ⟨⟨⟨⟨⟨⟨⟨⟨h1,h2⟩,h3⟩,h4⟩,h5⟩,h6⟩,h7⟩,h8⟩,h9⟩:=h;refine ⟨h1,h2,h3,h4,h5,fun b hb=>?_⟩
 have:=xH.1 h7 b hb
 simp only [yT,yV] at this;refine ⟨this.1.1,this.1.2,this.2,?_⟩
 have hc:∀ l:List Bd,b ∈ l -> Ac.zX b.acts <= (l.map fun b=>Ac.zX b.acts).foldr (·+·) 0:=fun l=>by
  exact J80 _
 have h1:=hc u.threads hb;have h2:=Ac.zHG b.acts;omega
theorem zNI {u:Un} {b:Bd} (h:Ac.zAG u b.regs b.acts=true) (hh:Ac.hL b.acts <= 500):(zEW b).ok u b /\ (zEW b).st=2:=by
 have h1:=zLB (u:=u) (n:=b.regs) (r:=List.replicate b.regs.toNat 0) (fs:=[⟨b.acts,b.acts,1⟩]) ⟨fun f hf=>by
  obtain rfl:f=⟨b.acts,b.acts,1⟩:=by simpa using hf
  exact ⟨h,h,by show 1 <= 1000;omega⟩,zBY (fs:=[]) ⟨yJ _,fun j f e=>by cases e⟩ (yJ _) (by show Ac.hL b.acts+0 <= _;omega) (by show Ac.hL b.acts+0 <= _;omega)⟩
 refine ⟨⟨.inr (.inl rfl),fun _=>⟨h1.1.1.trans (by simp),h1.1.2⟩,fun _=>h1.2⟩,rfl⟩
theorem ze.get_eq {m:ze} {i:Nat} {t:WTh} (h:m.zL[i]?=some t):m.get i=t:=by simp [ze.get,List.getD,h]
theorem ze.get_some {m:ze} {i:Nat} (h:i < m.zL.length):m.zL[i]?=some (m.get i):=by
 rw [yQ h];simp [ze.get,List.getD,h]
theorem ze.zBA (m:ze) (i:Nat) (t:WTh):(m.zAS i t).zL.length=m.zL.length:=by simp [ze.zAS]
theorem ze.zCG (m:ze) (i:Nat) (t:WTh) (hi:i < m.zL.length):(m.zAS i t).get i=t:=by simp [ze.zAS,ze.get,List.getD,hi]
theorem ze.zCk (m:ze) {i j:Nat} (t:WTh) (h:i ≠ j):(m.zAS i t).get j=m.get j:=by
 show (m.zL.set i t).getD j WTh.zero=_
 unfold ze.get;rw [List.getD,List.getD,uK h]
theorem ze.ok.zAS {u:Un} {m:ze} (h:m.ok u) {i:Nat} {t:WTh} (ht:∀ b,u.threads[i]?=some b -> t.ok u b):(m.zAS i t).ok u:=by
 refine ⟨h.cells,h.owners,by rw [ze.zBA];exact h.zL,h.own,fun j t' b e1 e2=>?_⟩
 have e1':(m.zL.set i t)[j]?=some t':=e1;rw [List.getElem?_set] at e1';split at e1'
 ·rename_i he
  subst he;split at e1'
  ·cases e1';exact ht b e2
  ·cases e1'
 ·exact h.each j t' b e1' e2
theorem ze.ok.th {u:Un} {m:ze} (h:m.ok u) {i:Nat} (hi:i < m.zL.length):∃ b,u.threads[i]?=some b /\ (m.get i).ok u b /\ u.body i=b:=by
 have hi2:i < u.threads.length:=by rw [<- h.zL];exact hi
 refine ⟨u.threads[i],yQ hi2,h.each i _ _ (ze.get_some hi) (yQ hi2),?_⟩
 unfold Un.body;simp [List.getD,hi2]
theorem zJZ {u:Un} (hr:zW u=true) {m:ze} (h:m.ok u) (i:Nat):(zEM u m i).ok u:=by
 refine h.zAS (fun b hb=>?_)
 have hm:=(zAw hr).2.2.2.2.2 b (vS hb);have e:u.body i=b:=by unfold Un.body;simp [List.getD,hb]
 rw [e];exact (zNI hm.2.2.1 hm.2.2.2).1
theorem zHK {u:Un} (hr:zW u=true):(zAi u).ok u:=by
 refine zJZ hr ⟨rfl,by simp,by simp,fun o ho=>?_,fun i t b e1 e2=>?_⟩ 0
 ·obtain ⟨_,rfl⟩:=kM.1 ho
  exact Int.le_refl _
 ·exact J107 _
theorem zIH {u:Un} {b:Bd} {t:WTh} (h:t.ok u b) (h2:t.st=2):t.on.local.ok u b /\ t.on.local.st=2:=by
 obtain ⟨hl,hf⟩:=h.2.1 (by rw [h2];decide)
 have hfo:zDG u b.regs t.on.fs:=by
  unfold WTh.on;cases e:t.fs.getLast? with
  | none=>exact hf
  | some f =>
    obtain ⟨l1,l2,l3,l4⟩:=zEv hf.low e
    refine ⟨fun g hg=>?_,zBY (zE4 hf.low) l2 (by
     show Ac.hL f.rest.tail+_ <= _
     cases hr:f.rest with
     | nil=>simp only [List.tail_nil,Ac.hL];omega
     | cons a tl=>rw [hr] at l3;simp only [Ac.hL] at l3;simp only [List.tail_cons];omega) l4⟩
    have hs:=zAd e;have hfl:f.ok u b.regs:=hf.each f (by rw [hs];simp);rcases yp.1 hg with hg | hg
    ·exact hf.each g (List.dropLast_subset _ hg)
    ·exact J75 _
 have hst:t.on.st=t.st:=by unfold WTh.on;split <;> rfl
 have hre:t.on.regs=t.regs:=by unfold WTh.on;split <;> rfl
 have h1:=zLB (u:=u) (n:=b.regs) (r:=t.on.regs) (fs:=t.on.fs) hfo;refine ⟨⟨.inr (.inl (by show t.on.st=2;rw [hst];exact h2)),fun _=>⟨?_,h1.1.2⟩,fun _=>h1.2⟩,by show t.on.st=2;rw [hst];exact h2⟩
 show (loc t.on.regs t.on.fs).1.length=_
 rw [h1.1.1,hre];exact hl
theorem WTh.ok.regs {u:Un} {b:Bd} {t:WTh} (h:t.ok u b) (k:Nat) (v:Int) (hs:t.st=2 -> zA8 (t.regs.set k v) t.fs=none):WTh.ok u b { t with regs:=t.regs.set k v } :=
 ⟨h.1,fun h1=>⟨by rw [uT];exact (h.2.1 h1).1,(h.2.1 h1).2⟩,hs⟩
theorem zKn {r r':List Int} {fs:List WFr} (h:zA8 r fs=none):zA8 r' fs=none:=by
 unfold zA8 at h ⊢;cases hl:fs.getLast? with
 | none=>rfl
 | some f =>
   rw [hl] at h;simp only at h ⊢;cases hr:f.rest with
   | nil=>rw [hr] at h;cases h
   | cons a t =>
     rw [hr] at h;simp only at h ⊢;split at h
     ·cases h
     ·rename_i q1
      rw [if_neg q1];split at h
      ·cases h
      ·rename_i q2
       rw [if_neg q2];split at h
       ·cases h
       ·rename_i q3
        rw [if_neg q3]
theorem zF3 {u:Un} (hr:zW u=true) {m:ze} (h:m.ok u) {i:Nat} (hi:i < m.zL.length) (a:Ac):(doM u m i a).1.ok u /\ (doM u m i a).1.zL.length=m.zL.length:=by
 have hset:∀ k v,(m.zAS i { m.get i with regs:=(m.get i).regs.set k v }).ok u:=fun k v=>h.zAS (fun b hb=>by
  obtain ⟨b',e,hok,_⟩:=h.th hi;rw [hb] at e;cases e;exact hok.regs k v (fun h2=>zKn (hok.2.2 h2)))
 have hcell:∀ k v,ze.ok u { m with cells:=m.cells.set k v }:=fun k v=>⟨by simp [h.cells],h.owners,h.zL,h.own,h.each⟩
 have hown:∀ k (v:Int),-1 <= v -> ze.ok u { m with owners:=m.owners.set k v }:=fun k v hv=>⟨h.cells,by simp [h.owners],h.zL,fun o ho=>by
  rcases List.mem_or_eq_of_mem_set ho with ho | ho
  ·exact h.own o ho
  ·subst ho;exact hv,h.each⟩
 unfold doM;simp only
 split
 ·exact ⟨hset _ _,by rw [ze.zBA]⟩
 ·split
  ·exact ⟨hcell _ _,rfl⟩
  ·split
   ·refine ⟨?_,by rw [ze.zBA]⟩
    have:=hset a.reg.toNat (m.cells.getD a.obj.toNat 0)
    exact ⟨by simp [ze.zAS,h.cells],this.owners,this.zL,this.own,this.each⟩
   ·split
    ·exact ⟨hown _ _ (by omega),rfl⟩
    ·split
     ·split
      ·exact ⟨hown _ _ (by omega),rfl⟩
      ·exact ⟨h,rfl⟩
     ·split
      ·split
       ·exact ⟨zJZ hr h _,by unfold zEM;rw [ze.zBA]⟩
       ·exact ⟨h,rfl⟩
      ·split
       ·split <;> exact ⟨h,rfl⟩
       ·exact ⟨h,rfl⟩
theorem zDk {u:Un} {m:ze} {i:Nat} (hi:i < m.zL.length) (h2:(m.get i).st=2) (a:Ac):((doM u m i a).1.get i).st=2 /\ ((doM u m i a).1.get i).fs=(m.get i).fs:=by
 have hs:∀ (c:List Int) (o:List Int) (t:WTh),(ze.zAS ⟨c,o,m.zL⟩ i t).get i=t:=fun c o t=>ze.zCG _ _ _ hi
 unfold doM;simp only
 split
 ·rw [hs];exact ⟨h2,rfl⟩
 ·split
  ·exact ⟨h2,rfl⟩
  ·split
   ·rw [hs];exact ⟨h2,rfl⟩
   ·split
    ·exact ⟨h2,rfl⟩
    ·split
     ·split <;> exact ⟨h2,rfl⟩
     ·split
      ·split
       ·rename_i q
        have hne:a.obj.toNat ≠ i:=fun e=>by rw [e,h2] at q;cases q
        unfold zEM;rw [ze.zCk _ _ hne];exact ⟨h2,rfl⟩
       ·exact ⟨h2,rfl⟩
      ·split
       ·split <;> exact ⟨h2,rfl⟩
       ·exact ⟨h2,rfl⟩
theorem zFa {u:Un} (hr:zW u=true) {m:ze} (h:m.ok u) {i:Nat} (hi:i < m.zL.length) (h2:(m.get i).st=2):(zAg u m i).1.ok u /\ (zAg u m i).1.zL.length=m.zL.length:=by
 unfold zAg;cases hn:(m.get i).next with
 | none =>
   refine ⟨h.zAS (fun b hb=>?_),by rw [ze.zBA]⟩
   obtain ⟨b',e,hok,_⟩:=h.th hi;rw [hb] at e;cases e;exact ⟨.inr (.inr (.inl rfl)),fun _=>hok.2.1 (by rw [h2];decide),fun q=>by cases q⟩
 | some a =>
   obtain ⟨g1,g2⟩:=zF3 hr h hi a;obtain ⟨s1,s2⟩:=zDk (u:=u) hi h2 a;have hi':i < (doM u m i a).1.zL.length:=by rw [g2];exact hi
   simp only
   split
   ·refine ⟨g1.zAS (fun b hb=>?_),by rw [ze.zBA,g2]⟩
    obtain ⟨b',e,hok,_⟩:=g1.th hi';rw [hb] at e;cases e;exact ⟨.inr (.inr (.inr rfl)),fun _=>hok.2.1 (by rw [s1];decide),fun q=>by cases q⟩
   ·refine ⟨g1.zAS (fun b hb=>?_),by rw [ze.zBA,g2]⟩
    obtain ⟨b',e,hok,_⟩:=g1.th hi';rw [hb] at e;cases e;exact (zIH hok s1).1
theorem zFB {m:ze} {i:Int} (h:zBP m i=0):0 <= i /\ i < m.zL.length /\ (m.get i.toNat).st ≠ 1 /\ (m.get i.toNat).st ≠ 3 /\ (m.get i.toNat).st ≠ 4 /\ zAY m i.toNat=true:=by
 unfold zBP at h;split at h
 ·cases h
 ·rename_i q
  simp only at h;split at h
  ·cases h
  ·split at h
   ·cases h
   ·split at h
    ·cases h
    ·split at h
     ·rename_i q1 q2 q3 q4
      exact ⟨by omega,by omega,q1,q2,q3,q4⟩
     ·cases h
theorem zHW {u:Un} (hr:zW u=true) {m:ze} (h:m.ok u) (i:Int):(stepM u m i).1.ok u /\ (stepM u m i).1.zL.length=m.zL.length:=by
 unfold stepM;split
 ·rename_i q
  obtain ⟨h1,h2,h3,h4,h5,_⟩:=zFB q;have hi:i.toNat < m.zL.length:=by omega
  obtain ⟨b,_,hok,_⟩:=h.th hi;have hst:(m.get i.toNat).st=2:=J237 _;exact zFa hr h hi hst
 ·exact ⟨h,rfl⟩
end Go.Proofs.YtfjgcedkfnmdkaaGreatDoor
