/- Layer N: texts joined. -/
import Derived.Test.YtoapgjjepiopbaaGreatDoorN33
import Derived.Test.YtoapgjjepiopbaaGreatDoorN31
set_option linter.all false
set_option maxHeartbeats 4000000
set_option maxRecDepth 8000
namespace Go.Proofs.YtoapgjjepiopbaaGreatDoor
open Go.RowKit
theorem J62 (P:Prop) (h:P:=by exact hK _ _ g1 ⟨by simp,ad2,cp2,rfl,zX.zAM ho rfl (fun kb e=>⟨hb1 kb e,zS ho e⟩),HB7.out⟩):P:=h
theorem J109 (P:Prop) (h:P:=by
 obtain rfl:=HNO2.out (fun h=>by omega);go_wp2_with fail
 go_ret
 exact ⟨rfl,HKR.out.zB K5.out⟩):P:=h
theorem J205 (P:Prop) (h:P:=by have e':k=b3:=e;rw [HTP.out] at hk;exact hk.2.2 e'):P:=h
def crD (j:Nat):List Nat :=
 match j with
 | 3=>[3]
 | 6=>[6]
 | 10=>[10]
 | 11=>[3,6,10]
 | 12=>[12]
 | _=>[]
def zDg (B0 n0 n1 n2:Nat) (j:Nat) (v:Value) (gs:Nat -> Nat × Nat) (W:World):Prop :=
 match j with
 | 3=>∃ ad cp,v=.slice ad n0 cp /\ zX W (In (gs 3)) (.slice ad n0 cp) n0 /\ B0 <= (gs 3).1
 | 6=>∃ ad cp,v=.slice ad n1 cp /\ zX W (In (gs 6)) (.slice ad n1 cp) n1 /\ B0 <= (gs 6).1
 | 10=>∃ ad cp,v=.slice ad n2 cp /\ zX W (In (gs 10)) (.slice ad n2 cp) n2 /\ B0 <= (gs 10).1
 | 11=>∃ a0 c0 a1 c1 a2 c2,v=.agg #[.slice a0 n0 c0, .slice a1 n1 c1, .slice a2 n2 c2, .slice none 0 0] /\ (zX W (In (gs 3)) (.slice a0 n0 c0) n0 /\ B0 <= (gs 3).1) /\ (zX W (In (gs 6)) (.slice a1 n1 c1) n1 /\ B0 <= (gs 6).1) /\ zX W (In (gs 10)) (.slice a2 n2 c2) n2 /\ B0 <= (gs 10).1
 | _=>∃ b,v=.pointer (some ⟨b,0,none⟩) /\ b=(gs 12).1 /\ b < (gs 12).2 /\ B0 <= (gs 12).1 /\ zC W b [.slice none 0 0, .slice none 0 0, .slice none 0 0, .slice none 0 0]
theorem zDg.st {B0 n0 n1 n2:Nat} (j:Nat) (v:Value) (gs:Nat -> Nat × Nat) (W W':World) (h:zDg B0 n0 n1 n2 j v gs W) (hk:Keeps zA W W'):zDg B0 n0 n1 n2 j v gs W':=by
 unfold zDg at *;exact J28 _
theorem zDg.loc {B0 n0 n1 n2:Nat} (j:Nat) (hj:j=3 \/ j=6 \/ j=10 \/ j=11 \/ j=12) (v:Value) (gs gs':Nat -> Nat × Nat) (W:World) (hg:∀ a,a ∈ crD j -> gs a=gs' a) (h:zDg B0 n0 n1 n2 j v gs W):zDg B0 n0 n1 n2 j v gs' W:=by
 rcases hj with rfl | rfl | rfl | rfl | rfl
 ·have e:=hg 3 (by simp [crD]);unfold zDg at *;simp only [] at *;rw [<- e];exact h
 ·have e:=hg 6 (by simp [crD]);unfold zDg at *;simp only [] at *;rw [<- e];exact h
 ·have e:=hg 10 (by simp [crD]);unfold zDg at *;simp only [] at *;rw [<- e];exact h
 ·have e7:=hg 3 (by simp [crD]);have e11:=hg 6 (by simp [crD]);have e15:=hg 10 (by simp [crD]);unfold zDg at *;simp only [] at *;rw [<- e7,<- e11,<- e15];exact h
 ·have e:=hg 12 (by simp [crD]);unfold zDg at *;simp only [] at *;rw [<- e];exact h
def zOw (B0 n0 n1 n2:Nat) (j:Nat) (v:Value) (gs:Nat -> Nat × Nat) (W:World):Prop :=
 (j=3 \/ j=6 \/ j=10 \/ j=11 \/ j=12) /\ zDg B0 n0 n1 n2 j v gs W
theorem zDE (cs:List Int) (mu:Int) (bs:List Bd) (w:World) (F:Nat -> Prop) (uca uta:Option Addr) (ucc utc:Nat)
 (hcs:zAn w F cs uca) (hbd:zBa w F bs uta) (hF:∀ k,F k -> k < w.heap.size) (hk:∀ b,b ∈ bs -> Ac.zBD b.acts) (hsz:zAb bs < 900000000) (hl1:cs.length < 1000000000) (hl2:bs.length < 1000000000) :
 Calls Tryz.prog 16 #[.agg #[.slice uca cs.length ucc, .int .i64 mu, .slice uta bs.length utc]] w fun e w'=>e=.returned (.bool (zu ⟨cs,mu,bs⟩)) /\ Keeps zA w w':=by
 have HCS:=Lib.hid hcs;have HBD:=Lib.hid hbd;have HFs:=Lib.hid hF;have HKD:=Lib.hid hk;have HSZ:=Lib.hid hsz;obtain ⟨j0,hj0,hz0,hz1,hz2⟩:=info_parts zHZ;obtain ⟨r,hr⟩:=eX (zu ⟨cs,mu,bs⟩);have HR:=Lib.hid hr;rw [<- hr];clear hcs hbd hF hk hsz hr;go_enter Tryz.func16,Tryz.ntmps16
 go_upto_region 1 with fail
 obtain ⟨b1,hb1⟩:=eX w.heap.size;have hr1:zC (w.alloc (.cells #[.slice uca cs.length ucc, .int .i64 mu, .slice uta bs.length utc] 25)) b1 [.slice uca cs.length ucc, .int .i64 mu, .slice uta bs.length utc]:=J150 _;have hk1:Keeps zA w (w.alloc (.cells #[.slice uca cs.length ucc, .int .i64 mu, .slice uta bs.length utc] 25)):=(Keeps.refl _ _).alloc _;have hs1:b1 < (w.alloc (.cells #[.slice uca cs.length ucc, .int .i64 mu, .slice uta bs.length utc] 25)).heap.size:=by rw [hb1];simp
 rw [<- hb1];generalize w.alloc (.cells #[.slice uca cs.length ucc, .int .i64 mu, .slice uta bs.length utc] 25)=w1 at hr1 hk1 hs1 ⊢;obtain ⟨d0,d1,d2⟩:=hr1.three;have R1:=Lib.hid hr1;have K1:=Lib.hid hk1;have S1:Hid (b1 < w1.heap.size /\ w.heap.size <= b1):=⟨hs1,by omega⟩;clear hr1 hk1 hb1 hs1;have HNO:Hid (¬ zDt ⟨cs,mu,bs⟩ -> false=r):=fun h=>by rw [HR.out,zET h]
 have l1:(0:Int) <= bs.length:=by omega
 have l2:(0:Int) <= cs.length:=by omega
 rcases Nat.lt_or_ge bs.length 1 with q1 | q1
 ·exact J147 _
 have q1':¬ (bs.length:Int) < 1:=by omega
 rcases Nat.lt_or_ge 8 bs.length with q2 | q2
 ·exact J146 _
 have q2':¬ (8:Int) < bs.length:=by omega
 rcases Nat.lt_or_ge 8 cs.length with q3 | q3
 ·exact J145 _
 have q3':¬ (8:Int) < cs.length:=by omega
 rcases Int.lt_or_le mu 0 with q4 | q4
 ·obtain rfl:=HNO.out (fun h=>by have h1:0 <= mu:=h.2.2.2.1;omega)
  exact J35 _
 have q4':¬ mu < 0:=by omega
 rcases Int.lt_or_le 8 mu with q5 | q5
 ·obtain rfl:=HNO.out (fun h=>by have h1:mu <= 8:=h.2.2.2.2;omega)
  exact J35 _
 have q5':¬ 8 < mu:=by omega
 have HHD:Hid (zDt ⟨cs,mu,bs⟩):=⟨q1,q2,q3,q4,q5⟩;go_upto_region 3 with fail
 clear d0 d1 d2 q4' q5' q3' q2' q1' l1 l2 hl1 hl2;obtain ⟨n1,hn1⟩:∃ n:Nat,mu=(n:Int):=⟨mu.toNat,by omega⟩
 obtain ⟨n0,hn0⟩:=eX cs.length;obtain ⟨n2,hn2⟩:=eX bs.length;have HNN:Hid (n0=cs.length /\ mu=(n1:Int) /\ n2=bs.length):=⟨hn0,hn1,hn2⟩;have HBN:Hid (n0 <= 8 /\ n1 <= 8 /\ n2 <= 8 /\ 1 <= n2):=⟨by omega,by omega,by omega,by omega⟩;have R1':Hid (zC w1 b1 [.slice uca n0 ucc, .int .i64 n1, .slice uta n2 utc]):=by have h:=R1.out;rw [<- hn0,<- hn2,hn1] at h;exact h
 have HC0:Hid (∀ W,Calls Tryz.prog 42 #[.int .i64 n0] W (zB3 9 1 W n0 (xs n0))):=fun W=>zEI n0 (by omega) W
 have HC1:Hid (∀ W,Calls Tryz.prog 42 #[.int .i64 n1] W (zB3 9 1 W n1 (xs n1))):=fun W=>zEI n1 (by omega) W
 have HC2:Hid (∀ W,Calls Tryz.prog 42 #[.int .i64 n2] W (zB3 9 1 W n2 (xs n2))):=fun W=>zEI n2 (by omega) W
 rw [<- hn0,<- hn2,hn1];clear hn0 hn1 hn2 q1 q2 q3 q4 q5;refine zBP 13 (by kernel_rfl) (by kernel_rfl) crD (by kernel_rfl) (Keeps zA) (Keeps.refl zA) (fun a b c h h'=>Keeps.zB h h') (fun a b h=>h.size) (zC5 [some (.pointer (some ⟨b1,0,none⟩)),some (.slice uca n0 ucc),some (.int .i64 n0),none,some (.pointer (some ⟨b1,1,none⟩)),some (.int .i64 n1),none,some (.pointer (some ⟨b1,2,none⟩)),some (.slice uta n2 utc),some (.int .i64 n2)] (zOw w1.heap.size n0 n1 n2)) (zC5.st (fun j v gs W W' h hk=>⟨h.1,zDg.st j v gs W W' h.2 hk⟩)) (zC5.loc (D:=crD) (fun j v gs gs' W hg h=>⟨h.1,zDg.loc j h.1 v gs gs' W hg h.2⟩)) ?_ ?_
 ·intro q oo hq ho vs gs W Q' hR0 hd hK
  have hR:Keeps zA w1 W:=((Keeps.refl zA w1).drew).zB hR0;obtain ⟨y10,y11,y12⟩:=(R1'.out.keeps hR (fun h=>h)).three;have HB7:Hid (w1.heap.size <= W.heap.size):=hR.size;clear hR hR0;rcases (show q=0 \/ q=1 \/ q=2 \/ q=3 \/ q=4 \/ q=5 \/ q=6 \/ q=7 \/ q=8 \/ q=9 \/ q=10 \/ q=11 \/ q=12 by omega) with rfl | rfl | rfl | rfl | rfl | rfl | rfl | rfl | rfl | rfl | rfl | rfl | rfl
  all_goals (simp only [List.getElem?_cons_zero,List.getElem?_cons_succ,Option.some.injEq] at ho;subst ho;simp only [zJ,List.getElem?_cons_zero,List.getElem?_cons_succ,Option.bind_some,Option.bind,Act.put,List.setIfInBounds_toArray,List.set_cons_zero,List.set_cons_succ] at hK ⊢;clear hq)
  ·exact J3 _
  ·exact J117 _
  ·exact J127 _
  ·have e2:vs 2=_:=hd 2 (by kernel_rfl)
   rw [e2] at hK ⊢;clear hd;go_wp2_with (go_at_call 42;refine (HC0.out W).mono ?_;rintro e W1 ⟨ad2,cp2,rfl,ho,g1,hb1⟩)
   exact J62 _
  ·exact J3 _
  ·exact J123 _
  ·have e5:vs 5=_:=hd 5 (by kernel_rfl)
   rw [e5] at hK ⊢;clear hd;go_wp2_with (go_at_call 42;refine (HC1.out W).mono ?_;rintro e W1 ⟨ad2,cp2,rfl,ho,g1,hb1⟩)
   exact J62 _
  ·exact J3 _
  ·exact J143 _
  ·exact J141 _
  ·have e9:vs 9=_:=hd 9 (by kernel_rfl)
   rw [e9] at hK ⊢;clear hd;go_wp2_with (go_at_call 42;refine (HC2.out W).mono ?_;rintro e W1 ⟨ad2,cp2,rfl,ho,g1,hb1⟩)
   exact J62 _
  ·obtain ⟨_,a0,c0,e3,h3⟩:=(hd 3 (by kernel_rfl):_ /\ ∃ ad cp,vs 3=.slice ad n0 cp /\ zX W (In (gs 3)) (.slice ad n0 cp) n0 /\ w1.heap.size <= (gs 3).1)
   have H3:=Lib.hid h3;obtain ⟨_,a1,c1,e6,h6⟩:=(hd 6 (by kernel_rfl):_ /\ ∃ ad cp,vs 6=.slice ad n1 cp /\ zX W (In (gs 6)) (.slice ad n1 cp) n1 /\ w1.heap.size <= (gs 6).1);have H6:=Lib.hid h6;obtain ⟨_,a2,c2,e10,h10⟩:=(hd 10 (by kernel_rfl):_ /\ ∃ ad cp,vs 10=.slice ad n2 cp /\ zX W (In (gs 10)) (.slice ad n2 cp) n2 /\ w1.heap.size <= (gs 10).1);have H10:=Lib.hid h10;rw [e3,e6,e10] at hK ⊢;clear h3 h6 h10;clear hd;go_wp2_with fail
   exact hK _ _ (Keeps.refl _ _) ⟨by simp,a0,c0,a1,c1,a2,c2,rfl,H3.out,H6.out,H10.out⟩
  ·exact J83 _
 ·intro vs gs W hR0 hF hGS hGD
  have hR:Keeps zA w1 W:=((Keeps.refl zA w1).drew).zB hR0;have HRW:=Lib.hid hR;have HKW:Hid (Keeps zA w W):=K1.out.zB hR;obtain ⟨_,a0,c0,a1,c1,a2,c2,e11,hs3,hs6,hs10⟩:=(hF 11 (by decide):_ /\ ∃ a0 c0 a1 c1 a2 c2,vs 11=.agg #[.slice a0 n0 c0, .slice a1 n1 c1, .slice a2 n2 c2, .slice none 0 0] /\ (zX W (In (gs 3)) (.slice a0 n0 c0) n0 /\ w1.heap.size <= (gs 3).1) /\ (zX W (In (gs 6)) (.slice a1 n1 c1) n1 /\ w1.heap.size <= (gs 6).1) /\ zX W (In (gs 10)) (.slice a2 n2 c2) n2 /\ w1.heap.size <= (gs 10).1);obtain ⟨_,b3,e12,q1,q2,q3,hz3⟩:=(hF 12 (by decide):_ /\ ∃ b,vs 12=.pointer (some ⟨b,0,none⟩) /\ b=(gs 12).1 /\ b < (gs 12).2 /\ w1.heap.size <= (gs 12).1 /\ zC W b [.slice none 0 0, .slice none 0 0, .slice none 0 0, .slice none 0 0]);obtain ⟨TP,hTP⟩:=eX (α:=Nat -> Prop) (fun k=>w1.heap.size <= k /\ k < W.heap.size /\ k ≠ b3);have g3:=hGD 3 12 (by decide) (by decide) (by decide);have g6:=hGD 6 12 (by decide) (by decide) (by decide);have g10:=hGD 10 12 (by decide) (by decide) (by decide);have l3:=hGS 3 (by decide);have l6:=hGS 6 (by decide);have l10:=hGS 10 (by decide);have l12:=hGS 12 (by decide);have HN0:Hid (zX W TP (.slice a0 n0 c0) n0):=hs3.1.mono (fun k hk=>by exact J158 _);have HN1:Hid (zX W TP (.slice a1 n1 c1) n1):=hs6.1.mono (fun k hk=>by exact J158 _);have HN2:Hid (zX W TP (.slice a2 n2 c2) n2):=hs10.1.mono (fun k hk=>by exact J158 _);have HTP:=Lib.hid hTP;have HB3:Hid (w1.heap.size <= b3 /\ b3 < W.heap.size):=⟨by omega,by omega⟩;have hzr:=Lib.hid hz3;simp only [zJ,List.getElem?_cons_zero,List.getElem?_cons_succ,Option.bind_some,Option.bind,Act.put,List.setIfInBounds_toArray,List.set_cons_zero,List.set_cons_succ,List.drop_succ_cons,List.drop_zero];rw [e11,e12];clear hF e11 e12;generalize vs 0=y0;generalize vs 1=y1;generalize vs 2=y2;generalize vs 3=y3;generalize vs 4=y4;generalize vs 5=y5;generalize vs 6=y6;generalize vs 7=y7;generalize vs 8=y8;generalize vs 9=y9;generalize vs 10=y10;clear hR hR0 hs3 hs6 hs10 hGS hGD q1 q2 q3 g3 g6 g10 l3 l6 l10 l12 hTP HC0 HC1 HC2
  obtain ⟨z0,z1,z2,z3⟩:=hz3.four;have f0:=hz3.free (k:=0) (by simp);have f1:=hz3.free (k:=1) (by simp);have f2:=hz3.free (k:=2) (by simp);have f3:=hz3.free (k:=3) (by simp);clear hz3;go_upto_region 4 with fail
  have rX:zC ((((W.setCell ⟨b3,0,none⟩ (.slice a0 n0 c0)).setCell ⟨b3,1,none⟩ (.slice a1 n1 c1)).setCell ⟨b3,2,none⟩ (.slice a2 n2 c2)).setCell ⟨b3,3,none⟩ (.slice none 0 0)) b3 [.slice a0 n0 c0, .slice a1 n1 c1, .slice a2 n2 c2, .slice none 0 0]:=(((hzr.out.set 0 (by simp) _).set 1 (by simp) _).set 2 (by simp) _).set 3 (by simp) _;have kX:Keeps (fun q=>q=b3) W ((((W.setCell ⟨b3,0,none⟩ (.slice a0 n0 c0)).setCell ⟨b3,1,none⟩ (.slice a1 n1 c1)).setCell ⟨b3,2,none⟩ (.slice a2 n2 c2)).setCell ⟨b3,3,none⟩ (.slice none 0 0)):=((((Keeps.refl (fun q=>q=b3) W).setCell (p:=⟨b3,0,none⟩) (fun _=>rfl) _).setCell (p:=⟨b3,1,none⟩) (fun _=>rfl) _).setCell (p:=⟨b3,2,none⟩) (fun _=>rfl) _).setCell (p:=⟨b3,3,none⟩) (fun _=>rfl) _;generalize (((W.setCell ⟨b3,0,none⟩ (.slice a0 n0 c0)).setCell ⟨b3,1,none⟩ (.slice a1 n1 c1)).setCell ⟨b3,2,none⟩ (.slice a2 n2 c2)).setCell ⟨b3,3,none⟩ (.slice none 0 0)=wX at rX kX ⊢;have RX:=Lib.hid rX;have KX:=Lib.hid kX;have KX1:Hid (Keeps zA w1 wX):=HRW.out.trans kX (fun q hq e=>by have e':q=b3:=e;have:=HB3.out;omega);have KXw:Hid (Keeps zA w wX):=K1.out.zB KX1.out;have XN0:Hid (zX wX TP (.slice a0 n0 c0) n0):=HN0.out.keeps kX (fun k hk e=>by exact J205 _);have XN1:Hid (zX wX TP (.slice a1 n1 c1) n1):=HN1.out.keeps kX (fun k hk e=>by exact J205 _);have XN2:Hid (zX wX TP (.slice a2 n2 c2) n2):=HN2.out.keeps kX (fun k hk e=>by exact J205 _);have hTb:Hid (∀ q,TP q -> ¬ (fun q=>q=b3) q):=fun q hq e=>by have e':q=b3:=e;rw [HTP.out] at hq;exact hq.2.2 e'
  have hFb:Hid (∀ q,F q -> ¬ (fun q=>q=b3) q):=fun q hq e=>by have e':q=b3:=e;have:=HFs.out q hq;have:=S1.out;have:=HB3.out;omega
  have R1X:Hid (zC wX b1 [.slice uca n0 ucc, .int .i64 n1, .slice uta n2 utc]):=R1'.out.keeps KX1.out (fun h=>h);have CSX:Hid (zAn wX F cs uca):=HCS.out.keeps KXw.out (fun _ _ h=>h);have BDX:Hid (zBa wX F bs uta):=HBD.out.keeps KXw.out (fun _ _ h=>h);have ne13:Hid (b1 ≠ b3):=by have:=S1.out;have:=HB3.out;show _ ≠ _;omega
  obtain ⟨B,hB⟩:=eX wX.heap.size;have HBE:Hid (B=wX.heap.size /\ b3 < B /\ b1 < B /\ w.heap.size <= b3 /\ w.heap.size <= b1 /\ W.heap.size <= B /\ w.heap.size <= w1.heap.size):=⟨hB,by have:=HB3.out;have:=KX.out.size;omega,by have:=S1.out;have:=KX1.out.size;omega,by have:=S1.out;have:=HB3.out;omega,S1.out.2,by rw [hB];exact KX.out.size,K1.out.size⟩;clear rX kX z0 z1 z2 z3 f0 f1 f2 f3 hzr HRW HKW hB;obtain ⟨y10,y11,y12⟩:=R1X.out.three;go_upto_region 5 with fail
  clear y10 y11 y12;obtain ⟨rs,hrs⟩:=eX (α:=List Nat) (bs.map fun b=>b.regs.toNat);have HRS:Hid (rs=bs.map fun b=>b.regs.toNat):=hrs;have HRL:Hid (rs.length=n2):=by show _=_;rw [hrs,List.length_map,HNN.out.2.2]
  clear hrs;have hb2:n2 <= 8:=HBN.out.2.2.1;go_loopw [47] (fun iv wr=>∃ (i:Nat) (ga:Option Addr) (gc:Nat) (css:List (List Value)),i <= n2 /\ iv=.int .i64 i /\ Hid (zC wr b3 [.slice a0 n0 c0, .slice a1 n1 c1, .slice a2 n2 c2, .slice ga i gc]) /\ Hid (Acc zEd (fun _=>False) B 1 93 wr (.slice ga i gc) (rs.take i) css) /\ Hid (Keeps (fun q=>q=b3) wX wr) /\ Hid (∀ j (hj:j < bs.length),j < i -> 0 <= bs[j].regs /\ bs[j].regs <= 8)) (fun iv _=>n2 - (intOf iv).toNat)
  case atStart=>exact ⟨0,none,0,[],Nat.zero_le _,rfl,RX,Acc.nil wX,Keeps.refl _ _,fun j hj h=>by omega⟩
  case round =>
   obtain ⟨i,ga,gc,css,hi,rfl,RB,HA,HK,HU⟩:=hrel;by_cases hlt:i < n2
   ·have i1:(0:Int) <= i:=by omega
    have i2:(i:Int) < n2:=by omega
    have hlb:i < bs.length:=by have:=HNN.out;omega
    obtain ⟨g,o,ba,bc,e1,hg,d0,d1,_⟩:=(BDX.out.keeps HK.out hFb.out) i hlb;subst e1;have HNO2:Hid (¬ (0 <= bs[i].regs /\ bs[i].regs <= 8) -> false=r):=fun h=>by rw [HR.out,zFz (u:=⟨cs,mu,bs⟩) (List.getElem_mem hlb) h]
    have HU2:Hid (0 <= bs[i].regs /\ bs[i].regs <= 8 -> ∀ j (hj:j < bs.length),j < i+1 -> 0 <= bs[j].regs /\ bs[j].regs <= 8):=fun h j hj hj2=>by
     exact J112 _
    have HTK:Hid (rs.take (i+1)=rs.take i++[bs[i].regs.toNat]):=by
     show _=_
     have hl:i < rs.length:=by have:=HRL.out;omega
     rw [take_at hl];congr 2
     have h1:=HRS.out;subst h1;rw [List.getElem_map]
    generalize bs[i].regs=x0 at d0 HNO2 HU2 HTK;generalize bs[i].acts.length=x1 at d1;go_upto_region 7 with fail
    obtain ⟨b5,hb5⟩:=eX wr.heap.size;have hr5:zC (wr.alloc (.cells #[.int .i64 x0, .slice ba x1 bc] 48)) b5 [.int .i64 x0, .slice ba x1 bc]:=J175 _;have hk5:Keeps zA wr (wr.alloc (.cells #[.int .i64 x0, .slice ba x1 bc] 48)):=(Keeps.refl _ _).alloc _;rw [<- hb5];generalize wr.alloc (.cells #[.int .i64 x0, .slice ba x1 bc] 48)=w5 at hr5 hk5 ⊢;obtain ⟨t0,t1⟩:=hr5.two;have R5:=Lib.hid hr5;have K5:=Lib.hid hk5;have HKR:Hid (Keeps zA w wr):=KXw.out.trans HK.out (fun q hq e=>by have e':q=b3:=e;have:=HBE.out;omega);clear hr5 hk5 hb5 d0 d1;rcases Int.lt_or_le x0 0 with q4 | q4
    ·exact J109 _
    have q4':¬ x0 < 0:=by omega
    rcases Int.lt_or_le 8 x0 with q5 | q5
    ·exact J109 _
    have q5':¬ 8 < x0:=by omega
    go_upto_region 9 with fail
    obtain ⟨m,hm⟩:∃ m:Nat,x0=(m:Int):=⟨x0.toNat,by omega⟩
    subst hm;have HM:Hid (m <= 8):=by show _ <= _;omega
    have HU3:=Lib.hid (HU2.out ⟨q4,q5⟩);have HTK2:Hid (rs.take (i+1)=rs.take i++[m]):=by have h:=HTK.out;rw [Int.toNat_natCast] at h;exact h
    have HC:Hid (∀ W,Calls Tryz.prog 42 #[.int .i64 m] W (zB3 9 1 W m (xs m))):=fun W=>zEI m (by have:=HM.out;omega) W
    clear q4 q5 q4' q5' t0 t1 HNO2 HU2 HTK
    refine ze 6 (by kernel_rfl) (by kernel_rfl) (Keeps zA) (Keeps.refl zA) (fun a b c h h'=>Keeps.zB h h') (zA3 [some (.pointer (some ⟨b3,3,none⟩)),some (.slice ga i gc),some (.pointer (some ⟨b5,0,none⟩)),some (.int .i64 m)] (fun j v W=>match j with
     | 4=>∃ ad2 cp2,v=.slice ad2 m cp2 /\ zX W (Since w5.heap.size W) (.slice ad2 m cp2) m
     | _=>∃ b ad2 cp2,v=.slice (some ⟨b,0,none⟩) 1 1 /\ zC W b [.slice ad2 m cp2] /\ zX W (Since w5.heap.size W) (.slice ad2 m cp2) m)) (zA3.st (fun j v W W' h hk=>by
       revert h
       split
       ·exact J38 _
       ·rintro ⟨b,ad2,cp2,e,h0,h1⟩;exact ⟨b,ad2,cp2,e,h0.keeps hk (fun h=>h),(h1.keeps hk (fun _ _ h=>h)).mono (fun k hk'=>⟨hk'.1,Nat.lt_of_lt_of_le hk'.2 hk.size⟩)⟩)) ?_ ?_
    ·intro q oo hq ho vs W Q' hR0 hd hK
     have hR:Keeps zA w5 W:=((Keeps.refl zA w5).drew).zB hR0;have hRr:Keeps zA wr W:=K5.out.zB hR;obtain ⟨y30,y31,y32,y33⟩:=(RB.out.keeps hRr (fun h=>h)).four;obtain ⟨y50,y51⟩:=(R5.out.keeps hR (fun h=>h)).two;have HB5:Hid (w5.heap.size <= W.heap.size):=hR.size;clear hR hR0 hRr;rcases (show q=0 \/ q=1 \/ q=2 \/ q=3 \/ q=4 \/ q=5 by omega) with rfl | rfl | rfl | rfl | rfl | rfl
     all_goals (simp only [List.getElem?_cons_zero,List.getElem?_cons_succ,Option.some.injEq] at ho;subst ho;simp only [zJ,List.getElem?_cons_zero,List.getElem?_cons_succ,Option.bind_some,Option.bind,Act.put,List.setIfInBounds_toArray,List.set_cons_zero,List.set_cons_succ] at hK ⊢;clear hq)
     ·exact J3 _
     ·exact J117 _
     ·exact J3 _
     ·exact J124 _
     ·have e3:vs 3=_:=hd 3 (by kernel_rfl)
      rw [e3] at hK ⊢;clear hd;go_wp2_with (go_at_call 42;refine (HC.out W).mono ?_;rintro e W1 ⟨ad2,cp2,rfl,ho,g1,hb1⟩)
      exact hK _ _ g1 ⟨ad2,cp2,rfl,zX.zAM ho rfl (fun kb e=>⟨Nat.le_trans HB5.out (hb1 kb e),zS ho e⟩)⟩
     ·obtain ⟨ad2,cp2,e4,h4⟩:=(hd 4 (by kernel_rfl):∃ ad2 cp2,vs 4=.slice ad2 m cp2 /\ zX W (Since w5.heap.size W) (.slice ad2 m cp2) m)
      exact J49 _
    ·intro vs W2 hR0 hF
     have hR:Keeps zA w5 W2:=((Keeps.refl zA w5).drew).zB hR0;have HRW:=Lib.hid hR;have HKW:Hid (Keeps zA wr W2):=K5.out.zB hR;have e1:vs 1=_:=hF 1 (by decide);obtain ⟨gs,ad2,cp2,e5,hgs,hys⟩:=(hF 5 (by decide):∃ b ad2 cp2,vs 5=.slice (some ⟨b,0,none⟩) 1 1 /\ zC W2 b [.slice ad2 m cp2] /\ zX W2 (Since w5.heap.size W2) (.slice ad2 m cp2) m);have HGS:=Lib.hid hgs;have HYS:=Lib.hid hys;simp only [zJ,List.getElem?_cons_zero,List.getElem?_cons_succ,Option.bind_some,Option.bind,Act.put,List.setIfInBounds_toArray,List.set_cons_zero,List.set_cons_succ,List.drop_succ_cons,List.drop_zero];rw [e1,e5];clear hF e1 e5;generalize vs 0=y0;generalize vs 2=y2;generalize vs 3=y3;generalize vs 4=y4;clear hR hR0 hgs hys HC;have HAW:Hid (Acc zEd (fun _=>False) B 1 93 W2 (.slice ga i gc) (rs.take i) css):=HA.out.zD zMa HKW.out;have HLEN:Hid ((rs.take i).length=i):=by show _=_;rw [List.length_take];have:=HRL.out;omega
     have RBW:Hid (zC W2 b3 [.slice a0 n0 c0, .slice a1 n1 c1, .slice a2 n2 c2, .slice ga i gc]):=RB.out.keeps HKW.out (fun h=>h);have hOB:Hid (∀ q,(Value.slice ga i gc).ownBlock=some q -> B <= q):=HA.out.2.2.1;have i3:i+1 <= 8:=by omega
     go_upto_region 10 with (at_builtin;refine zI _ (by rfl) _ _ 95 (by rfl) 0 93 j0 _ 1 24 Tryz.underlying95 hj0 hz0 hz1 hz2 rfl (by decide) (.slice ga i gc) i css.flatten (by rfl) (J176 _) (.slice (some ⟨gs,0,none⟩) 1 1) 1 [.slice ad2 m cp2] (by rfl) (zC.src HGS.out) rfl (J151 _) (by unfold maxLen;omega) (by omega) (Nat.zero_le _) ?_;intro da2 dc2 w4 ha;have HAO:=Lib.hid ha;have k4:=zi.keeps ha (Keeps.refl (fun q=>(Value.slice ga i gc).ownBlock=some q) W2) (fun q e _=>e);have r4:=RBW.out.keeps k4 (fun e=>by have:=hOB.out b3 e;have:=HBE.out;omega);have z3:=r4.cell (k:=3) (v:=.slice ga i gc) rfl;have f3:=r4.free (k:=3) (by simp);have R4W:=Lib.hid r4;have K4W:=Lib.hid k4;clear ha k4 r4)
     have hel:zEd W2 (zB6 (fun _=>False) B W2 (.slice ga i gc)) m [.slice ad2 m cp2]:=by
      refine ⟨ad2,cp2,rfl,HYS.out.mono (fun k hk=>.inr ⟨?_,hk.2,fun e=>?_⟩)⟩
      ·have h1:=hk.1;have h2:=K5.out.size;have h3:=HK.out.size;have h4:=HBE.out.1;omega
      ·have h0:k < wr.heap.size:=zS HA.out.2.1 e
       have h1:=hk.1;have h2:=K5.out.size;omega
     have hBW:B <= W2.heap.size:=J188 _;have hset:Keeps (fun q=>q=b3) w4 (w4.setCell ⟨b3,3,none⟩ (.slice da2 (i+1) dc2)):=(Keeps.refl (fun q=>q=b3) w4).setCell (p:=⟨b3,3,none⟩) (fun _=>rfl) _
     have hpush:Acc zEd (fun _=>False) B 1 93 (w4.setCell ⟨b3,3,none⟩ (.slice da2 (i+1) dc2)) (.slice da2 (i+1) dc2) (rs.take (i+1)) (css++[[.slice ad2 m cp2]]):=by
      have h1:=HAW.out.push zMa (fun k hk=>hk.elim) hBW hel (by decide) (ad:=da2) (cap:=dc2) (w':=w4) (J200 _);rw [HLEN.out] at h1;rw [HTK2.out];exact h1.keeps zMa hset (fun k hk=>⟨by have e':k=b3:=hk;have:=HBE.out;omega,fun h=>h⟩)
     have hrow:zC (w4.setCell ⟨b3,3,none⟩ (.slice da2 (i+1) dc2)) b3 [.slice a0 n0 c0, .slice a1 n1 c1, .slice a2 n2 c2, .slice da2 (i+1) dc2]:=R4W.out.set 3 (by simp) _
     have hkeep:Keeps (fun q=>q=b3) wX (w4.setCell ⟨b3,3,none⟩ (.slice da2 (i+1) dc2)) :=
      (((HK.out.trans HKW.out (fun _ _ h=>h.elim)).trans K4W.out (fun q hq e=>by exact J196 _)).trans hset (fun _ _ h=>h))
     have HPU:=Lib.hid hpush;have HRO:=Lib.hid hrow;have HKE:=Lib.hid hkeep;clear hpush hrow hkeep hset hel hBW z3 f3;go_wp2_with fail
     go_roundw
     case rel=>exact ⟨i+1,da2,dc2,css++[[.slice ad2 m cp2]],by omega,by go_num,HRO,HPU,HKE,HU3⟩
     case measure=>simp [intOf];omega
   ·obtain rfl:i=n2:=by omega
    have hA:=HA.out;have e:rs.take i=rs:=by rw [<- HRL.out,List.take_length]
    rw [e] at hA;have RGR:Hid (zDc wr (Since B wr) rs ga):=hA.rgs;clear hA HA e;have HKR:Hid (Keeps zA w wr):=KXw.out.trans HK.out (fun q hq e=>by have e':q=b3:=e;have:=HBE.out;omega);obtain ⟨y10,y11,y12⟩:=(R1X.out.keeps HK.out (fun e=>ne13.out e)).three;obtain ⟨y30,y31,y32,y33⟩:=RB.out.four
    have hreg:∀ b,b ∈ bs -> 0 <= b.regs /\ b.regs <= 8:=fun b hb=>by
     obtain ⟨j,hj,e⟩:=List.mem_iff_getElem.1 hb;rw [<- e];exact HU.out j hj (by have:=HNN.out;omega)
    have HRF:Hid (r=decide (zCy cs (zCC ⟨cs,mu,bs⟩ bs)=0)):=by show _=_;rw [HR.out];exact zLT HHD.out hreg
    obtain ⟨ts,hts⟩:=eX (zCC ⟨cs,mu,bs⟩ bs);have htl:ts.length=i:=by rw [hts];unfold zCC;rw [List.length_map,HNN.out.2.2]
    have HP:Hid (Calls Tryz.prog 44 #[.agg #[.slice uca n0 ucc, .int .i64 n1, .slice uta i utc], .agg #[.slice a0 n0 c0, .slice a1 n1 c1, .slice a2 i c2, .slice ga i gc]] wr fun e w'=>∃ pca pcc pma pmc pta ptc,e=.returned (.agg #[.slice pca n0 pcc, .slice pma n1 pmc, .slice pta i ptc]) /\ zBo w' (Since wr.heap.size w') cs pca /\ zX w' (Since wr.heap.size w') (.slice pma n1 pmc) n1 /\ zAP w' (Since wr.heap.size w') xNm ts pta /\ Keeps zA wr w'):=by
     have h1:=zG8 cs mu bs rs wr F (fun k=>TP k \/ Since B wr k) uca uta a0 a1 a2 ga ucc utc n0 n1 i c0 c1 c2 gc (CSX.out.keeps HK.out hFb.out) (BDX.out.keeps HK.out hFb.out) ((XN0.out.keeps HK.out hTb.out).mono (fun k h=>.inl h)) ((XN1.out.keeps HK.out hTb.out).mono (fun k h=>.inl h)) ((XN2.out.keeps HK.out hTb.out).mono (fun k h=>.inl h)) (RGR.out.mono (fun k h=>.inr h)) HNN.out.1 HNN.out.2.1.symm HNN.out.2.2 (by rw [HRL.out,HNN.out.2.2]) (fun j hj hj2=>by
      have h1:=HRS.out;subst h1;rw [List.getElem_map];have:=hreg _ (List.getElem_mem hj2)
      omega) (fun k hk=>by
      rcases hk with hk | hk
      ·rw [HTP.out] at hk;have:=hk.2.1;have:=HBE.out;have:=HK.out.size;omega
      ·exact hk.2) (fun k hk=>Nat.lt_of_lt_of_le (HFs.out k hk) HKR.out.size) (by have:=HBN.out;have:=HNN.out;omega) (by have:=HBN.out;omega) (by have:=HBN.out;have:=HNN.out;omega) (fun j hj=>by have:=zD5 (List.getElem_mem hj);have:=HSZ.out;omega)
     have hq:(bs.map fun b=>Ac.zQ ⟨cs,mu,bs⟩ b.regs b.acts)=ts:=by rw [hts];rfl
     rw [hq,<- HNN.out.1,<- HNN.out.2.2,HNN.out.2.1,HRL.out] at h1;exact h1
    have HT:Hid (∀ (W:World) (pca pma pta:Option Addr) (pcc pmc ptc:Nat),zBo W (Since wr.heap.size W) cs pca -> zX W (Since wr.heap.size W) (.slice pma n1 pmc) n1 -> zAP W (Since wr.heap.size W) xNm ts pta -> Calls Tryz.prog 43 #[.agg #[.slice pca n0 pcc, .slice pma n1 pmc, .slice pta i ptc]] W fun e w'=>e=.returned (.int .i64 (zCy cs ts)) /\ Keeps zA W w'):=by
     intro W pca pma pta pcc pmc ptc h0 h1 h2
     have h3:=zFs cs n1 ts W (Since wr.heap.size W) pca pma pta pcc pmc ptc h0 h1 h2 (by rw [hts];exact zHt _ _ HKD.out) (fun k hk=>hk.2) (by rw [hts,zJ8];exact HSZ.out) (by have:=HBN.out;have:=HNN.out;omega) (by have:=HBN.out;omega);rw [<- HNN.out.1,htl] at h3;exact h3
    rw [<- hts] at HRF;have hEr:∃ E,E=zCy cs ts /\ -1000 < E /\ E < 1000:=⟨_,rfl,by unfold zCy;split;decide;split;decide;split <;> decide,by unfold zCy;split;decide;split;decide;split <;> decide⟩
    obtain ⟨E,hE,hE1,hE2⟩:=hEr;rw [<- hE] at HRF HT;clear hE hts htl hreg;go_upto_region 11 with fail
    rcases (show E=0 \/ ¬ E=0 by omega) with hE0 | hE0
    ·obtain rfl:r=true:=by rw [HRF.out];simp [hE0]
     subst hE0;clear HRF
     go_wp2_with (first
      | (go_at_call 44;refine HP.out.mono ?_;rintro e w6 ⟨pca,pcc,pma,pmc,pta,ptc,rfl,p0,p1,p2,g6⟩;have P0:=Lib.hid p0;have P1:=Lib.hid p1;have P2:=Lib.hid p2;have G6:=Lib.hid g6;clear p0 p1 p2 g6)
      | (go_at_call 43;refine (HT.out _ _ _ _ _ _ _ P0.out P1.out P2.out).mono ?_;rintro e w7 ⟨rfl,g7⟩;have G7:=Lib.hid g7;clear g7))
     go_ret
     exact ⟨rfl,(HKR.out.zB G6.out).zB G7.out⟩
    ·obtain rfl:r=false:=by rw [HRF.out];simp [hE0]
     clear HRF
     go_wp2_with (first
      | (go_at_call 44;refine HP.out.mono ?_;rintro e w6 ⟨pca,pcc,pma,pmc,pta,ptc,rfl,p0,p1,p2,g6⟩;have P0:=Lib.hid p0;have P1:=Lib.hid p1;have P2:=Lib.hid p2;have G6:=Lib.hid g6;clear p0 p1 p2 g6)
      | (go_at_call 43;refine (HT.out _ _ _ _ _ _ _ P0.out P1.out P2.out).mono ?_;rintro e w7 ⟨rfl,g7⟩;have G7:=Lib.hid g7;clear g7))
     go_ret
     exact ⟨by simp [hE0],(HKR.out.zB G6.out).zB G7.out⟩
end Go.Proofs.YtoapgjjepiopbaaGreatDoor
