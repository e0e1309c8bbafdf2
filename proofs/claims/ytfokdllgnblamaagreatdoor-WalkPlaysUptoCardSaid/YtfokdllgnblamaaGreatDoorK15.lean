/- Layer K: texts joined. -/
import Derived.Test.YtfokdllgnblamaaGreatDoorK14
set_option linter.all false
set_option maxHeartbeats 1000000
set_option maxRecDepth 8000
namespace Go.Proofs.YtfokdllgnblamaaGreatDoor
open Go.RowKit
theorem J31 (P:Prop) (h:P:=by
 clear HE hE1;subst hE;go_upto_region 3 with (go_at_call 109;refine (HA.out _ K1.out).mono ?_;rintro e w2 ⟨rfl,g2⟩;have r2:=R1.out.keeps g2 (fun h=>h);have K2:=yB (K1.out.zB g2);have R2:=yB r2;clear g2 r2 d0 d1 d2)
 obtain ⟨d0,d1,d2⟩:=R2.out.three;go_upto_region 5 with (go_at_call 110;refine (HD.out _ K2.out).mono ?_;rintro e w3 ⟨rfl,g3⟩;have r3:=R2.out.keeps g3 (fun h=>h);have K3:=yB (K2.out.zB g3);have R3:=yB r3;clear g3 r3 d0 d1 d2)
 obtain ⟨d0,d1,d2⟩:=R3.out.three;go_wp2_with (go_at_call 111;refine (HC.out _ K3.out).mono ?_;rintro e w4 ⟨rfl,g4⟩;have K4:=yB (K3.out.zB g4);clear g4)
 go_ret
 exact ⟨rfl,K4.out⟩):P:=h
theorem zKd (nm:ByteArray) (ts:List (List St)) (w:World) (F:Nat -> Prop) (pca pma ta:Option Addr) (pcn pcc pmn pmc tc c:Nat) (b:Nat) (h:zAw w F nm ts ta) (hF:¬ F c) (hc:zC w c [(.int .i64 b)]) (hb:zBj ts < 900000000) (hbb:b+zBj ts < 1000000000) :
 Calls Tryz.prog 131 #[.agg #[.func (.func 134) #[] #[.pointer (some ⟨c,0,none⟩)], .func (.func 135) #[] #[.pointer (some ⟨c,0,none⟩)]], .agg #[.slice pca pcn pcc, .slice pma pmn pmc, .slice ta ts.length tc]] w fun e w'=>e=.returned (.tuple #[]) /\ zC w' c [(.int .i64 ((b+zAb ts):Nat))] /\ Keeps (fun q=>q=c) w w':=by
 have HL:=yB h;have HF:=yB hF;have HCR:=yB hc;have HBB:=yB hbb;have hl:ts.length <= 1000000000:=by have:=h.len;omega
 have HB:=yB hb;obtain ⟨tot,ht⟩:=eX (α:=Nat) ((b+zAb ts));have HT0:=yB ht;rw [<- ht];have hlt0:=hc.lt (by simp);have hlt:=yB hlt0;clear h hF hc hb ht hlt0 hbb;go_enter Tryz.func131,Tryz.ntmps131
 go_upto_region 1 with fail
 obtain ⟨b3,hb3⟩:=eX w.heap.size;obtain ⟨b4,hb4⟩:=eX (w.heap.size+1);have hr3:zC ((w.alloc (.cells #[.func (.func 134) #[] #[.pointer (some ⟨c,0,none⟩)], .func (.func 135) #[] #[.pointer (some ⟨c,0,none⟩)]] 217)).alloc (.cells #[.slice pca pcn pcc, .slice pma pmn pmc, .slice ta ts.length tc] 150)) b3 [.func (.func 134) #[] #[.pointer (some ⟨c,0,none⟩)], .func (.func 135) #[] #[.pointer (some ⟨c,0,none⟩)]]:=J198 _;have hr4:zC ((w.alloc (.cells #[.func (.func 134) #[] #[.pointer (some ⟨c,0,none⟩)], .func (.func 135) #[] #[.pointer (some ⟨c,0,none⟩)]] 217)).alloc (.cells #[.slice pca pcn pcc, .slice pma pmn pmc, .slice ta ts.length tc] 150)) b4 [.slice pca pcn pcc, .slice pma pmn pmc, .slice ta ts.length tc]:=J205 _;have hk1:Keeps zA w ((w.alloc (.cells #[.func (.func 134) #[] #[.pointer (some ⟨c,0,none⟩)], .func (.func 135) #[] #[.pointer (some ⟨c,0,none⟩)]] 217)).alloc (.cells #[.slice pca pcn pcc, .slice pma pmn pmc, .slice ta ts.length tc] 150)):=((yC _ _).alloc _).alloc _;rw [<- hb4,<- hb3];generalize (w.alloc (.cells #[.func (.func 134) #[] #[.pointer (some ⟨c,0,none⟩)], .func (.func 135) #[] #[.pointer (some ⟨c,0,none⟩)]] 217)).alloc (.cells #[.slice pca pcn pcc, .slice pma pmn pmc, .slice ta ts.length tc] 150)=w1 at hr3 hr4 hk1 ⊢;have HNE:Hid (b3 ≠ c):=by show _ ≠ _;have:=hlt.out;omega
 have R3:=yB hr3;have K1:=yB hk1;have RC:Hid (zC w1 c [(.int .i64 b)]):=HCR.out.keeps hk1 (fun h=>h);have HLC:Hid (c < w1.heap.size):=RC.out.lt (by simp);obtain ⟨d0,d1,d2⟩:=hr4.three;clear hr3 hr4 hk1 hb3 hb4 HCR;go_wp2_with fail
 clear d0 d1 d2;go_loopw [9] (fun iv wr=>∃ (i:Nat) (v:Nat),i <= ts.length /\ iv=.int .i64 i /\ Hid (zC wr c [(.int .i64 v)]) /\ Hid ((v+zAb (ts.drop i))=tot) /\ Hid (Keeps (fun q=>q=c) w1 wr)) (fun iv _=>ts.length - (intOf iv).toNat)
 case atStart=>exact ⟨0,b,yJ _,rfl,RC,by show _=_;rw [yR];exact HT0.out.symm,yC _ _⟩
 case round =>
  obtain ⟨i,v,hi,rfl,HV,HD,HK⟩:=hrel;by_cases hlt:i < ts.length
  ·have i1:(0:Int) <= i:=by omega
   have i2:(i:Int) < ts.length:=by omega
   have hd:=HD.out;rw [drop_at hlt] at hd;simp only [zAb] at hd;have hFc:∀ q,F q -> ¬ (fun q=>q=c) q:=fun q hq e=>HF.out (J203 _)
   obtain ⟨g,o,ba,bc,e1,hg,d0,d1,hx⟩:=((HL.out.keeps K1.out (fun _ _ h=>h):zAw w1 F nm ts ta).keeps HK.out hFc).at hlt;subst e1;have hsz:=zDk (yM hlt);have hB:=HB.out;obtain ⟨v1,hv1⟩:=eX (α:=Nat) ((v+St.zW ts[i]));have hBB:=HBB.out;have hT0:=HT0.out;have hroom:=zLA i ts;rw [drop_at hlt] at hroom;simp only [zBj,zAb] at hroom;have hv:v+St.szL ts[i] < 1000000000:=by omega
   have HS:Hid (∀ W,Keeps zA wr W -> Calls Tryz.prog 143 #[.agg #[.func (.func 134) #[] #[.pointer (some ⟨c,0,none⟩)], .func (.func 135) #[] #[.pointer (some ⟨c,0,none⟩)]], .slice ba ts[i].length bc, .int .i64 1] W fun e w'=>e=.returned (.tuple #[]) /\ zC w' c [(.int .i64 v1)] /\ Keeps (fun q=>q=c) W w'):=by
    rw [hv1];exact fun W hk=>zOa ts[i] W F ba bc c 1 v (hx.keeps hk (fun _ _ h=>h)) HF.out (HV.out.keeps hk (fun h=>h)) (by omega) hv
   have HDN:Hid ((v1+zAb (ts.drop (i+1)))=tot):=by
    show _=_
    rw [hv1];omega
   clear hx hFc hd hsz hB hv1 hBB hT0 hv hroom;generalize ts[i].length=x1 at d1 HS;go_upto_region 4 with fail
   obtain ⟨b7,hb7⟩:=eX wr.heap.size;have hr7:zC (wr.alloc (.cells #[.string nm, .slice ba x1 bc] 155)) b7 [.string nm, .slice ba x1 bc]:=J191 _;have hk7:Keeps zA wr (wr.alloc (.cells #[.string nm, .slice ba x1 bc] 155)):=(yC _ _).alloc _;rw [<- hb7];generalize wr.alloc (.cells #[.string nm, .slice ba x1 bc] 155)=w7 at hr7 hk7 ⊢;have y1:=hr7.cell (k:=1) (v:=.slice ba x1 bc) rfl;have r3:=(R3.out.keeps HK.out (fun e=>HNE.out e)).keeps hk7 (fun h=>h);have q0:=r3.cell (k:=0) (v:=.func (.func 134) #[] #[.pointer (some ⟨c,0,none⟩)]) rfl;have q1:=r3.cell (k:=1) (v:=.func (.func 135) #[] #[.pointer (some ⟨c,0,none⟩)]) rfl;exact J28 _
  ·obtain rfl:i=ts.length:=by omega
   have hd:=HD.out;rw [xO] at hd;simp only [zAb] at hd;exact J166 _
theorem zGP (nm:ByteArray) (ts:List (List St)) (w:World) (F:Nat -> Prop) (pca pma ta:Option Addr) (pcn pcc pmn pmc tc:Nat) (h:zAw w F nm ts ta) (hF:∀ k,F k -> k < w.heap.size) (hb:zBj ts < 900000000) :
 Calls Tryz.prog 111 #[.agg #[.slice pca pcn pcc, .slice pma pmn pmc, .slice ta ts.length tc]] w fun e w'=>e=.returned (.int .i64 (zAb ts:Nat)) /\ Keeps zA w w':=by
 have hmf:∀ (fn:Fn) (first cap:Array Value) (w:World),(Instr.makeFunc fn first cap).run Tryz.prog w=.ok (.func fn first cap) w:=fun _ _ _ _=>rfl
 have HL:=yB h;have HF:=yB hF;have HB:=yB hb;obtain ⟨r,hr⟩:=eX (α:=Nat) (zAb ts);have HR:=yB hr;rw [<- hr];obtain ⟨n,hn⟩:=eX ts.length;have HNL:=yB hn;rw [<- hn];clear h hF hb hr hn;go_enter Tryz.func111,Tryz.ntmps111
 go_upto_region 2 with fail
 obtain ⟨b1,hb1⟩:=eX w.heap.size;obtain ⟨c,hc⟩:=eX (w.heap.size+1);have hr1:zC ((w.alloc (.cells #[.slice pca pcn pcc, .slice pma pmn pmc, .slice ta n tc] 150)).alloc (.cells #[.int .i64 0] 3)) b1 [.slice pca pcn pcc, .slice pma pmn pmc, .slice ta n tc]:=J187 _;have hrc:zC ((w.alloc (.cells #[.slice pca pcn pcc, .slice pma pmn pmc, .slice ta n tc] 150)).alloc (.cells #[.int .i64 0] 3)) c [.int .i64 (0:Nat)]:=J256 _;have hk1:Keeps zA w ((w.alloc (.cells #[.slice pca pcn pcc, .slice pma pmn pmc, .slice ta n tc] 150)).alloc (.cells #[.int .i64 0] 3)):=((yC _ _).alloc _).alloc _;have HCW:Hid (w.heap.size <= c):=by show _ <= _;omega
 rw [<- hc,<- hb1];generalize (w.alloc (.cells #[.slice pca pcn pcc, .slice pma pmn pmc, .slice ta n tc] 150)).alloc (.cells #[.int .i64 0] 3)=w1 at hr1 hrc hk1 ⊢;obtain ⟨d0,d1,d2⟩:=hr1.three
 have HP:Hid (Calls Tryz.prog 131 #[.agg #[.func (.func 134) #[] #[.pointer (some ⟨c,0,none⟩)], .func (.func 135) #[] #[.pointer (some ⟨c,0,none⟩)]], .agg #[.slice pca pcn pcc, .slice pma pmn pmc, .slice ta n tc]] w1 fun e w'=>e=.returned (.tuple #[]) /\ zC w' c [.int .i64 r] /\ Keeps (fun q=>q=c) w1 w'):=by
  have h1:=zKd nm ts w1 F pca pma ta pcn pcc pmn pmc tc c 0 (HL.out.keeps hk1 (fun _ _ h=>h)) (fun h=>by have:=HF.out c h;have:=HCW.out;omega) hrc HB.out (by have:=HB.out;omega);rw [HNL.out,HR.out];have e:0+zAb ts=zAb ts:=by omega
  rw [e] at h1;exact h1
 have K1:=yB hk1;clear hr1 hrc hk1 hc hb1;go_upto_region 3 with (go_at_call 131;refine HP.out.mono ?_;rintro e w2 ⟨rfl,r2,g2⟩;have cc:=r2.cell (k:=0) (v:=.int .i64 r) rfl;have G2:=yB g2;clear r2 g2)
 clear d0 d1 d2;go_wp2_with fail
 go_ret
 exact ⟨rfl,K1.out.trans G2.out (fun q hq e=>by exact J231 _)⟩
def zDZ (cs:List Int) (ts:List (List St)):Int :=
 if (cs.all zCT&&zA0 ts)=false then 30 else if 16 < zAJ ts then 31 else if 500 < zAb ts then 32 else 0
theorem zJK (cs:List Int) (ts:List (List St)):(zDZ cs ts=0) ↔ ((cs.all zCT&&zA0 ts)=true /\ zAJ ts <= 16 /\ zAb ts <= 500):=by
 unfold zDZ;cases h:(cs.all zCT&&zA0 ts)
 ·simp
 ·by_cases h1:16 < zAJ ts
  ·simp [h1] <;> omega
  ·by_cases h2:500 < zAb ts
   ·simp [h1,h2] <;> omega
   ·simp [h1,h2] <;> omega
theorem zGR (cs:List Int) (mn:Nat) (ts:List (List St)) (w:World) (F:Nat -> Prop) (ca ma ta:Option Addr) (cc mc tc:Nat) (hcl:zCQ w F cs ca) (hms:zh w F (.slice ma mn mc) mn) (h:zAw w F xNm ts ta) (hnn:zDN ts) (hF:∀ k,F k -> k < w.heap.size) (hb:zBj ts < 900000000) (hcs:cs.length <= 1000) (hmn:mn <= 1000) :
 Calls Tryz.prog 94 #[.agg #[.slice ca cs.length cc, .slice ma mn mc, .slice ta ts.length tc]] w fun e w'=>e=.returned (.int .i64 (zDZ cs ts)) /\ Keeps zA w w':=by
 have HA:Hid (∀ W,Keeps zA w W -> Calls Tryz.prog 109 #[.agg #[.slice ca cs.length cc, .slice ma mn mc, .slice ta ts.length tc]] W fun e w'=>e=.returned (.bool (cs.all zCT&&zA0 ts)) /\ Keeps zA W w') :=
  fun W hk=>zHW cs mn ts W F ca ma ta cc mc tc (hcl.keeps hk (fun _ _ h=>h)) (hms.keeps hk (fun _ _ h=>h)) (h.keeps hk (fun _ _ h=>h)) hnn (fun q hq=>yI (hF q hq) hk.size) hb hcs hmn
 have HD:Hid (∀ W,Keeps zA w W -> Calls Tryz.prog 110 #[.agg #[.slice ca cs.length cc, .slice ma mn mc, .slice ta ts.length tc]] W fun e w'=>e=.returned (.int .i64 (zAJ ts:Nat)) /\ Keeps zA W w') :=
  fun W hk=>zHO xNm ts W F ca ma ta cs.length cc mn mc tc (h.keeps hk (fun _ _ h=>h)) (fun q hq=>yI (hF q hq) hk.size) hb
 have HC:Hid (∀ W,Keeps zA w W -> Calls Tryz.prog 111 #[.agg #[.slice ca cs.length cc, .slice ma mn mc, .slice ta ts.length tc]] W fun e w'=>e=.returned (.int .i64 (zAb ts:Nat)) /\ Keeps zA W w') :=
  fun W hk=>zGP xNm ts W F ca ma ta cs.length cc mn mc tc (h.keeps hk (fun _ _ h=>h)) (fun q hq=>yI (hF q hq) hk.size) hb
 have hb1:=zFC ts;have hb2:=zIK ts;have HE:Hid (zDZ cs ts=if (cs.all zCT&&zA0 ts)=false then 30 else if 16 < zAJ ts then 31 else if 500 < zAb ts then 32 else 0):=rfl;generalize zDZ cs ts=E at HE ⊢;generalize (cs.all zCT&&zA0 ts)=A at HA HE;obtain ⟨D,hD⟩:=eX (zAJ ts);obtain ⟨C,hC⟩:=eX (zAb ts);rw [<- hD] at HD HE hb1;rw [<- hC] at HC HE hb2;have q1:D < 1000000000:=by omega
 have q2:C < 1000000000:=by omega
 clear h hcl hms hF hb hnn hb1 hb2 hcs hmn hD hC;generalize cs.length=n1 at HA HD HC ⊢;generalize ts.length=n3 at HA HD HC ⊢;go_enter Tryz.func94,Tryz.ntmps94
 go_upto_region 1 with fail
 obtain ⟨b1,hb1⟩:=eX w.heap.size;have hr1:zC (w.alloc (.cells #[.slice ca n1 cc, .slice ma mn mc, .slice ta n3 tc] 150)) b1 [.slice ca n1 cc, .slice ma mn mc, .slice ta n3 tc]:=J186 _;have hk1:Keeps zA w (w.alloc (.cells #[.slice ca n1 cc, .slice ma mn mc, .slice ta n3 tc] 150)):=(yC _ _).alloc _;rw [<- hb1];generalize w.alloc (.cells #[.slice ca n1 cc, .slice ma mn mc, .slice ta n3 tc] 150)=w1 at hr1 hk1 ⊢;obtain ⟨d0,d1,d2⟩:=hr1.three;have R1:=yB hr1;have K1:=yB hk1;clear hr1 hk1 hb1;cases A
 ·have hE:E=30:=by rw [HE.out];rfl
  clear HE;subst hE;go_wp2_with (go_at_call 109;refine (HA.out _ K1.out).mono ?_;rintro e w2 ⟨rfl,g2⟩;have G2:=yB g2;clear g2)
  go_ret
  exact ⟨rfl,K1.out.zB G2.out⟩
 ·have hE1:E=if 16 < D then 31 else if 500 < C then 32 else 0:=by rw [HE.out];rfl
  rcases xR 16 D with h1 | h1
  ·have hE:E=31:=by rw [hE1,if_pos h1]
   have h1i:(16:Int) < D:=by omega
   clear HE hE1;subst hE;go_upto_region 3 with (go_at_call 109;refine (HA.out _ K1.out).mono ?_;rintro e w2 ⟨rfl,g2⟩;have r2:=R1.out.keeps g2 (fun h=>h);have K2:=yB (K1.out.zB g2);have R2:=yB r2;clear g2 r2 d0 d1 d2)
   obtain ⟨d0,d1,d2⟩:=R2.out.three;go_wp2_with (go_at_call 110;refine (HD.out _ K2.out).mono ?_;rintro e w3 ⟨rfl,g3⟩;have K3:=yB (K2.out.zB g3);clear g3)
   go_ret
   exact ⟨rfl,K3.out⟩
  ·have h1':¬ 16 < D:=by omega
   have h1i:¬ (16:Int) < D:=by omega
   rcases xR 500 C with h2 | h2
   ·have hE:E=32:=by rw [hE1,if_neg h1',if_pos h2]
    have h2i:(500:Int) < C:=by omega
    exact J31 _
   ·have h2':¬ 500 < C:=by omega
    have h2i:¬ (500:Int) < C:=by omega
    have hE:E=0:=by rw [hE1,if_neg h1',if_neg h2']
    exact J31 _
def zCc (u:Un) (bs:List Bd):List (List St):=bs.map fun b=>Ac.zT u b.regs b.acts
theorem zIv (u:Un) (bs:List Bd):zA0 (zCc u bs)=bs.all fun b=>Ac.zAM u b.regs b.acts:=by
 induction bs with
 | nil=>rfl
 | cons b r ih =>
   have ih':zA0 (r.map fun b=>Ac.zT u b.regs b.acts)=r.all fun b=>Ac.zAM u b.regs b.acts:=ih
   simp only [zCc,uZ,zA0,List.all_cons,Ac.zCo,ih']
theorem zJL (u:Un) (bs:List Bd):zAJ (zCc u bs)=(bs.map fun b=>Ac.zw 1 b.acts).foldr max 0:=by
 induction bs with
 | nil=>rfl
 | cons b r ih =>
   have ih':zAJ (r.map fun b=>Ac.zT u b.regs b.acts)=(r.map fun b=>Ac.zw 1 b.acts).foldr max 0:=ih;simp only [zCc,uZ,zAJ,List.foldr_cons,Ac.zCr,ih']
theorem zKJ (u:Un) (bs:List Bd):zAb (zCc u bs)=(bs.map fun b=>Ac.zW b.acts).foldr (·+·) 0:=by
 induction bs with
 | nil=>rfl
 | cons b r ih =>
   have ih':zAb (r.map fun b=>Ac.zT u b.regs b.acts)=(r.map fun b=>Ac.zW b.acts).foldr (·+·) 0:=ih;simp only [zCc,uZ,zAb,List.foldr_cons,Ac.zBm,ih']
def zEF (u:Un):Prop:=1 <= u.threads.length /\ u.threads.length <= 8 /\ u.cells.length <= 8 /\ 0 <= u.mutexes /\ u.mutexes <= 8
theorem zFG {u:Un} (h:¬ zEF u):zX u=false:=by
 unfold zX;by_cases h1:1 <= u.threads.length
 ·by_cases h2:u.threads.length <= 8
  ·by_cases h3:u.cells.length <= 8
   ·by_cases h4:0 <= u.mutexes
    ·by_cases h5:u.mutexes <= 8
     ·exact absurd ⟨h1,h2,h3,h4,h5⟩ h
     ·simp [h5]
    ·simp [h4]
   ·simp [h3]
  ·simp [h2]
 ·simp [h1]
theorem zGb {u:Un} {b:Bd} (hb:b ∈ u.threads) (h:¬ (0 <= b.regs /\ b.regs <= 8)):zX u=false:=by
 have h1:(u.threads.all fun b=>decide (0 <= b.regs)&&decide (b.regs <= 8)&&Ac.zAM u b.regs b.acts)=false:=by
  rw [Bool.eq_false_iff];intro e
  have:=xI.1 e b hb
  simp only [yT,yU] at this;exact h this.1
 unfold zX;rw [h1];simp
theorem zML {u:Un} (h:zEF u) (hr:∀ b,b ∈ u.threads -> 0 <= b.regs /\ b.regs <= 8):zX u=decide (zDZ u.cells (zCc u u.threads)=0):=by
 have h1:(u.threads.all fun b=>decide (0 <= b.regs)&&decide (b.regs <= 8)&&Ac.zAM u b.regs b.acts)=u.threads.all fun b=>Ac.zAM u b.regs b.acts:=by
  rw [Bool.eq_iff_iff,xI,xI];constructor
  ·intro e b hb
   have:=e b hb
   simp only [yT,yU] at this;exact this.2
  ·intro e b hb
   have:=hr b hb
   simp only [yT,yU];exact ⟨this,e b hb⟩
 have h2:decide (zDZ u.cells (zCc u u.threads)=0)=(u.cells.all zCT&&(u.threads.all fun b=>Ac.zAM u b.regs b.acts)&&decide ((u.threads.map fun b=>Ac.zw 1 b.acts).foldr max 0 <= 16)&&decide ((u.threads.map fun b=>Ac.zW b.acts).foldr (·+·) 0 <= 500)):=by
  rw [Bool.eq_iff_iff,<- zIv u,<- zJL u,<- zKJ u];simp only [yU,yT,zJK];constructor
  ·rintro ⟨a,b,c⟩;exact ⟨⟨a,b⟩,c⟩
  ·rintro ⟨⟨a,b⟩,c⟩;exact ⟨a,b,c⟩
 rw [h2];unfold zX;rw [h1];simp [h.1,h.2.1,h.2.2.1,h.2.2.2.1,h.2.2.2.2]
mutual
theorem Ac.zMG (u:Un) (regs:Int):(x:Ac) -> (x.named u regs).sz=x.sz
 | .mk k reg obj ex count t e=>by
   have h1:=Ac.zD3 u regs t;have h2:=Ac.zD3 u regs e;simp only [Ac.named,St.sz,Ac.sz,h1,h2,Ex.zDB]
theorem Ac.zD3 (u:Un) (regs:Int):(l:List Ac) -> St.szL (Ac.zT u regs l)=Ac.szL l
 | []=>rfl
 | x :: r=>by
   have h1:=Ac.zMG u regs x;have h2:=Ac.zD3 u regs r;simp only [Ac.zT,St.szL,Ac.szL,h1,h2]
end
def zAy:List Bd -> Nat
 | []=>0
 | b :: r=>1+Ac.szL b.acts+zAy r
theorem zC9 {bs:List Bd} {b:Bd} (h:b ∈ bs):Ac.szL b.acts < zAy bs:=by
 induction bs with
 | nil=>cases h
 | cons x r ih =>
   simp only [zAy];rcases xX.1 h with e | e
   ·subst e;omega
   ·have:=ih e;omega
theorem zMa (u:Un) (bs:List Bd):zBj (zCc u bs)=zAy bs:=by
 induction bs with
 | nil=>rfl
 | cons b r ih =>
   have ih':zBj (r.map fun b=>Ac.zT u b.regs b.acts)=zAy r:=ih;simp only [zCc,uZ,zBj,zAy,Ac.zD3,ih']
theorem zJO (u:Un) (bs:List Bd) (h:∀ b,b ∈ bs -> Ac.zBl b.acts):zDN (zCc u bs):=by
 induction bs with
 | nil=>trivial
 | cons b r ih =>
   have ih':zDN (r.map fun b=>Ac.zT u b.regs b.acts):=ih (fun b hb=>h b (uS _ hb));simp only [zCc,uZ,zDN];exact ⟨Ac.zBO u b.regs b.acts (h b (uR ..)),ih'⟩
def zE8:zBA Nat:=fun w F n cs=>∃ ra rc,cs=[.slice ra n rc] /\ zh w F (.slice ra n rc) n
theorem zMt:zAX zE8 1:=⟨fun h hk hS=>by exact J236 _,fun h hF=>by exact J240 _,fun h=>by obtain ⟨ba,bc,e,h1⟩:=h;rw [e];rfl⟩
theorem Acc.rgs {w:World} {B n cap:Nat} {ty:TypeId} {ad:Option Addr} {rs:List Nat} {css:List (List Value)} (h:Acc zE8 (fun _=>False) B 1 ty w (.slice ad n cap) rs css):zEA w (Since B w) rs ad:=by
 obtain ⟨h1,h2⟩:=h.elems zMt (ad:=ad) (n:=n) (cap:=cap) rfl;intro i hi
 obtain ⟨g,o,e,hg,hl,hc⟩:=h1 i hi;obtain ⟨ba,bc,hR',hs⟩:=h2 i rs[i] (yQ hi);have hc0:=hc 0 (.slice ba rs[i] bc) (by show (css.getD i [])[_]?=_;rw [hR'];rfl);have hm:∀ k,(False \/ (B <= k /\ k < w.heap.size)) -> Since B w k:=fun k hk=>hk.elim False.elim (fun h=>h)
 rw [vZ,vF] at hc0;exact ⟨g,o,ba,bc,e,hm g hg,hc0,hs.mono hm⟩
theorem zHy:(Tryz.prog.info? 147).map (fun i=>(i.zero,i.size,i.bytes))=some (some (.slice none 0 0),1,24):=by kernel_rfl
theorem zEA.mono {F F':Nat -> Prop} {w:World} {rs:List Nat} {ad:Option Addr} (h:zEA w F rs ad) (hF:∀ k,F k -> F' k):zEA w F' rs ad:=by
 intro i hi
 obtain ⟨g,o,ra,rc,e,hg,c0,h1⟩:=h i hi;exact ⟨g,o,ra,rc,e,hF g hg,c0,h1.mono hF⟩
end Go.Proofs.YtfokdllgnblamaaGreatDoor
