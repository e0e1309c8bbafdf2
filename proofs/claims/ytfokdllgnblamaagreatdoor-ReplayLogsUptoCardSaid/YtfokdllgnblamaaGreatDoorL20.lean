/- Layer L: texts joined. -/
import Derived.Test.YtfokdllgnblamaaGreatDoorL19
import Derived.Test.YtfokdllgnblamaaGreatDoorL15
set_option linter.all false
set_option maxHeartbeats 1000000
set_option maxRecDepth 8000
namespace Go.Proofs.YtfokdllgnblamaaGreatDoor
open Go.RowKit
theorem J26 (P:Prop) (h:P:=by
 clear HE hE1;subst hE;go_upto_region 3 with (go_at_call 109;refine (HA.out _ K1.out).mono ?_;rintro e w2 ⟨rfl,g2⟩;have r2:=R1.out.keeps g2 (fun h=>h);have K2:=yA (K1.out.zB g2);have R2:=yA r2;clear g2 r2 d0 d1 d2)
 obtain ⟨d0,d1,d2⟩:=R2.out.three;go_upto_region 5 with (go_at_call 110;refine (HD.out _ K2.out).mono ?_;rintro e w3 ⟨rfl,g3⟩;have r3:=R2.out.keeps g3 (fun h=>h);have K3:=yA (K2.out.zB g3);have R3:=yA r3;clear g3 r3 d0 d1 d2)
 obtain ⟨d0,d1,d2⟩:=R3.out.three;go_wp2_with (go_at_call 111;refine (HC.out _ K3.out).mono ?_;rintro e w4 ⟨rfl,g4⟩;have K4:=yA (K3.out.zB g4);clear g4)
 go_ret
 exact ⟨rfl,K4.out⟩):P:=h
theorem zKf (nm:ByteArray) (ts:List (List St)) (w:World) (F:Nat -> Prop) (pca pma ta:Option Addr) (pcn pcc pmn pmc tc c:Nat) (b:Nat) (h:zAe w F nm ts ta) (hF:¬ F c) (hc:zC w c [(.int .i64 b)]) (hb:zBg ts < 900000000) (hbb:b+zBg ts < 1000000000) :
 Calls Tryz.prog 131 #[.agg #[.func (.func 134) #[] #[.pointer (some ⟨c,0,none⟩)], .func (.func 135) #[] #[.pointer (some ⟨c,0,none⟩)]], .agg #[.slice pca pcn pcc, .slice pma pmn pmc, .slice ta ts.length tc]] w fun e w'=>e=.returned (.tuple #[]) /\ zC w' c [(.int .i64 ((b+zAM ts):Nat))] /\ Keeps (fun q=>q=c) w w':=by
 have HL:=yA h;have HF:=yA hF;have HCR:=yA hc;have HBB:=yA hbb;have hl:ts.length <= 1000000000:=by have:=h.len;omega
 have HB:=yA hb;obtain ⟨tot,ht⟩:∃ t:Nat,t=(b+zAM ts):=⟨_,rfl⟩
 have HT0:=yA ht;rw [<- ht];have hlt0:=hc.lt (by simp);have hlt:=yA hlt0;clear h hF hc hb ht hlt0 hbb;go_enter Tryz.func131,Tryz.ntmps131
 go_upto_region 1 with fail
 obtain ⟨b3,hb3⟩:∃ z,z=w.heap.size:=⟨_,rfl⟩
 obtain ⟨b4,hb4⟩:∃ z,z=w.heap.size+1:=⟨_,rfl⟩
 have hr3:zC ((w.alloc (.cells #[.func (.func 134) #[] #[.pointer (some ⟨c,0,none⟩)], .func (.func 135) #[] #[.pointer (some ⟨c,0,none⟩)]] 217)).alloc (.cells #[.slice pca pcn pcc, .slice pma pmn pmc, .slice ta ts.length tc] 150)) b3 [.func (.func 134) #[] #[.pointer (some ⟨c,0,none⟩)], .func (.func 135) #[] #[.pointer (some ⟨c,0,none⟩)]]:=J161 _;have hr4:zC ((w.alloc (.cells #[.func (.func 134) #[] #[.pointer (some ⟨c,0,none⟩)], .func (.func 135) #[] #[.pointer (some ⟨c,0,none⟩)]] 217)).alloc (.cells #[.slice pca pcn pcc, .slice pma pmn pmc, .slice ta ts.length tc] 150)) b4 [.slice pca pcn pcc, .slice pma pmn pmc, .slice ta ts.length tc]:=J172 _;have hk1:Keeps zA w ((w.alloc (.cells #[.func (.func 134) #[] #[.pointer (some ⟨c,0,none⟩)], .func (.func 135) #[] #[.pointer (some ⟨c,0,none⟩)]] 217)).alloc (.cells #[.slice pca pcn pcc, .slice pma pmn pmc, .slice ta ts.length tc] 150)):=((yB _ _).alloc _).alloc _;rw [<- hb4,<- hb3];generalize (w.alloc (.cells #[.func (.func 134) #[] #[.pointer (some ⟨c,0,none⟩)], .func (.func 135) #[] #[.pointer (some ⟨c,0,none⟩)]] 217)).alloc (.cells #[.slice pca pcn pcc, .slice pma pmn pmc, .slice ta ts.length tc] 150)=w1 at hr3 hr4 hk1 ⊢;have HNE:Hid (b3 ≠ c):=by show _ ≠ _;have:=hlt.out;omega
 have R3:=yA hr3;have K1:=yA hk1;have RC:Hid (zC w1 c [(.int .i64 b)]):=HCR.out.keeps hk1 (fun h=>h);have HLC:Hid (c < w1.heap.size):=RC.out.lt (by simp);obtain ⟨d0,d1,d2⟩:=hr4.three;clear hr3 hr4 hk1 hb3 hb4 HCR;go_wp2_with fail
 clear d0 d1 d2;go_loopw [9] (fun iv wr=>∃ (i:Nat) (v:Nat),i <= ts.length /\ iv=.int .i64 i /\ Hid (zC wr c [(.int .i64 v)]) /\ Hid ((v+zAM (ts.drop i))=tot) /\ Hid (Keeps (fun q=>q=c) w1 wr)) (fun iv _=>ts.length - (intOf iv).toNat)
 case atStart=>exact ⟨0,b,yH _,rfl,RC,by show _=_;rw [yQ];exact HT0.out.symm,yB _ _⟩
 case round =>
  obtain ⟨i,v,hi,rfl,HV,HD,HK⟩:=hrel;by_cases hlt:i < ts.length
  ·have i1:(0:Int) <= i:=by omega
   have i2:(i:Int) < ts.length:=by omega
   have hd:=HD.out;rw [drop_at hlt] at hd;simp only [zAM] at hd;have hFc:∀ q,F q -> ¬ (fun q=>q=c) q:=fun q hq e=>HF.out (J169 _)
   obtain ⟨g,o,ba,bc,e1,hg,d0,d1,hx⟩:=((HL.out.keeps K1.out (fun _ _ h=>h):zAe w1 F nm ts ta).keeps HK.out hFc).at hlt;subst e1;have hsz:=zDM (yL hlt);have hB:=HB.out;obtain ⟨v1,hv1⟩:∃ v1:Nat,v1=(v+St.zY ts[i]):=⟨_,rfl⟩
   have hBB:=HBB.out;have hT0:=HT0.out;have hroom:=zLQ i ts;rw [drop_at hlt] at hroom;simp only [zBg,zAM] at hroom;have hv:v+St.szL ts[i] < 1000000000:=by omega
   have HS:Hid (∀ W,Keeps zA wr W -> Calls Tryz.prog 143 #[.agg #[.func (.func 134) #[] #[.pointer (some ⟨c,0,none⟩)], .func (.func 135) #[] #[.pointer (some ⟨c,0,none⟩)]], .slice ba ts[i].length bc, .int .i64 1] W fun e w'=>e=.returned (.tuple #[]) /\ zC w' c [(.int .i64 v1)] /\ Keeps (fun q=>q=c) W w'):=by
    rw [hv1];exact fun W hk=>zNz ts[i] W F ba bc c 1 v (hx.keeps hk (fun _ _ h=>h)) HF.out (HV.out.keeps hk (fun h=>h)) (by omega) hv
   have HDN:Hid ((v1+zAM (ts.drop (i+1)))=tot):=by
    show _=_
    rw [hv1];omega
   clear hx hFc hd hsz hB hv1 hBB hT0 hv hroom;generalize ts[i].length=x1 at d1 HS;go_upto_region 4 with fail
   obtain ⟨b7,hb7⟩:∃ z,z=wr.heap.size:=⟨_,rfl⟩
   have hr7:zC (wr.alloc (.cells #[.string nm, .slice ba x1 bc] 155)) b7 [.string nm, .slice ba x1 bc]:=J156 _;have hk7:Keeps zA wr (wr.alloc (.cells #[.string nm, .slice ba x1 bc] 155)):=(yB _ _).alloc _;rw [<- hb7];generalize wr.alloc (.cells #[.string nm, .slice ba x1 bc] 155)=w7 at hr7 hk7 ⊢;have y1:=hr7.cell (k:=1) (v:=.slice ba x1 bc) rfl;have r3:=(R3.out.keeps HK.out (fun e=>HNE.out e)).keeps hk7 (fun h=>h);have q0:=r3.cell (k:=0) (v:=.func (.func 134) #[] #[.pointer (some ⟨c,0,none⟩)]) rfl;have q1:=r3.cell (k:=1) (v:=.func (.func 135) #[] #[.pointer (some ⟨c,0,none⟩)]) rfl;exact J24 _
  ·obtain rfl:i=ts.length:=by omega
   have hd:=HD.out;rw [xI] at hd;simp only [zAM] at hd;exact J131 _
theorem zF7 (nm:ByteArray) (ts:List (List St)) (w:World) (F:Nat -> Prop) (pca pma ta:Option Addr) (pcn pcc pmn pmc tc:Nat) (h:zAe w F nm ts ta) (hF:∀ k,F k -> k < w.heap.size) (hb:zBg ts < 900000000) :
 Calls Tryz.prog 111 #[.agg #[.slice pca pcn pcc, .slice pma pmn pmc, .slice ta ts.length tc]] w fun e w'=>e=.returned (.int .i64 (zAM ts:Nat)) /\ Keeps zA w w':=by
 have hmf:∀ (fn:Fn) (first cap:Array Value) (w:World),(Instr.makeFunc fn first cap).run Tryz.prog w=.ok (.func fn first cap) w:=fun _ _ _ _=>rfl
 have HL:=yA h;have HF:=yA hF;have HB:=yA hb;obtain ⟨r,hr⟩:∃ r:Nat,r=zAM ts:=⟨_,rfl⟩
 have HR:=yA hr;rw [<- hr];obtain ⟨n,hn⟩:∃ n,n=ts.length:=⟨_,rfl⟩
 have HNL:=yA hn;rw [<- hn];clear h hF hb hr hn;go_enter Tryz.func111,Tryz.ntmps111
 go_upto_region 2 with fail
 obtain ⟨b1,hb1⟩:∃ z,z=w.heap.size:=⟨_,rfl⟩
 obtain ⟨c,hc⟩:∃ z,z=w.heap.size+1:=⟨_,rfl⟩
 have hr1:zC ((w.alloc (.cells #[.slice pca pcn pcc, .slice pma pmn pmc, .slice ta n tc] 150)).alloc (.cells #[.int .i64 0] 3)) b1 [.slice pca pcn pcc, .slice pma pmn pmc, .slice ta n tc]:=J152 _;have hrc:zC ((w.alloc (.cells #[.slice pca pcn pcc, .slice pma pmn pmc, .slice ta n tc] 150)).alloc (.cells #[.int .i64 0] 3)) c [.int .i64 (0:Nat)]:=J212 _;have hk1:Keeps zA w ((w.alloc (.cells #[.slice pca pcn pcc, .slice pma pmn pmc, .slice ta n tc] 150)).alloc (.cells #[.int .i64 0] 3)):=((yB _ _).alloc _).alloc _;have HCW:Hid (w.heap.size <= c):=by show _ <= _;omega
 rw [<- hc,<- hb1];generalize (w.alloc (.cells #[.slice pca pcn pcc, .slice pma pmn pmc, .slice ta n tc] 150)).alloc (.cells #[.int .i64 0] 3)=w1 at hr1 hrc hk1 ⊢;obtain ⟨d0,d1,d2⟩:=hr1.three
 have HP:Hid (Calls Tryz.prog 131 #[.agg #[.func (.func 134) #[] #[.pointer (some ⟨c,0,none⟩)], .func (.func 135) #[] #[.pointer (some ⟨c,0,none⟩)]], .agg #[.slice pca pcn pcc, .slice pma pmn pmc, .slice ta n tc]] w1 fun e w'=>e=.returned (.tuple #[]) /\ zC w' c [.int .i64 r] /\ Keeps (fun q=>q=c) w1 w'):=by
  have h1:=zKf nm ts w1 F pca pma ta pcn pcc pmn pmc tc c 0 (HL.out.keeps hk1 (fun _ _ h=>h)) (fun h=>by have:=HF.out c h;have:=HCW.out;omega) hrc HB.out (by have:=HB.out;omega);rw [HNL.out,HR.out];have e:0+zAM ts=zAM ts:=by omega
  rw [e] at h1;exact h1
 have K1:=yA hk1;clear hr1 hrc hk1 hc hb1;go_upto_region 3 with (go_at_call 131;refine HP.out.mono ?_;rintro e w2 ⟨rfl,r2,g2⟩;have cc:=r2.cell (k:=0) (v:=.int .i64 r) rfl;have G2:=yA g2;clear r2 g2)
 clear d0 d1 d2;go_wp2_with fail
 go_ret
 exact ⟨rfl,K1.out.trans G2.out (fun q hq e=>by exact J192 _)⟩
def zDG (cs:List Int) (ts:List (List St)):Int :=
 if (cs.all zCL&&zAn ts)=false then 30 else if 16 < zAB ts then 31 else if 500 < zAM ts then 32 else 0
theorem zIq (cs:List Int) (ts:List (List St)):(zDG cs ts=0) ↔ ((cs.all zCL&&zAn ts)=true /\ zAB ts <= 16 /\ zAM ts <= 500):=by
 unfold zDG;cases h:(cs.all zCL&&zAn ts)
 ·simp
 ·by_cases h1:16 < zAB ts
  ·simp [h1] <;> omega
  ·by_cases h2:500 < zAM ts
   ·simp [h1,h2] <;> omega
   ·simp [h1,h2] <;> omega
theorem zGA (cs:List Int) (mn:Nat) (ts:List (List St)) (w:World) (F:Nat -> Prop) (ca ma ta:Option Addr) (cc mc tc:Nat) (hcl:zCJ w F cs ca) (hms:zZ w F (.slice ma mn mc) mn) (h:zAe w F xNm ts ta) (hnn:zDB ts) (hF:∀ k,F k -> k < w.heap.size) (hb:zBg ts < 900000000) (hcs:cs.length <= 1000) (hmn:mn <= 1000) :
 Calls Tryz.prog 94 #[.agg #[.slice ca cs.length cc, .slice ma mn mc, .slice ta ts.length tc]] w fun e w'=>e=.returned (.int .i64 (zDG cs ts)) /\ Keeps zA w w':=by
 have HA:Hid (∀ W,Keeps zA w W -> Calls Tryz.prog 109 #[.agg #[.slice ca cs.length cc, .slice ma mn mc, .slice ta ts.length tc]] W fun e w'=>e=.returned (.bool (cs.all zCL&&zAn ts)) /\ Keeps zA W w') :=
  fun W hk=>zGj cs mn ts W F ca ma ta cc mc tc (hcl.keeps hk (fun _ _ h=>h)) (hms.keeps hk (fun _ _ h=>h)) (h.keeps hk (fun _ _ h=>h)) hnn (fun q hq=>yI (hF q hq) hk.size) hb hcs hmn
 have HD:Hid (∀ W,Keeps zA w W -> Calls Tryz.prog 110 #[.agg #[.slice ca cs.length cc, .slice ma mn mc, .slice ta ts.length tc]] W fun e w'=>e=.returned (.int .i64 (zAB ts:Nat)) /\ Keeps zA W w') :=
  fun W hk=>zG7 xNm ts W F ca ma ta cs.length cc mn mc tc (h.keeps hk (fun _ _ h=>h)) (fun q hq=>yI (hF q hq) hk.size) hb
 have HC:Hid (∀ W,Keeps zA w W -> Calls Tryz.prog 111 #[.agg #[.slice ca cs.length cc, .slice ma mn mc, .slice ta ts.length tc]] W fun e w'=>e=.returned (.int .i64 (zAM ts:Nat)) /\ Keeps zA W w') :=
  fun W hk=>zF7 xNm ts W F ca ma ta cs.length cc mn mc tc (h.keeps hk (fun _ _ h=>h)) (fun q hq=>yI (hF q hq) hk.size) hb
 have hb1:=zE3 ts;have hb2:=zH1 ts;have HE:Hid (zDG cs ts=if (cs.all zCL&&zAn ts)=false then 30 else if 16 < zAB ts then 31 else if 500 < zAM ts then 32 else 0):=rfl;generalize zDG cs ts=E at HE ⊢;generalize (cs.all zCL&&zAn ts)=A at HA HE;obtain ⟨D,hD⟩:∃ D,D=zAB ts:=⟨_,rfl⟩
 obtain ⟨C,hC⟩:∃ C,C=zAM ts:=⟨_,rfl⟩
 rw [<- hD] at HD HE hb1;rw [<- hC] at HC HE hb2;have q1:D < 1000000000:=by omega
 have q2:C < 1000000000:=by omega
 clear h hcl hms hF hb hnn hb1 hb2 hcs hmn hD hC;generalize cs.length=n1 at HA HD HC ⊢;generalize ts.length=n3 at HA HD HC ⊢;go_enter Tryz.func94,Tryz.ntmps94
 go_upto_region 1 with fail
 obtain ⟨b1,hb1⟩:∃ z,z=w.heap.size:=⟨_,rfl⟩
 have hr1:zC (w.alloc (.cells #[.slice ca n1 cc, .slice ma mn mc, .slice ta n3 tc] 150)) b1 [.slice ca n1 cc, .slice ma mn mc, .slice ta n3 tc]:=J151 _;have hk1:Keeps zA w (w.alloc (.cells #[.slice ca n1 cc, .slice ma mn mc, .slice ta n3 tc] 150)):=(yB _ _).alloc _;rw [<- hb1];generalize w.alloc (.cells #[.slice ca n1 cc, .slice ma mn mc, .slice ta n3 tc] 150)=w1 at hr1 hk1 ⊢;obtain ⟨d0,d1,d2⟩:=hr1.three;have R1:=yA hr1;have K1:=yA hk1;clear hr1 hk1 hb1;cases A
 ·have hE:E=30:=by rw [HE.out];rfl
  clear HE;subst hE;go_wp2_with (go_at_call 109;refine (HA.out _ K1.out).mono ?_;rintro e w2 ⟨rfl,g2⟩;have G2:=yA g2;clear g2)
  go_ret
  exact ⟨rfl,K1.out.zB G2.out⟩
 ·have hE1:E=if 16 < D then 31 else if 500 < C then 32 else 0:=by rw [HE.out];rfl
  rcases xL 16 D with h1 | h1
  ·have hE:E=31:=by rw [hE1,if_pos h1]
   have h1i:(16:Int) < D:=by omega
   clear HE hE1;subst hE;go_upto_region 3 with (go_at_call 109;refine (HA.out _ K1.out).mono ?_;rintro e w2 ⟨rfl,g2⟩;have r2:=R1.out.keeps g2 (fun h=>h);have K2:=yA (K1.out.zB g2);have R2:=yA r2;clear g2 r2 d0 d1 d2)
   obtain ⟨d0,d1,d2⟩:=R2.out.three;go_wp2_with (go_at_call 110;refine (HD.out _ K2.out).mono ?_;rintro e w3 ⟨rfl,g3⟩;have K3:=yA (K2.out.zB g3);clear g3)
   go_ret
   exact ⟨rfl,K3.out⟩
  ·have h1':¬ 16 < D:=by omega
   have h1i:¬ (16:Int) < D:=by omega
   rcases xL 500 C with h2 | h2
   ·have hE:E=32:=by rw [hE1,if_neg h1',if_pos h2]
    have h2i:(500:Int) < C:=by omega
    exact J26 _
   ·have h2':¬ 500 < C:=by omega
    have h2i:¬ (500:Int) < C:=by omega
    have hE:E=0:=by rw [hE1,if_neg h1',if_neg h2']
    exact J26 _
def zCU (u:Un) (bs:List Bd):List (List St):=bs.map fun b=>Ac.zO u b.regs b.acts
theorem zIg (u:Un) (bs:List Bd):zAn (zCU u bs)=bs.all fun b=>Ac.zAC u b.regs b.acts:=by
 induction bs with
 | nil=>rfl
 | cons b r ih =>
   have ih':zAn (r.map fun b=>Ac.zO u b.regs b.acts)=r.all fun b=>Ac.zAC u b.regs b.acts:=ih
   simp only [zCU,uQ,zAn,List.all_cons,Ac.zCi,ih']
theorem zIH (u:Un) (bs:List Bd):zAB (zCU u bs)=(bs.map fun b=>Ac.zm 1 b.acts).foldr max 0:=by
 induction bs with
 | nil=>rfl
 | cons b r ih =>
   have ih':zAB (r.map fun b=>Ac.zO u b.regs b.acts)=(r.map fun b=>Ac.zm 1 b.acts).foldr max 0:=ih;simp only [zCU,uQ,zAB,List.foldr_cons,Ac.zCg,ih']
theorem zJy (u:Un) (bs:List Bd):zAM (zCU u bs)=(bs.map fun b=>Ac.zY b.acts).foldr (·+·) 0:=by
 induction bs with
 | nil=>rfl
 | cons b r ih =>
   have ih':zAM (r.map fun b=>Ac.zO u b.regs b.acts)=(r.map fun b=>Ac.zY b.acts).foldr (·+·) 0:=ih;simp only [zCU,uQ,zAM,List.foldr_cons,Ac.zBj,ih']
def zD4 (u:Un):Prop:=1 <= u.threads.length /\ u.threads.length <= 8 /\ u.cells.length <= 8 /\ 0 <= u.mutexes /\ u.mutexes <= 8
theorem zEu {u:Un} (h:¬ zD4 u):zV u=false:=by
 unfold zV;by_cases h1:1 <= u.threads.length
 ·by_cases h2:u.threads.length <= 8
  ·by_cases h3:u.cells.length <= 8
   ·by_cases h4:0 <= u.mutexes
    ·by_cases h5:u.mutexes <= 8
     ·exact absurd ⟨h1,h2,h3,h4,h5⟩ h
     ·simp [h5]
    ·simp [h4]
   ·simp [h3]
  ·simp [h2]
 ·simp [h1]
theorem zGf {u:Un} {b:Bd} (hb:b ∈ u.threads) (h:¬ (0 <= b.regs /\ b.regs <= 8)):zV u=false:=by
 have h1:(u.threads.all fun b=>decide (0 <= b.regs)&&decide (b.regs <= 8)&&Ac.zAC u b.regs b.acts)=false:=by
  rw [Bool.eq_false_iff];intro e
  have:=yZ.1 e b hb
  simp only [yR,yS] at this;exact h this.1
 unfold zV;rw [h1];simp
theorem zLN {u:Un} (h:zD4 u) (hr:∀ b,b ∈ u.threads -> 0 <= b.regs /\ b.regs <= 8):zV u=decide (zDG u.cells (zCU u u.threads)=0):=by
 have h1:(u.threads.all fun b=>decide (0 <= b.regs)&&decide (b.regs <= 8)&&Ac.zAC u b.regs b.acts)=u.threads.all fun b=>Ac.zAC u b.regs b.acts:=by
  rw [Bool.eq_iff_iff,yZ,yZ];constructor
  ·intro e b hb
   have:=e b hb
   simp only [yR,yS] at this;exact this.2
  ·intro e b hb
   have:=hr b hb
   simp only [yR,yS];exact ⟨this,e b hb⟩
 have h2:decide (zDG u.cells (zCU u u.threads)=0)=(u.cells.all zCL&&(u.threads.all fun b=>Ac.zAC u b.regs b.acts)&&decide ((u.threads.map fun b=>Ac.zm 1 b.acts).foldr max 0 <= 16)&&decide ((u.threads.map fun b=>Ac.zY b.acts).foldr (·+·) 0 <= 500)):=by
  rw [Bool.eq_iff_iff,<- zIg u,<- zIH u,<- zJy u];simp only [yS,yR,zIq];constructor
  ·rintro ⟨a,b,c⟩;exact ⟨⟨a,b⟩,c⟩
  ·rintro ⟨⟨a,b⟩,c⟩;exact ⟨a,b,c⟩
 rw [h2];unfold zV;rw [h1];simp [h.1,h.2.1,h.2.2.1,h.2.2.2.1,h.2.2.2.2]
mutual
theorem Ac.zKv (u:Un) (regs:Int):(x:Ac) -> (x.named u regs).sz=x.sz
 | .mk k reg obj ex count t e=>by
   have h1:=Ac.zDe u regs t;have h2:=Ac.zDe u regs e;simp only [Ac.named,St.sz,Ac.sz,h1,h2,Ex.zCs]
theorem Ac.zDe (u:Un) (regs:Int):(l:List Ac) -> St.szL (Ac.zO u regs l)=Ac.szL l
 | []=>rfl
 | x :: r=>by
   have h1:=Ac.zKv u regs x;have h2:=Ac.zDe u regs r;simp only [Ac.zO,St.szL,Ac.szL,h1,h2]
end
def zAi:List Bd -> Nat
 | []=>0
 | b :: r=>1+Ac.szL b.acts+zAi r
theorem zDI {bs:List Bd} {b:Bd} (h:b ∈ bs):Ac.szL b.acts < zAi bs:=by
 induction bs with
 | nil=>cases h
 | cons x r ih =>
   simp only [zAi];rcases xU.1 h with e | e
   ·subst e;omega
   ·have:=ih e;omega
theorem zKn (u:Un) (bs:List Bd):zBg (zCU u bs)=zAi bs:=by
 induction bs with
 | nil=>rfl
 | cons b r ih =>
   have ih':zBg (r.map fun b=>Ac.zO u b.regs b.acts)=zAi r:=ih;simp only [zCU,uQ,zBg,zAi,Ac.zDe,ih']
theorem zII (u:Un) (bs:List Bd) (h:∀ b,b ∈ bs -> Ac.zBi b.acts):zDB (zCU u bs):=by
 induction bs with
 | nil=>trivial
 | cons b r ih =>
   have ih':zDB (r.map fun b=>Ac.zO u b.regs b.acts):=ih (fun b hb=>h b (vJ _ hb));simp only [zCU,uQ,zDB];exact ⟨Ac.zBH u b.regs b.acts (h b (vW ..)),ih'⟩
def zE6:zA0 Nat:=fun w F n cs=>∃ ra rc,cs=[.slice ra n rc] /\ zZ w F (.slice ra n rc) n
theorem zMZ:zAN zE6 1:=⟨fun h hk hS=>by exact J197 _,fun h hF=>by exact J202 _,fun h=>by obtain ⟨ba,bc,e,h1⟩:=h;rw [e];rfl⟩
theorem Acc.rgs {w:World} {B n cap:Nat} {ty:TypeId} {ad:Option Addr} {rs:List Nat} {css:List (List Value)} (h:Acc zE6 (fun _=>False) B 1 ty w (.slice ad n cap) rs css):zDw w (Since B w) rs ad:=by
 obtain ⟨h1,h2⟩:=h.elems zMZ (ad:=ad) (n:=n) (cap:=cap) rfl;intro i hi
 obtain ⟨g,o,e,hg,hl,hc⟩:=h1 i hi;obtain ⟨ba,bc,hR',hs⟩:=h2 i rs[i] (yJ hi);have hc0:=hc 0 (.slice ba rs[i] bc) (by show (css.getD i [])[_]?=_;rw [hR'];rfl);have hm:∀ k,(False \/ (B <= k /\ k < w.heap.size)) -> Since B w k:=fun k hk=>hk.elim False.elim (fun h=>h)
 rw [Nat.mul_one,Nat.add_zero] at hc0;exact ⟨g,o,ba,bc,e,hm g hg,hc0,hs.mono hm⟩
theorem zH4:(Tryz.prog.info? 147).map (fun i=>(i.zero,i.size,i.bytes))=some (some (.slice none 0 0),1,24):=by kernel_rfl
theorem zDw.mono {F F':Nat -> Prop} {w:World} {rs:List Nat} {ad:Option Addr} (h:zDw w F rs ad) (hF:∀ k,F k -> F' k):zDw w F' rs ad:=by
 intro i hi
 obtain ⟨g,o,ra,rc,e,hg,c0,h1⟩:=h i hi;exact ⟨g,o,ra,rc,e,hF g hg,c0,h1.mono hF⟩
end Go.Proofs.YtfokdllgnblamaaGreatDoor
