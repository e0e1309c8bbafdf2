/- Layer N: texts joined. -/
import Derived.Test.YtoapgjjepiopbaaGreatDoorN20
set_option linter.all false
set_option maxHeartbeats 1000000
set_option maxRecDepth 8000
namespace Go.Proofs.YtoapgjjepiopbaaGreatDoor
open Go.RowKit
theorem J24 (P:Prop) (h:P:=by
 clear HE hE1;subst hE;go_upto_region 3 with (go_at_call 83;refine (HA.out _ K1.out).mono ?_;rintro e w2 ⟨rfl,g2⟩;have r2:=R1.out.keeps g2 (fun h=>h);have K2:=Lib.hid (K1.out.zB g2);have R2:=Lib.hid r2;clear g2 r2 d0 d1 d2)
 obtain ⟨d0,d1,d2⟩:=R2.out.three;go_upto_region 5 with (go_at_call 84;refine (HD.out _ K2.out).mono ?_;rintro e w3 ⟨rfl,g3⟩;have r3:=R2.out.keeps g3 (fun h=>h);have K3:=Lib.hid (K2.out.zB g3);have R3:=Lib.hid r3;clear g3 r3 d0 d1 d2)
 obtain ⟨d0,d1,d2⟩:=R3.out.three;go_wp2_with (go_at_call 85;refine (HC.out _ K3.out).mono ?_;rintro e w4 ⟨rfl,g4⟩;have K4:=Lib.hid (K3.out.zB g4);clear g4)
 go_ret
 exact ⟨rfl,K4.out⟩):P:=h
theorem zJr (nm:ByteArray) (ts:List (List St)) (w:World) (F:Nat -> Prop) (pca pma ta:Option Addr) (pcn pcc pmn pmc tc c:Nat) (b:Nat) (h:zAP w F nm ts ta) (hF:¬ F c) (hc:zC w c [(.int .i64 b)]) (hb:zBC ts < 900000000) (hbb:b+zBC ts < 1000000000) :
 Calls Tryz.prog 138 #[.agg #[.func (.func 141) #[] #[.pointer (some ⟨c,0,none⟩)], .func (.func 142) #[] #[.pointer (some ⟨c,0,none⟩)]], .agg #[.slice pca pcn pcc, .slice pma pmn pmc, .slice ta ts.length tc]] w fun e w'=>e=.returned (.tuple #[]) /\ zC w' c [(.int .i64 ((b+zAH ts):Nat))] /\ Keeps (fun q=>q=c) w w':=by
 have HL:=Lib.hid h;have HF:=Lib.hid hF;have HCR:=Lib.hid hc;have HBB:=Lib.hid hbb;have hl:ts.length <= 1000000000:=by have:=h.len;omega
 have HB:=Lib.hid hb;obtain ⟨tot,ht⟩:=eX (α:=Nat) ((b+zAH ts));have HT0:=Lib.hid ht;rw [<- ht];have hlt0:=hc.lt (by simp);have hlt:=Lib.hid hlt0;clear h hF hc hb ht hlt0 hbb;go_enter Tryz.func138,Tryz.ntmps138
 go_upto_region 1 with fail
 obtain ⟨b3,hb3⟩:=eX w.heap.size;obtain ⟨b4,hb4⟩:=eX (w.heap.size+1);have hr3:zC ((w.alloc (.cells #[.func (.func 141) #[] #[.pointer (some ⟨c,0,none⟩)], .func (.func 142) #[] #[.pointer (some ⟨c,0,none⟩)]] 234)).alloc (.cells #[.slice pca pcn pcc, .slice pma pmn pmc, .slice ta ts.length tc] 102)) b3 [.func (.func 141) #[] #[.pointer (some ⟨c,0,none⟩)], .func (.func 142) #[] #[.pointer (some ⟨c,0,none⟩)]]:=J164 _;have hr4:zC ((w.alloc (.cells #[.func (.func 141) #[] #[.pointer (some ⟨c,0,none⟩)], .func (.func 142) #[] #[.pointer (some ⟨c,0,none⟩)]] 234)).alloc (.cells #[.slice pca pcn pcc, .slice pma pmn pmc, .slice ta ts.length tc] 102)) b4 [.slice pca pcn pcc, .slice pma pmn pmc, .slice ta ts.length tc]:=J171 _;have hk1:Keeps zA w ((w.alloc (.cells #[.func (.func 141) #[] #[.pointer (some ⟨c,0,none⟩)], .func (.func 142) #[] #[.pointer (some ⟨c,0,none⟩)]] 234)).alloc (.cells #[.slice pca pcn pcc, .slice pma pmn pmc, .slice ta ts.length tc] 102)):=((Keeps.refl _ _).alloc _).alloc _;rw [<- hb4,<- hb3];generalize (w.alloc (.cells #[.func (.func 141) #[] #[.pointer (some ⟨c,0,none⟩)], .func (.func 142) #[] #[.pointer (some ⟨c,0,none⟩)]] 234)).alloc (.cells #[.slice pca pcn pcc, .slice pma pmn pmc, .slice ta ts.length tc] 102)=w1 at hr3 hr4 hk1 ⊢;have HNE:Hid (b3 ≠ c):=by show _ ≠ _;have:=hlt.out;omega
 have R3:=Lib.hid hr3;have K1:=Lib.hid hk1;have RC:Hid (zC w1 c [(.int .i64 b)]):=HCR.out.keeps hk1 (fun h=>h);have HLC:Hid (c < w1.heap.size):=RC.out.lt (by simp);obtain ⟨d0,d1,d2⟩:=hr4.three;clear hr3 hr4 hk1 hb3 hb4 HCR;go_wp2_with fail
 clear d0 d1 d2;go_loopw [9] (fun iv wr=>∃ (i:Nat) (v:Nat),i <= ts.length /\ iv=.int .i64 i /\ Hid (zC wr c [(.int .i64 v)]) /\ Hid ((v+zAH (ts.drop i))=tot) /\ Hid (Keeps (fun q=>q=c) w1 wr)) (fun iv _=>ts.length - (intOf iv).toNat)
 case atStart=>exact ⟨0,b,Nat.zero_le _,rfl,RC,by show _=_;rw [List.drop_zero];exact HT0.out.symm,Keeps.refl _ _⟩
 case round =>
  obtain ⟨i,v,hi,rfl,HV,HD,HK⟩:=hrel;by_cases hlt:i < ts.length
  ·have i1:(0:Int) <= i:=by omega
   have i2:(i:Int) < ts.length:=by omega
   have hd:=HD.out;rw [drop_at hlt] at hd;simp only [zAH] at hd;have hFc:∀ q,F q -> ¬ (fun q=>q=c) q:=fun q hq e=>HF.out (J170 _)
   obtain ⟨g,o,ba,bc,e1,hg,d0,d1,hx⟩:=((HL.out.keeps K1.out (fun _ _ h=>h):zAP w1 F nm ts ta).keeps HK.out hFc).at hlt;subst e1;have hsz:=zC4 (List.getElem_mem hlt);have hB:=HB.out;obtain ⟨v1,hv1⟩:=eX (α:=Nat) ((v+St.zM ts[i]));have hBB:=HBB.out;have hT0:=HT0.out;have hroom:=zKn i ts;rw [drop_at hlt] at hroom;simp only [zBC,zAH] at hroom;have hv:v+St.szL ts[i] < 1000000000:=by omega
   have HS:Hid (∀ W,Keeps zA wr W -> Calls Tryz.prog 191 #[.agg #[.func (.func 141) #[] #[.pointer (some ⟨c,0,none⟩)], .func (.func 142) #[] #[.pointer (some ⟨c,0,none⟩)]], .slice ba ts[i].length bc, .int .i64 1] W fun e w'=>e=.returned (.tuple #[]) /\ zC w' c [(.int .i64 v1)] /\ Keeps (fun q=>q=c) W w'):=by
    rw [hv1];exact fun W hk=>zNv ts[i] W F ba bc c 1 v (hx.keeps hk (fun _ _ h=>h)) HF.out (HV.out.keeps hk (fun h=>h)) (by omega) hv
   have HDN:Hid ((v1+zAH (ts.drop (i+1)))=tot):=by
    show _=_
    rw [hv1];omega
   clear hx hFc hd hsz hB hv1 hBB hT0 hv hroom;generalize ts[i].length=x1 at d1 HS;go_upto_region 4 with fail
   obtain ⟨b7,hb7⟩:=eX wr.heap.size;have hr7:zC (wr.alloc (.cells #[.string nm, .slice ba x1 bc] 111)) b7 [.string nm, .slice ba x1 bc]:=J157 _;have hk7:Keeps zA wr (wr.alloc (.cells #[.string nm, .slice ba x1 bc] 111)):=(Keeps.refl _ _).alloc _;rw [<- hb7];generalize wr.alloc (.cells #[.string nm, .slice ba x1 bc] 111)=w7 at hr7 hk7 ⊢;have y1:=hr7.cell (k:=1) (v:=.slice ba x1 bc) rfl;have r3:=(R3.out.keeps HK.out (fun e=>HNE.out e)).keeps hk7 (fun h=>h);have q0:=r3.cell (k:=0) (v:=.func (.func 141) #[] #[.pointer (some ⟨c,0,none⟩)]) rfl;have q1:=r3.cell (k:=1) (v:=.func (.func 142) #[] #[.pointer (some ⟨c,0,none⟩)]) rfl;exact J23 _
  ·obtain rfl:i=ts.length:=by omega
   have hd:=HD.out;rw [List.drop_length] at hd;simp only [zAH] at hd;exact J129 _
theorem zFi (nm:ByteArray) (ts:List (List St)) (w:World) (F:Nat -> Prop) (pca pma ta:Option Addr) (pcn pcc pmn pmc tc:Nat) (h:zAP w F nm ts ta) (hF:∀ k,F k -> k < w.heap.size) (hb:zBC ts < 900000000) :
 Calls Tryz.prog 85 #[.agg #[.slice pca pcn pcc, .slice pma pmn pmc, .slice ta ts.length tc]] w fun e w'=>e=.returned (.int .i64 (zAH ts:Nat)) /\ Keeps zA w w':=by
 have hmf:∀ (fn:Fn) (first cap:Array Value) (w:World),(Instr.makeFunc fn first cap).run Tryz.prog w=.ok (.func fn first cap) w:=fun _ _ _ _=>rfl
 have HL:=Lib.hid h;have HF:=Lib.hid hF;have HB:=Lib.hid hb;obtain ⟨r,hr⟩:=eX (α:=Nat) (zAH ts);have HR:=Lib.hid hr;rw [<- hr];obtain ⟨n,hn⟩:=eX ts.length;have HNL:=Lib.hid hn;rw [<- hn];clear h hF hb hr hn;go_enter Tryz.func85,Tryz.ntmps85
 go_upto_region 2 with fail
 obtain ⟨b1,hb1⟩:=eX w.heap.size;obtain ⟨c,hc⟩:=eX (w.heap.size+1);have hr1:zC ((w.alloc (.cells #[.slice pca pcn pcc, .slice pma pmn pmc, .slice ta n tc] 102)).alloc (.cells #[.int .i64 0] 3)) b1 [.slice pca pcn pcc, .slice pma pmn pmc, .slice ta n tc]:=J153 _;have hrc:zC ((w.alloc (.cells #[.slice pca pcn pcc, .slice pma pmn pmc, .slice ta n tc] 102)).alloc (.cells #[.int .i64 0] 3)) c [.int .i64 (0:Nat)]:=J210 _;have hk1:Keeps zA w ((w.alloc (.cells #[.slice pca pcn pcc, .slice pma pmn pmc, .slice ta n tc] 102)).alloc (.cells #[.int .i64 0] 3)):=((Keeps.refl _ _).alloc _).alloc _;have HCW:Hid (w.heap.size <= c):=by show _ <= _;omega
 rw [<- hc,<- hb1];generalize (w.alloc (.cells #[.slice pca pcn pcc, .slice pma pmn pmc, .slice ta n tc] 102)).alloc (.cells #[.int .i64 0] 3)=w1 at hr1 hrc hk1 ⊢;obtain ⟨d0,d1,d2⟩:=hr1.three
 have HP:Hid (Calls Tryz.prog 138 #[.agg #[.func (.func 141) #[] #[.pointer (some ⟨c,0,none⟩)], .func (.func 142) #[] #[.pointer (some ⟨c,0,none⟩)]], .agg #[.slice pca pcn pcc, .slice pma pmn pmc, .slice ta n tc]] w1 fun e w'=>e=.returned (.tuple #[]) /\ zC w' c [.int .i64 r] /\ Keeps (fun q=>q=c) w1 w'):=by
  have h1:=zJr nm ts w1 F pca pma ta pcn pcc pmn pmc tc c 0 (HL.out.keeps hk1 (fun _ _ h=>h)) (fun h=>by have:=HF.out c h;have:=HCW.out;omega) hrc HB.out (by have:=HB.out;omega);rw [HNL.out,HR.out];have e:0+zAH ts=zAH ts:=by omega
  rw [e] at h1;exact h1
 have K1:=Lib.hid hk1;clear hr1 hrc hk1 hc hb1;go_upto_region 3 with (go_at_call 138;refine HP.out.mono ?_;rintro e w2 ⟨rfl,r2,g2⟩;have cc:=r2.cell (k:=0) (v:=.int .i64 r) rfl;have G2:=Lib.hid g2;clear r2 g2)
 clear d0 d1 d2;go_wp2_with fail
 go_ret
 exact ⟨rfl,K1.out.trans G2.out (fun q hq e=>by exact J187 _)⟩
def zCy (cs:List Int) (ts:List (List St)):Int :=
 if (cs.all zBr&&zAT ts)=false then 30 else if 16 < zy ts then 31 else if 500 < zAH ts then 32 else 0
theorem zH0 (cs:List Int) (ts:List (List St)):(zCy cs ts=0) ↔ ((cs.all zBr&&zAT ts)=true /\ zy ts <= 16 /\ zAH ts <= 500):=by
 unfold zCy;cases h:(cs.all zBr&&zAT ts)
 ·simp
 ·by_cases h1:16 < zy ts
  ·simp [h1] <;> omega
  ·by_cases h2:500 < zAH ts
   ·simp [h1,h2] <;> omega
   ·simp [h1,h2] <;> omega
theorem zFs (cs:List Int) (mn:Nat) (ts:List (List St)) (w:World) (F:Nat -> Prop) (ca ma ta:Option Addr) (cc mc tc:Nat) (hcl:zBo w F cs ca) (hms:zX w F (.slice ma mn mc) mn) (h:zAP w F xNm ts ta) (hnn:zCn ts) (hF:∀ k,F k -> k < w.heap.size) (hb:zBC ts < 900000000) (hcs:cs.length <= 1000) (hmn:mn <= 1000) :
 Calls Tryz.prog 43 #[.agg #[.slice ca cs.length cc, .slice ma mn mc, .slice ta ts.length tc]] w fun e w'=>e=.returned (.int .i64 (zCy cs ts)) /\ Keeps zA w w':=by
 have HA:Hid (∀ W,Keeps zA w W -> Calls Tryz.prog 83 #[.agg #[.slice ca cs.length cc, .slice ma mn mc, .slice ta ts.length tc]] W fun e w'=>e=.returned (.bool (cs.all zBr&&zAT ts)) /\ Keeps zA W w') :=
  fun W hk=>zGx cs mn ts W F ca ma ta cc mc tc (hcl.keeps hk (fun _ _ h=>h)) (hms.keeps hk (fun _ _ h=>h)) (h.keeps hk (fun _ _ h=>h)) hnn (fun q hq=>Nat.lt_of_lt_of_le (hF q hq) hk.size) hb hcs hmn
 have HD:Hid (∀ W,Keeps zA w W -> Calls Tryz.prog 84 #[.agg #[.slice ca cs.length cc, .slice ma mn mc, .slice ta ts.length tc]] W fun e w'=>e=.returned (.int .i64 (zy ts:Nat)) /\ Keeps zA W w') :=
  fun W hk=>zGd xNm ts W F ca ma ta cs.length cc mn mc tc (h.keeps hk (fun _ _ h=>h)) (fun q hq=>Nat.lt_of_lt_of_le (hF q hq) hk.size) hb
 have HC:Hid (∀ W,Keeps zA w W -> Calls Tryz.prog 85 #[.agg #[.slice ca cs.length cc, .slice ma mn mc, .slice ta ts.length tc]] W fun e w'=>e=.returned (.int .i64 (zAH ts:Nat)) /\ Keeps zA W w') :=
  fun W hk=>zFi xNm ts W F ca ma ta cs.length cc mn mc tc (h.keeps hk (fun _ _ h=>h)) (fun q hq=>Nat.lt_of_lt_of_le (hF q hq) hk.size) hb
 have hb1:=zER ts;have hb2:=zHl ts;have HE:Hid (zCy cs ts=if (cs.all zBr&&zAT ts)=false then 30 else if 16 < zy ts then 31 else if 500 < zAH ts then 32 else 0):=rfl;generalize zCy cs ts=E at HE ⊢;generalize (cs.all zBr&&zAT ts)=A at HA HE;obtain ⟨D,hD⟩:=eX (zy ts);obtain ⟨C,hC⟩:=eX (zAH ts);rw [<- hD] at HD HE hb1;rw [<- hC] at HC HE hb2;have q1:D < 1000000000:=by omega
 have q2:C < 1000000000:=by omega
 clear h hcl hms hF hb hnn hb1 hb2 hcs hmn hD hC;generalize cs.length=n1 at HA HD HC ⊢;generalize ts.length=n3 at HA HD HC ⊢;go_enter Tryz.func43,Tryz.ntmps43
 go_upto_region 1 with fail
 obtain ⟨b1,hb1⟩:=eX w.heap.size;have hr1:zC (w.alloc (.cells #[.slice ca n1 cc, .slice ma mn mc, .slice ta n3 tc] 102)) b1 [.slice ca n1 cc, .slice ma mn mc, .slice ta n3 tc]:=J150 _;have hk1:Keeps zA w (w.alloc (.cells #[.slice ca n1 cc, .slice ma mn mc, .slice ta n3 tc] 102)):=(Keeps.refl _ _).alloc _;rw [<- hb1];generalize w.alloc (.cells #[.slice ca n1 cc, .slice ma mn mc, .slice ta n3 tc] 102)=w1 at hr1 hk1 ⊢;obtain ⟨d0,d1,d2⟩:=hr1.three;have R1:=Lib.hid hr1;have K1:=Lib.hid hk1;clear hr1 hk1 hb1;cases A
 ·have hE:E=30:=by rw [HE.out];rfl
  clear HE;subst hE;go_wp2_with (go_at_call 83;refine (HA.out _ K1.out).mono ?_;rintro e w2 ⟨rfl,g2⟩;have G2:=Lib.hid g2;clear g2)
  go_ret
  exact ⟨rfl,K1.out.zB G2.out⟩
 ·have hE1:E=if 16 < D then 31 else if 500 < C then 32 else 0:=by rw [HE.out];rfl
  rcases Nat.lt_or_ge 16 D with h1 | h1
  ·have hE:E=31:=by rw [hE1,if_pos h1]
   have h1i:(16:Int) < D:=by omega
   clear HE hE1;subst hE;go_upto_region 3 with (go_at_call 83;refine (HA.out _ K1.out).mono ?_;rintro e w2 ⟨rfl,g2⟩;have r2:=R1.out.keeps g2 (fun h=>h);have K2:=Lib.hid (K1.out.zB g2);have R2:=Lib.hid r2;clear g2 r2 d0 d1 d2)
   obtain ⟨d0,d1,d2⟩:=R2.out.three;go_wp2_with (go_at_call 84;refine (HD.out _ K2.out).mono ?_;rintro e w3 ⟨rfl,g3⟩;have K3:=Lib.hid (K2.out.zB g3);clear g3)
   go_ret
   exact ⟨rfl,K3.out⟩
  ·have h1':¬ 16 < D:=by omega
   have h1i:¬ (16:Int) < D:=by omega
   rcases Nat.lt_or_ge 500 C with h2 | h2
   ·have hE:E=32:=by rw [hE1,if_neg h1',if_pos h2]
    have h2i:(500:Int) < C:=by omega
    exact J24 _
   ·have h2':¬ 500 < C:=by omega
    have h2i:¬ (500:Int) < C:=by omega
    have hE:E=0:=by rw [hE1,if_neg h1',if_neg h2']
    exact J24 _
def zCC (u:Un) (bs:List Bd):List (List St):=bs.map fun b=>Ac.zQ u b.regs b.acts
theorem zIS (u:Un) (bs:List Bd):zAT (zCC u bs)=bs.all fun b=>Ac.zq u b.regs b.acts:=by
 induction bs with
 | nil=>rfl
 | cons b r ih =>
   have ih':zAT (r.map fun b=>Ac.zQ u b.regs b.acts)=r.all fun b=>Ac.zq u b.regs b.acts:=ih
   simp only [zCC,List.map_cons,zAT,List.all_cons,Ac.zCJ,ih']
theorem zIK (u:Un) (bs:List Bd):zy (zCC u bs)=(bs.map fun b=>Ac.zk 1 b.acts).foldr max 0:=by
 induction bs with
 | nil=>rfl
 | cons b r ih =>
   have ih':zy (r.map fun b=>Ac.zQ u b.regs b.acts)=(r.map fun b=>Ac.zk 1 b.acts).foldr max 0:=ih;simp only [zCC,List.map_cons,zy,List.foldr_cons,Ac.zCL,ih']
theorem zJI (u:Un) (bs:List Bd):zAH (zCC u bs)=(bs.map fun b=>Ac.zM b.acts).foldr (·+·) 0:=by
 induction bs with
 | nil=>rfl
 | cons b r ih =>
   have ih':zAH (r.map fun b=>Ac.zQ u b.regs b.acts)=(r.map fun b=>Ac.zM b.acts).foldr (·+·) 0:=ih;simp only [zCC,List.map_cons,zAH,List.foldr_cons,Ac.zBF,ih']
def zDt (u:Un):Prop:=1 <= u.threads.length /\ u.threads.length <= 8 /\ u.cells.length <= 8 /\ 0 <= u.mutexes /\ u.mutexes <= 8
theorem zET {u:Un} (h:¬ zDt u):zu u=false:=by
 unfold zu;by_cases h1:1 <= u.threads.length
 ·by_cases h2:u.threads.length <= 8
  ·by_cases h3:u.cells.length <= 8
   ·by_cases h4:0 <= u.mutexes
    ·by_cases h5:u.mutexes <= 8
     ·exact absurd ⟨h1,h2,h3,h4,h5⟩ h
     ·simp [h5]
    ·simp [h4]
   ·simp [h3]
  ·simp [h2]
 ·simp [h1]
theorem zFz {u:Un} {b:Bd} (hb:b ∈ u.threads) (h:¬ (0 <= b.regs /\ b.regs <= 8)):zu u=false:=by
 have h1:(u.threads.all fun b=>decide (0 <= b.regs)&&decide (b.regs <= 8)&&Ac.zq u b.regs b.acts)=false:=by
  rw [Bool.eq_false_iff];intro e
  have:=List.all_eq_true.1 e b hb
  simp only [Bool.and_eq_true,decide_eq_true_eq] at this;exact h this.1
 unfold zu;rw [h1];simp
theorem zLT {u:Un} (h:zDt u) (hr:∀ b,b ∈ u.threads -> 0 <= b.regs /\ b.regs <= 8):zu u=decide (zCy u.cells (zCC u u.threads)=0):=by
 have h1:(u.threads.all fun b=>decide (0 <= b.regs)&&decide (b.regs <= 8)&&Ac.zq u b.regs b.acts)=u.threads.all fun b=>Ac.zq u b.regs b.acts:=by
  rw [Bool.eq_iff_iff,List.all_eq_true,List.all_eq_true];constructor
  ·intro e b hb
   have:=e b hb
   simp only [Bool.and_eq_true,decide_eq_true_eq] at this;exact this.2
  ·intro e b hb
   have:=hr b hb
   simp only [Bool.and_eq_true,decide_eq_true_eq];exact ⟨this,e b hb⟩
 have h2:decide (zCy u.cells (zCC u u.threads)=0)=(u.cells.all zBr&&(u.threads.all fun b=>Ac.zq u b.regs b.acts)&&decide ((u.threads.map fun b=>Ac.zk 1 b.acts).foldr max 0 <= 16)&&decide ((u.threads.map fun b=>Ac.zM b.acts).foldr (·+·) 0 <= 500)):=by
  rw [Bool.eq_iff_iff,<- zIS u,<- zIK u,<- zJI u];simp only [decide_eq_true_eq,Bool.and_eq_true,zH0];constructor
  ·rintro ⟨a,b,c⟩;exact ⟨⟨a,b⟩,c⟩
  ·rintro ⟨⟨a,b⟩,c⟩;exact ⟨a,b,c⟩
 rw [h2];unfold zu;rw [h1];simp [h.1,h.2.1,h.2.2.1,h.2.2.2.1,h.2.2.2.2]
mutual
theorem Ac.zLs (u:Un) (regs:Int):(x:Ac) -> (x.named u regs).sz=x.sz
 | .mk k reg obj ex count t e=>by
   have h1:=Ac.zDO u regs t;have h2:=Ac.zDO u regs e;simp only [Ac.named,St.sz,Ac.sz,h1,h2,Ex.zCZ]
theorem Ac.zDO (u:Un) (regs:Int):(l:List Ac) -> St.szL (Ac.zQ u regs l)=Ac.szL l
 | []=>rfl
 | x :: r=>by
   have h1:=Ac.zLs u regs x;have h2:=Ac.zDO u regs r;simp only [Ac.zQ,St.szL,Ac.szL,h1,h2]
end
def zAb:List Bd -> Nat
 | []=>0
 | b :: r=>1+Ac.szL b.acts+zAb r
theorem zD5 {bs:List Bd} {b:Bd} (h:b ∈ bs):Ac.szL b.acts < zAb bs:=by
 induction bs with
 | nil=>cases h
 | cons x r ih =>
   simp only [zAb];rcases List.mem_cons.1 h with e | e
   ·subst e;omega
   ·have:=ih e;omega
theorem zJ8 (u:Un) (bs:List Bd):zBC (zCC u bs)=zAb bs:=by
 induction bs with
 | nil=>rfl
 | cons b r ih =>
   have ih':zBC (r.map fun b=>Ac.zQ u b.regs b.acts)=zAb r:=ih;simp only [zCC,List.map_cons,zBC,zAb,Ac.zDO,ih']
theorem zHt (u:Un) (bs:List Bd) (h:∀ b,b ∈ bs -> Ac.zBD b.acts):zCn (zCC u bs):=by
 induction bs with
 | nil=>trivial
 | cons b r ih =>
   have ih':zCn (r.map fun b=>Ac.zQ u b.regs b.acts):=ih (fun b hb=>h b (List.mem_cons_of_mem _ hb));simp only [zCC,List.map_cons,zCn];exact ⟨Ac.zAq u b.regs b.acts (h b (List.mem_cons_self ..)),ih'⟩
def zEd:zBA Nat:=fun w F n cs=>∃ ra rc,cs=[.slice ra n rc] /\ zX w F (.slice ra n rc) n
theorem zMa:zAN zEd 1:=⟨fun h hk hS=>by exact J193 _,fun h hF=>by exact J198 _,fun h=>by obtain ⟨ba,bc,e,h1⟩:=h;rw [e];rfl⟩
theorem Acc.rgs {w:World} {B n cap:Nat} {ty:TypeId} {ad:Option Addr} {rs:List Nat} {css:List (List Value)} (h:Acc zEd (fun _=>False) B 1 ty w (.slice ad n cap) rs css):zDc w (Since B w) rs ad:=by
 obtain ⟨h1,h2⟩:=h.elems zMa (ad:=ad) (n:=n) (cap:=cap) rfl;intro i hi
 obtain ⟨g,o,e,hg,hl,hc⟩:=h1 i hi;obtain ⟨ba,bc,hR',hs⟩:=h2 i rs[i] (List.getElem?_eq_getElem hi);have hc0:=hc 0 (.slice ba rs[i] bc) (by show (css.getD i [])[_]?=_;rw [hR'];rfl);have hm:∀ k,(False \/ (B <= k /\ k < w.heap.size)) -> Since B w k:=fun k hk=>hk.elim False.elim (fun h=>h)
 rw [Nat.mul_one,Nat.add_zero] at hc0;exact ⟨g,o,ba,bc,e,hm g hg,hc0,hs.mono hm⟩
theorem zHZ:(Tryz.prog.info? 93).map (fun i=>(i.zero,i.size,i.bytes))=some (some (.slice none 0 0),1,24):=by kernel_rfl
theorem zDc.mono {F F':Nat -> Prop} {w:World} {rs:List Nat} {ad:Option Addr} (h:zDc w F rs ad) (hF:∀ k,F k -> F' k):zDc w F' rs ad:=by
 intro i hi
 obtain ⟨g,o,ra,rc,e,hg,c0,h1⟩:=h i hi;exact ⟨g,o,ra,rc,e,hF g hg,c0,h1.mono hF⟩
end Go.Proofs.YtoapgjjepiopbaaGreatDoor
