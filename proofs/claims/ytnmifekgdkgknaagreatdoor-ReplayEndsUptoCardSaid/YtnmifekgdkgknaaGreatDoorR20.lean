/- Layer R: texts joined. -/
import Derived.Test.YtnmifekgdkgknaaGreatDoorR19
import Derived.Test.YtnmifekgdkgknaaGreatDoorR12
import Derived.Test.YtnmifekgdkgknaaGreatDoorR13
import Derived.Test.YtnmifekgdkgknaaGreatDoorR18
import Derived.Test.YtnmifekgdkgknaaGreatDoorR17
set_option linter.unusedVariables false
set_option linter.unusedSimpArgs false
set_option linter.unnecessarySimpa false
namespace Go.Proofs.YtnmifekgdkgknaaGreatDoor
open Go.RowKit
set_option maxRecDepth 8000 in
set_option maxHeartbeats 1000000 in
theorem program_c (nm:ByteArray) (ts:List (List St)) (w:World) (F:Nat -> Prop) (pca pma ta:Option Addr) (pcn pcc pmn pmc tc c:Nat) (b:Nat) (h:ThsAt w F nm ts ta) (hF:¬ F c) (hc:RowAt w c [(.int .i64 b)]) (hb:psSz ts < 900000000) (hbb:b+psSz ts < 1000000000) :
 Calls Tryz.prog 129 #[.agg #[.func (.func 132) #[] #[.pointer (some ⟨c,0,none⟩)], .func (.func 133) #[] #[.pointer (some ⟨c,0,none⟩)]], .agg #[.slice pca pcn pcc, .slice pma pmn pmc, .slice ta ts.length tc]] w fun e w'=>e=.returned (.tuple #[]) /\ RowAt w' c [(.int .i64 ((b+psCnt ts):Nat))] /\ Keeps (fun q=>q=c) w w':=by
 have HL:=Lib.hid h;have HF:=Lib.hid hF;have HCR:=Lib.hid hc;have HBB:=Lib.hid hbb;have hl:ts.length <= 1000000000:=by have:=h.len;omega
 have HB:=Lib.hid hb;obtain ⟨tot,ht⟩:∃ t:Nat,t=(b+psCnt ts):=⟨_,rfl⟩
 have HT0:=Lib.hid ht;rw [<- ht];have hlt0:=hc.lt (by simp);have hlt:=Lib.hid hlt0;clear h hF hc hb ht hlt0 hbb;go_enter Tryz.func129,Tryz.ntmps129
 go_upto_region 1 with fail
 obtain ⟨b3,hb3⟩:∃ z,z=w.heap.size:=⟨_,rfl⟩
 obtain ⟨b4,hb4⟩:∃ z,z=w.heap.size+1:=⟨_,rfl⟩
 have hr3:RowAt ((w.alloc (.cells #[.func (.func 132) #[] #[.pointer (some ⟨c,0,none⟩)], .func (.func 133) #[] #[.pointer (some ⟨c,0,none⟩)]] 189)).alloc (.cells #[.slice pca pcn pcc, .slice pma pmn pmc, .slice ta ts.length tc] 116)) b3 [.func (.func 132) #[] #[.pointer (some ⟨c,0,none⟩)], .func (.func 133) #[] #[.pointer (some ⟨c,0,none⟩)]]:=by rw [hb3];exact (RowAt.ofBlock (heap_alloc_new w _)).alloc _
 have hr4:RowAt ((w.alloc (.cells #[.func (.func 132) #[] #[.pointer (some ⟨c,0,none⟩)], .func (.func 133) #[] #[.pointer (some ⟨c,0,none⟩)]] 189)).alloc (.cells #[.slice pca pcn pcc, .slice pma pmn pmc, .slice ta ts.length tc] 116)) b4 [.slice pca pcn pcc, .slice pma pmn pmc, .slice ta ts.length tc]:=by rw [hb4];exact RowAt.ofBlock (heap_alloc2 w _ _)
 have hk1:Keeps NoBlk w ((w.alloc (.cells #[.func (.func 132) #[] #[.pointer (some ⟨c,0,none⟩)], .func (.func 133) #[] #[.pointer (some ⟨c,0,none⟩)]] 189)).alloc (.cells #[.slice pca pcn pcc, .slice pma pmn pmc, .slice ta ts.length tc] 116)):=((Keeps.refl _ _).alloc _).alloc _;rw [<- hb4,<- hb3];generalize (w.alloc (.cells #[.func (.func 132) #[] #[.pointer (some ⟨c,0,none⟩)], .func (.func 133) #[] #[.pointer (some ⟨c,0,none⟩)]] 189)).alloc (.cells #[.slice pca pcn pcc, .slice pma pmn pmc, .slice ta ts.length tc] 116)=w1 at hr3 hr4 hk1 ⊢;have HNE:Hid (b3 ≠ c):=by show _ ≠ _;have:=hlt.out;omega
 have R3:=Lib.hid hr3;have K1:=Lib.hid hk1;have RC:Hid (RowAt w1 c [(.int .i64 b)]):=HCR.out.keeps hk1 (fun h=>h);have HLC:Hid (c < w1.heap.size):=RC.out.lt (by simp);obtain ⟨d0,d1,d2⟩:=hr4.three;clear hr3 hr4 hk1 hb3 hb4 HCR;go_wp2_with fail
 clear d0 d1 d2;go_loopw [9] (fun iv wr=>∃ (i:Nat) (v:Nat),i <= ts.length /\ iv=.int .i64 i /\ Hid (RowAt wr c [(.int .i64 v)]) /\ Hid ((v+psCnt (ts.drop i))=tot) /\ Hid (Keeps (fun q=>q=c) w1 wr)) (fun iv _=>ts.length - (intOf iv).toNat)
 case atStart=>exact ⟨0,b,Nat.zero_le _,rfl,RC,by show _=_;rw [List.drop_zero];exact HT0.out.symm,Keeps.refl _ _⟩
 case round =>
  obtain ⟨i,v,hi,rfl,HV,HD,HK⟩:=hrel;by_cases hlt:i < ts.length
  ·have i1:(0:Int) <= i:=by omega
   have i2:(i:Int) < ts.length:=by omega
   have hd:=HD.out;rw [drop_at hlt] at hd;simp only [psCnt] at hd;have hFc:∀ q,F q -> ¬ (fun q=>q=c) q:=fun q hq e=>HF.out (by have e':q=c:=e;rw [<- e'];exact hq)
   obtain ⟨g,o,ba,bc,e1,hg,d0,d1,hx⟩:=((HL.out.keeps K1.out (fun _ _ h=>h):ThsAt w1 F nm ts ta).keeps HK.out hFc).at hlt;subst e1;have hsz:=psSz_mem (List.getElem_mem hlt);have hB:=HB.out;obtain ⟨v1,hv1⟩:∃ v1:Nat,v1=(v+St.cntL ts[i]):=⟨_,rfl⟩
   have hBB:=HBB.out;have hT0:=HT0.out;have hroom:=psRoom i ts;rw [drop_at hlt] at hroom;simp only [psSz,psCnt] at hroom;have hv:v+St.szL ts[i] < 1000000000:=by omega
   have HS:Hid (∀ W,Keeps NoBlk wr W -> Calls Tryz.prog 141 #[.agg #[.func (.func 132) #[] #[.pointer (some ⟨c,0,none⟩)], .func (.func 133) #[] #[.pointer (some ⟨c,0,none⟩)]], .slice ba ts[i].length bc, .int .i64 1] W fun e w'=>e=.returned (.tuple #[]) /\ RowAt w' c [(.int .i64 v1)] /\ Keeps (fun q=>q=c) W w'):=by
    rw [hv1];exact fun W hk=>swOk_c ts[i] W F ba bc c 1 v (hx.keeps hk (fun _ _ h=>h)) HF.out (HV.out.keeps hk (fun h=>h)) (by omega) hv
   have HDN:Hid ((v1+psCnt (ts.drop (i+1)))=tot):=by
    show _=_
    rw [hv1];omega
   clear hx hFc hd hsz hB hv1 hBB hT0 hv hroom;generalize ts[i].length=x1 at d1 HS;go_upto_region 4 with fail
   obtain ⟨b7,hb7⟩:∃ z,z=wr.heap.size:=⟨_,rfl⟩
   have hr7:RowAt (wr.alloc (.cells #[.string nm, .slice ba x1 bc] 121)) b7 [.string nm, .slice ba x1 bc]:=by rw [hb7];exact RowAt.ofBlock (heap_alloc_new wr _)
   have hk7:Keeps NoBlk wr (wr.alloc (.cells #[.string nm, .slice ba x1 bc] 121)):=(Keeps.refl _ _).alloc _;rw [<- hb7];generalize wr.alloc (.cells #[.string nm, .slice ba x1 bc] 121)=w7 at hr7 hk7 ⊢;have y1:=hr7.cell (k:=1) (v:=.slice ba x1 bc) rfl;have r3:=(R3.out.keeps HK.out (fun e=>HNE.out e)).keeps hk7 (fun h=>h);have q0:=r3.cell (k:=0) (v:=.func (.func 132) #[] #[.pointer (some ⟨c,0,none⟩)]) rfl;have q1:=r3.cell (k:=1) (v:=.func (.func 133) #[] #[.pointer (some ⟨c,0,none⟩)]) rfl;have K7:=Lib.hid hk7;clear hr7 hk7 r3 hb7 d0 d1;go_wp2_with (go_at_call 141;refine (HS.out _ K7.out).mono ?_;rintro e w8 ⟨rfl,r8,g8⟩;have R8:=Lib.hid r8;have G8:=Lib.hid g8;clear r8 g8)
   go_roundw
   case rel=>exact ⟨i+1,v1,by omega,by go_num,R8,HDN,(HK.out.trans K7.out (fun _ _ h=>False.elim h)).trans G8.out (fun _ _ h=>h)⟩
   case measure=>simp [intOf];omega
  ·obtain rfl:i=ts.length:=by omega
   have hd:=HD.out;rw [List.drop_length] at hd;simp only [psCnt] at hd;have hd2:v=tot:=by rw [<- hd];omega
   subst hd2;go_wp2_with fail
   go_end0
   exact ⟨rfl,HV.out,(K1.out.mono (S:=fun q=>q=c) (fun _ _ h=>False.elim h)).trans HK.out (fun _ _ h=>h)⟩
theorem treeCount_any (nm:ByteArray) (ts:List (List St)) (w:World) (F:Nat -> Prop) (pca pma ta:Option Addr) (pcn pcc pmn pmc tc:Nat) (h:ThsAt w F nm ts ta) (hF:∀ k,F k -> k < w.heap.size) (hb:psSz ts < 900000000) :
 Calls Tryz.prog 115 #[.agg #[.slice pca pcn pcc, .slice pma pmn pmc, .slice ta ts.length tc]] w fun e w'=>e=.returned (.int .i64 (psCnt ts:Nat)) /\ Keeps NoBlk w w':=by
 have hmf:∀ (fn:Fn) (first cap:Array Value) (w:World),(Instr.makeFunc fn first cap).run Tryz.prog w=.ok (.func fn first cap) w:=fun _ _ _ _=>rfl
 have HL:=Lib.hid h;have HF:=Lib.hid hF;have HB:=Lib.hid hb;obtain ⟨r,hr⟩:∃ r:Nat,r=psCnt ts:=⟨_,rfl⟩
 have HR:=Lib.hid hr;rw [<- hr];obtain ⟨n,hn⟩:∃ n,n=ts.length:=⟨_,rfl⟩
 have HNL:=Lib.hid hn;rw [<- hn];clear h hF hb hr hn;go_enter Tryz.func115,Tryz.ntmps115
 go_upto_region 2 with fail
 obtain ⟨b1,hb1⟩:∃ z,z=w.heap.size:=⟨_,rfl⟩
 obtain ⟨c,hc⟩:∃ z,z=w.heap.size+1:=⟨_,rfl⟩
 have hr1:RowAt ((w.alloc (.cells #[.slice pca pcn pcc, .slice pma pmn pmc, .slice ta n tc] 116)).alloc (.cells #[.int .i64 0] 3)) b1 [.slice pca pcn pcc, .slice pma pmn pmc, .slice ta n tc]:=by rw [hb1];exact (RowAt.ofBlock (heap_alloc_new w _)).alloc _
 have hrc:RowAt ((w.alloc (.cells #[.slice pca pcn pcc, .slice pma pmn pmc, .slice ta n tc] 116)).alloc (.cells #[.int .i64 0] 3)) c [.int .i64 (0:Nat)]:=by rw [hc];exact RowAt.ofBlock (heap_alloc2 w _ _)
 have hk1:Keeps NoBlk w ((w.alloc (.cells #[.slice pca pcn pcc, .slice pma pmn pmc, .slice ta n tc] 116)).alloc (.cells #[.int .i64 0] 3)):=((Keeps.refl _ _).alloc _).alloc _;have HCW:Hid (w.heap.size <= c):=by show _ <= _;omega
 rw [<- hc,<- hb1];generalize (w.alloc (.cells #[.slice pca pcn pcc, .slice pma pmn pmc, .slice ta n tc] 116)).alloc (.cells #[.int .i64 0] 3)=w1 at hr1 hrc hk1 ⊢;obtain ⟨d0,d1,d2⟩:=hr1.three
 have HP:Hid (Calls Tryz.prog 129 #[.agg #[.func (.func 132) #[] #[.pointer (some ⟨c,0,none⟩)], .func (.func 133) #[] #[.pointer (some ⟨c,0,none⟩)]], .agg #[.slice pca pcn pcc, .slice pma pmn pmc, .slice ta n tc]] w1 fun e w'=>e=.returned (.tuple #[]) /\ RowAt w' c [.int .i64 r] /\ Keeps (fun q=>q=c) w1 w'):=by
  have h1:=program_c nm ts w1 F pca pma ta pcn pcc pmn pmc tc c 0 (HL.out.keeps hk1 (fun _ _ h=>h)) (fun h=>by have:=HF.out c h;have:=HCW.out;omega) hrc HB.out (by have:=HB.out;omega);rw [HNL.out,HR.out];have e:0+psCnt ts=psCnt ts:=by omega
  rw [e] at h1;exact h1
 have K1:=Lib.hid hk1;clear hr1 hrc hk1 hc hb1;go_upto_region 3 with (go_at_call 129;refine HP.out.mono ?_;rintro e w2 ⟨rfl,r2,g2⟩;have cc:=r2.cell (k:=0) (v:=.int .i64 r) rfl;have G2:=Lib.hid g2;clear r2 g2)
 clear d0 d1 d2;go_wp2_with fail
 go_ret
 exact ⟨rfl,K1.out.trans G2.out (fun q hq e=>by have e':q=c:=e;have:=HCW.out;omega)⟩
def psErr (cs:List Int) (ts:List (List St)):Int :=
 if (cs.all numC&&psForm ts)=false then 30 else if 16 < psDeep ts then 31 else if 500 < psCnt ts then 32 else 0
theorem psErr_zero (cs:List Int) (ts:List (List St)):(psErr cs ts=0) ↔ ((cs.all numC&&psForm ts)=true /\ psDeep ts <= 16 /\ psCnt ts <= 500):=by
 unfold psErr;cases h:(cs.all numC&&psForm ts)
 ·simp
 ·by_cases h1:16 < psDeep ts
  ·simp [h1] <;> omega
  ·by_cases h2:500 < psCnt ts
   ·simp [h1,h2] <;> omega
   ·simp [h1,h2] <;> omega
set_option maxRecDepth 8000 in
theorem treeRight_any (cs:List Int) (mn:Nat) (ts:List (List St)) (w:World) (F:Nat -> Prop) (ca ma ta:Option Addr) (cc mc tc:Nat) (hcl:ClsAt w F cs ca) (hms:NmsAt w F (.slice ma mn mc) mn) (h:ThsAt w F xNm ts ta) (hnn:psNice ts) (hF:∀ k,F k -> k < w.heap.size) (hb:psSz ts < 900000000) (hcs:cs.length <= 1000) (hmn:mn <= 1000) :
 Calls Tryz.prog 95 #[.agg #[.slice ca cs.length cc, .slice ma mn mc, .slice ta ts.length tc]] w fun e w'=>e=.returned (.int .i64 (psErr cs ts)) /\ Keeps NoBlk w w':=by
 have HA:Hid (∀ W,Keeps NoBlk w W -> Calls Tryz.prog 113 #[.agg #[.slice ca cs.length cc, .slice ma mn mc, .slice ta ts.length tc]] W fun e w'=>e=.returned (.bool (cs.all numC&&psForm ts)) /\ Keeps NoBlk W w') :=
  fun W hk=>treeForm_any cs mn ts W F ca ma ta cc mc tc (hcl.keeps hk (fun _ _ h=>h)) (hms.keeps hk (fun _ _ h=>h)) (h.keeps hk (fun _ _ h=>h)) hnn (fun q hq=>Nat.lt_of_lt_of_le (hF q hq) hk.size) hb hcs hmn
 have HD:Hid (∀ W,Keeps NoBlk w W -> Calls Tryz.prog 114 #[.agg #[.slice ca cs.length cc, .slice ma mn mc, .slice ta ts.length tc]] W fun e w'=>e=.returned (.int .i64 (psDeep ts:Nat)) /\ Keeps NoBlk W w') :=
  fun W hk=>treeDeep_any xNm ts W F ca ma ta cs.length cc mn mc tc (h.keeps hk (fun _ _ h=>h)) (fun q hq=>Nat.lt_of_lt_of_le (hF q hq) hk.size) hb
 have HC:Hid (∀ W,Keeps NoBlk w W -> Calls Tryz.prog 115 #[.agg #[.slice ca cs.length cc, .slice ma mn mc, .slice ta ts.length tc]] W fun e w'=>e=.returned (.int .i64 (psCnt ts:Nat)) /\ Keeps NoBlk W w') :=
  fun W hk=>treeCount_any xNm ts W F ca ma ta cs.length cc mn mc tc (h.keeps hk (fun _ _ h=>h)) (fun q hq=>Nat.lt_of_lt_of_le (hF q hq) hk.size) hb
 have hb1:=psDeep_le ts;have hb2:=psCnt_le ts;have HE:Hid (psErr cs ts=if (cs.all numC&&psForm ts)=false then 30 else if 16 < psDeep ts then 31 else if 500 < psCnt ts then 32 else 0):=rfl;generalize psErr cs ts=E at HE ⊢;generalize (cs.all numC&&psForm ts)=A at HA HE;obtain ⟨D,hD⟩:∃ D,D=psDeep ts:=⟨_,rfl⟩
 obtain ⟨C,hC⟩:∃ C,C=psCnt ts:=⟨_,rfl⟩
 rw [<- hD] at HD HE hb1;rw [<- hC] at HC HE hb2;have q1:D < 1000000000:=by omega
 have q2:C < 1000000000:=by omega
 clear h hcl hms hF hb hnn hb1 hb2 hcs hmn hD hC;generalize cs.length=n1 at HA HD HC ⊢;generalize ts.length=n3 at HA HD HC ⊢;go_enter Tryz.func95,Tryz.ntmps95
 go_upto_region 1 with fail
 obtain ⟨b1,hb1⟩:∃ z,z=w.heap.size:=⟨_,rfl⟩
 have hr1:RowAt (w.alloc (.cells #[.slice ca n1 cc, .slice ma mn mc, .slice ta n3 tc] 116)) b1 [.slice ca n1 cc, .slice ma mn mc, .slice ta n3 tc]:=by rw [hb1];exact RowAt.ofBlock (heap_alloc_new w _)
 have hk1:Keeps NoBlk w (w.alloc (.cells #[.slice ca n1 cc, .slice ma mn mc, .slice ta n3 tc] 116)):=(Keeps.refl _ _).alloc _;rw [<- hb1];generalize w.alloc (.cells #[.slice ca n1 cc, .slice ma mn mc, .slice ta n3 tc] 116)=w1 at hr1 hk1 ⊢;obtain ⟨d0,d1,d2⟩:=hr1.three;have R1:=Lib.hid hr1;have K1:=Lib.hid hk1;clear hr1 hk1 hb1;cases A
 ·have hE:E=30:=by rw [HE.out];rfl
  clear HE;subst hE;go_wp2_with (go_at_call 113;refine (HA.out _ K1.out).mono ?_;rintro e w2 ⟨rfl,g2⟩;have G2:=Lib.hid g2;clear g2)
  go_ret
  exact ⟨rfl,K1.out.trans0 G2.out⟩
 ·have hE1:E=if 16 < D then 31 else if 500 < C then 32 else 0:=by rw [HE.out];rfl
  rcases Nat.lt_or_ge 16 D with h1 | h1
  ·have hE:E=31:=by rw [hE1,if_pos h1]
   have h1i:(16:Int) < D:=by omega
   clear HE hE1;subst hE;go_upto_region 3 with (go_at_call 113;refine (HA.out _ K1.out).mono ?_;rintro e w2 ⟨rfl,g2⟩;have r2:=R1.out.keeps g2 (fun h=>h);have K2:=Lib.hid (K1.out.trans0 g2);have R2:=Lib.hid r2;clear g2 r2 d0 d1 d2)
   obtain ⟨d0,d1,d2⟩:=R2.out.three;go_wp2_with (go_at_call 114;refine (HD.out _ K2.out).mono ?_;rintro e w3 ⟨rfl,g3⟩;have K3:=Lib.hid (K2.out.trans0 g3);clear g3)
   go_ret
   exact ⟨rfl,K3.out⟩
  ·have h1':¬ 16 < D:=by omega
   have h1i:¬ (16:Int) < D:=by omega
   rcases Nat.lt_or_ge 500 C with h2 | h2
   ·have hE:E=32:=by rw [hE1,if_neg h1',if_pos h2]
    have h2i:(500:Int) < C:=by omega
    clear HE hE1;subst hE;go_upto_region 3 with (go_at_call 113;refine (HA.out _ K1.out).mono ?_;rintro e w2 ⟨rfl,g2⟩;have r2:=R1.out.keeps g2 (fun h=>h);have K2:=Lib.hid (K1.out.trans0 g2);have R2:=Lib.hid r2;clear g2 r2 d0 d1 d2)
    obtain ⟨d0,d1,d2⟩:=R2.out.three;go_upto_region 5 with (go_at_call 114;refine (HD.out _ K2.out).mono ?_;rintro e w3 ⟨rfl,g3⟩;have r3:=R2.out.keeps g3 (fun h=>h);have K3:=Lib.hid (K2.out.trans0 g3);have R3:=Lib.hid r3;clear g3 r3 d0 d1 d2)
    obtain ⟨d0,d1,d2⟩:=R3.out.three;go_wp2_with (go_at_call 115;refine (HC.out _ K3.out).mono ?_;rintro e w4 ⟨rfl,g4⟩;have K4:=Lib.hid (K3.out.trans0 g4);clear g4)
    go_ret
    exact ⟨rfl,K4.out⟩
   ·have h2':¬ 500 < C:=by omega
    have h2i:¬ (500:Int) < C:=by omega
    have hE:E=0:=by rw [hE1,if_neg h1',if_neg h2']
    clear HE hE1;subst hE;go_upto_region 3 with (go_at_call 113;refine (HA.out _ K1.out).mono ?_;rintro e w2 ⟨rfl,g2⟩;have r2:=R1.out.keeps g2 (fun h=>h);have K2:=Lib.hid (K1.out.trans0 g2);have R2:=Lib.hid r2;clear g2 r2 d0 d1 d2)
    obtain ⟨d0,d1,d2⟩:=R2.out.three;go_upto_region 5 with (go_at_call 114;refine (HD.out _ K2.out).mono ?_;rintro e w3 ⟨rfl,g3⟩;have r3:=R2.out.keeps g3 (fun h=>h);have K3:=Lib.hid (K2.out.trans0 g3);have R3:=Lib.hid r3;clear g3 r3 d0 d1 d2)
    obtain ⟨d0,d1,d2⟩:=R3.out.three;go_wp2_with (go_at_call 115;refine (HC.out _ K3.out).mono ?_;rintro e w4 ⟨rfl,g4⟩;have K4:=Lib.hid (K3.out.trans0 g4);clear g4)
    go_ret
    exact ⟨rfl,K4.out⟩
def thsOf (u:Un) (bs:List Bd):List (List St):=bs.map fun b=>Ac.namedL u b.regs b.acts
theorem thsOf_form (u:Un) (bs:List Bd):psForm (thsOf u bs)=bs.all fun b=>Ac.mayL u b.regs b.acts:=by
 induction bs with
 | nil=>rfl
 | cons b r ih =>
   have ih':psForm (r.map fun b=>Ac.namedL u b.regs b.acts)=r.all fun b=>Ac.mayL u b.regs b.acts:=ih
   simp only [thsOf,List.map_cons,psForm,List.all_cons,Ac.formL_named,ih']
theorem thsOf_deep (u:Un) (bs:List Bd):psDeep (thsOf u bs)=(bs.map fun b=>Ac.deepL 1 b.acts).foldr max 0:=by
 induction bs with
 | nil=>rfl
 | cons b r ih =>
   have ih':psDeep (r.map fun b=>Ac.namedL u b.regs b.acts)=(r.map fun b=>Ac.deepL 1 b.acts).foldr max 0:=ih;simp only [thsOf,List.map_cons,psDeep,List.foldr_cons,Ac.deepL_named,ih']
theorem thsOf_cnt (u:Un) (bs:List Bd):psCnt (thsOf u bs)=(bs.map fun b=>Ac.cntL b.acts).foldr (·+·) 0:=by
 induction bs with
 | nil=>rfl
 | cons b r ih =>
   have ih':psCnt (r.map fun b=>Ac.namedL u b.regs b.acts)=(r.map fun b=>Ac.cntL b.acts).foldr (·+·) 0:=ih;simp only [thsOf,List.map_cons,psCnt,List.foldr_cons,Ac.cntL_named,ih']
def headOk (u:Un):Prop:=1 <= u.threads.length /\ u.threads.length <= 8 /\ u.cells.length <= 8 /\ 0 <= u.mutexes /\ u.mutexes <= 8
theorem right_no1 {u:Un} (h:¬ headOk u):rightU u=false:=by
 unfold rightU;by_cases h1:1 <= u.threads.length
 ·by_cases h2:u.threads.length <= 8
  ·by_cases h3:u.cells.length <= 8
   ·by_cases h4:0 <= u.mutexes
    ·by_cases h5:u.mutexes <= 8
     ·exact absurd ⟨h1,h2,h3,h4,h5⟩ h
     ·simp [h5]
    ·simp [h4]
   ·simp [h3]
  ·simp [h2]
 ·simp [h1]
theorem right_no2 {u:Un} {b:Bd} (hb:b ∈ u.threads) (h:¬ (0 <= b.regs /\ b.regs <= 8)):rightU u=false:=by
 have h1:(u.threads.all fun b=>decide (0 <= b.regs)&&decide (b.regs <= 8)&&Ac.mayL u b.regs b.acts)=false:=by
  rw [Bool.eq_false_iff];intro e
  have:=List.all_eq_true.1 e b hb
  simp only [Bool.and_eq_true,decide_eq_true_eq] at this;exact h this.1
 unfold rightU;rw [h1];simp
theorem right_of {u:Un} (h:headOk u) (hr:∀ b,b ∈ u.threads -> 0 <= b.regs /\ b.regs <= 8):rightU u=decide (psErr u.cells (thsOf u u.threads)=0):=by
 have h1:(u.threads.all fun b=>decide (0 <= b.regs)&&decide (b.regs <= 8)&&Ac.mayL u b.regs b.acts)=u.threads.all fun b=>Ac.mayL u b.regs b.acts:=by
  rw [Bool.eq_iff_iff,List.all_eq_true,List.all_eq_true];constructor
  ·intro e b hb
   have:=e b hb
   simp only [Bool.and_eq_true,decide_eq_true_eq] at this;exact this.2
  ·intro e b hb
   have:=hr b hb
   simp only [Bool.and_eq_true,decide_eq_true_eq];exact ⟨this,e b hb⟩
 have h2:decide (psErr u.cells (thsOf u u.threads)=0)=(u.cells.all numC&&(u.threads.all fun b=>Ac.mayL u b.regs b.acts)&&decide ((u.threads.map fun b=>Ac.deepL 1 b.acts).foldr max 0 <= 16)&&decide ((u.threads.map fun b=>Ac.cntL b.acts).foldr (·+·) 0 <= 500)):=by
  rw [Bool.eq_iff_iff,<- thsOf_form u,<- thsOf_deep u,<- thsOf_cnt u];simp only [decide_eq_true_eq,Bool.and_eq_true,psErr_zero];constructor
  ·rintro ⟨a,b,c⟩;exact ⟨⟨a,b⟩,c⟩
  ·rintro ⟨⟨a,b⟩,c⟩;exact ⟨a,b,c⟩
 rw [h2];unfold rightU;rw [h1];simp [h.1,h.2.1,h.2.2.1,h.2.2.2.1,h.2.2.2.2]
mutual
theorem Ac.sz_named (u:Un) (regs:Int):(x:Ac) -> (x.named u regs).sz=x.sz
 | .mk k reg obj ex count t e=>by
   have h1:=Ac.szL_named u regs t;have h2:=Ac.szL_named u regs e;simp only [Ac.named,St.sz,Ac.sz,h1,h2,Ex.cnt_named]
theorem Ac.szL_named (u:Un) (regs:Int):(l:List Ac) -> St.szL (Ac.namedL u regs l)=Ac.szL l
 | []=>rfl
 | x :: r=>by
   have h1:=Ac.sz_named u regs x;have h2:=Ac.szL_named u regs r;simp only [Ac.namedL,St.szL,Ac.szL,h1,h2]
end
def bsSz:List Bd -> Nat
 | []=>0
 | b :: r=>1+Ac.szL b.acts+bsSz r
theorem bsSz_mem {bs:List Bd} {b:Bd} (h:b ∈ bs):Ac.szL b.acts < bsSz bs:=by
 induction bs with
 | nil=>cases h
 | cons x r ih =>
   simp only [bsSz];rcases List.mem_cons.1 h with e | e
   ·subst e;omega
   ·have:=ih e;omega
theorem thsOf_sz (u:Un) (bs:List Bd):psSz (thsOf u bs)=bsSz bs:=by
 induction bs with
 | nil=>rfl
 | cons b r ih =>
   have ih':psSz (r.map fun b=>Ac.namedL u b.regs b.acts)=bsSz r:=ih;simp only [thsOf,List.map_cons,psSz,bsSz,Ac.szL_named,ih']
theorem thsOf_nice (u:Un) (bs:List Bd) (h:∀ b,b ∈ bs -> Ac.kindsL b.acts):psNice (thsOf u bs):=by
 induction bs with
 | nil=>trivial
 | cons b r ih =>
   have ih':psNice (r.map fun b=>Ac.namedL u b.regs b.acts):=ih (fun b hb=>h b (List.mem_cons_of_mem _ hb));simp only [thsOf,List.map_cons,psNice];exact ⟨Ac.niceL_named u b.regs b.acts (h b (List.mem_cons_self ..)),ih'⟩
def RgLies:Lies Nat:=fun w F n cs=>∃ ra rc,cs=[.slice ra n rc] /\ NmsAt w F (.slice ra n rc) n
theorem rgOk:LiesOk RgLies 1:=⟨fun h hk hS=>by obtain ⟨ba,bc,e,h1⟩:=h;exact ⟨ba,bc,e,h1.keeps hk hS⟩,fun h hF=>by obtain ⟨ba,bc,e,h1⟩:=h;exact ⟨ba,bc,e,h1.mono hF⟩,fun h=>by obtain ⟨ba,bc,e,h1⟩:=h;rw [e];rfl⟩
theorem Acc.rgs {w:World} {B n cap:Nat} {ty:TypeId} {ad:Option Addr} {rs:List Nat} {css:List (List Value)} (h:Acc RgLies (fun _=>False) B 1 ty w (.slice ad n cap) rs css):RgsAt w (Since B w) rs ad:=by
 obtain ⟨h1,h2⟩:=h.elems rgOk (ad:=ad) (n:=n) (cap:=cap) rfl;intro i hi
 obtain ⟨g,o,e,hg,hl,hc⟩:=h1 i hi;obtain ⟨ba,bc,hR',hs⟩:=h2 i rs[i] (List.getElem?_eq_getElem hi);have hc0:=hc 0 (.slice ba rs[i] bc) (by show (css.getD i [])[_]?=_;rw [hR'];rfl);have hm:∀ k,(False \/ (B <= k /\ k < w.heap.size)) -> Since B w k:=fun k hk=>hk.elim False.elim (fun h=>h)
 rw [Nat.mul_one,Nat.add_zero] at hc0;exact ⟨g,o,ba,bc,e,hm g hg,hc0,hs.mono hm⟩
theorem infoStrings:(Tryz.prog.info? 113).map (fun i=>(i.zero,i.size,i.bytes))=some (some (.slice none 0 0),1,24):=by kernel_rfl
theorem RgsAt.mono {F F':Nat -> Prop} {w:World} {rs:List Nat} {ad:Option Addr} (h:RgsAt w F rs ad) (hF:∀ k,F k -> F' k):RgsAt w F' rs ad:=by
 intro i hi
 obtain ⟨g,o,ra,rc,e,hg,c0,h1⟩:=h i hi;exact ⟨g,o,ra,rc,e,hF g hg,c0,h1.mono hF⟩
end Go.Proofs.YtnmifekgdkgknaaGreatDoor
