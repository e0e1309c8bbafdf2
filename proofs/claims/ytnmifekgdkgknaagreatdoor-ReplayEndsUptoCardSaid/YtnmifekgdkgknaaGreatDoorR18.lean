/- Layer R: texts joined. -/
import Derived.Test.YtnmifekgdkgknaaGreatDoorR17
import Derived.Test.YtnmifekgdkgknaaGreatDoorR12
import Derived.Test.YtnmifekgdkgknaaGreatDoorR11
set_option linter.unusedVariables false
set_option linter.unusedSimpArgs false
set_option linter.unnecessarySimpa false
namespace Go.Proofs.YtnmifekgdkgknaaGreatDoor
open Go.RowKit
set_option maxRecDepth 8000 in
set_option maxHeartbeats 1000000 in
theorem program_d (nm:ByteArray) (ts:List (List St)) (w:World) (F:Nat -> Prop) (pca pma ta:Option Addr) (pcn pcc pmn pmc tc c:Nat) (b:Nat) (h:ThsAt w F nm ts ta) (hF:¬ F c) (hc:RowAt w c [(.int .i64 b)]) (hb:psSz ts < 900000000) (hbb:b < 1000000000) :
 Calls Tryz.prog 129 #[.agg #[.func (.func 130) #[] #[.pointer (some ⟨c,0,none⟩)], .func (.func 131) #[] #[.pointer (some ⟨c,0,none⟩)]], .agg #[.slice pca pcn pcc, .slice pma pmn pmc, .slice ta ts.length tc]] w fun e w'=>e=.returned (.tuple #[]) /\ RowAt w' c [(.int .i64 ((max b (psDeep ts)):Nat))] /\ Keeps (fun q=>q=c) w w':=by
 have HL:=Lib.hid h;have HF:=Lib.hid hF;have HCR:=Lib.hid hc;have HBB:=Lib.hid hbb;have hl:ts.length <= 1000000000:=by have:=h.len;omega
 have HB:=Lib.hid hb;obtain ⟨tot,ht⟩:∃ t:Nat,t=(max b (psDeep ts)):=⟨_,rfl⟩
 have HT0:=Lib.hid ht;rw [<- ht];have hlt0:=hc.lt (by simp);have hlt:=Lib.hid hlt0;clear h hF hc hb ht hlt0 hbb;go_enter Tryz.func129,Tryz.ntmps129
 go_upto_region 1 with fail
 obtain ⟨b3,hb3⟩:∃ z,z=w.heap.size:=⟨_,rfl⟩
 obtain ⟨b4,hb4⟩:∃ z,z=w.heap.size+1:=⟨_,rfl⟩
 have hr3:RowAt ((w.alloc (.cells #[.func (.func 130) #[] #[.pointer (some ⟨c,0,none⟩)], .func (.func 131) #[] #[.pointer (some ⟨c,0,none⟩)]] 189)).alloc (.cells #[.slice pca pcn pcc, .slice pma pmn pmc, .slice ta ts.length tc] 116)) b3 [.func (.func 130) #[] #[.pointer (some ⟨c,0,none⟩)], .func (.func 131) #[] #[.pointer (some ⟨c,0,none⟩)]]:=by rw [hb3];exact (RowAt.ofBlock (heap_alloc_new w _)).alloc _
 have hr4:RowAt ((w.alloc (.cells #[.func (.func 130) #[] #[.pointer (some ⟨c,0,none⟩)], .func (.func 131) #[] #[.pointer (some ⟨c,0,none⟩)]] 189)).alloc (.cells #[.slice pca pcn pcc, .slice pma pmn pmc, .slice ta ts.length tc] 116)) b4 [.slice pca pcn pcc, .slice pma pmn pmc, .slice ta ts.length tc]:=by rw [hb4];exact RowAt.ofBlock (heap_alloc2 w _ _)
 have hk1:Keeps NoBlk w ((w.alloc (.cells #[.func (.func 130) #[] #[.pointer (some ⟨c,0,none⟩)], .func (.func 131) #[] #[.pointer (some ⟨c,0,none⟩)]] 189)).alloc (.cells #[.slice pca pcn pcc, .slice pma pmn pmc, .slice ta ts.length tc] 116)):=((Keeps.refl _ _).alloc _).alloc _;rw [<- hb4,<- hb3];generalize (w.alloc (.cells #[.func (.func 130) #[] #[.pointer (some ⟨c,0,none⟩)], .func (.func 131) #[] #[.pointer (some ⟨c,0,none⟩)]] 189)).alloc (.cells #[.slice pca pcn pcc, .slice pma pmn pmc, .slice ta ts.length tc] 116)=w1 at hr3 hr4 hk1 ⊢;have HNE:Hid (b3 ≠ c):=by show _ ≠ _;have:=hlt.out;omega
 have R3:=Lib.hid hr3;have K1:=Lib.hid hk1;have RC:Hid (RowAt w1 c [(.int .i64 b)]):=HCR.out.keeps hk1 (fun h=>h);have HLC:Hid (c < w1.heap.size):=RC.out.lt (by simp);obtain ⟨d0,d1,d2⟩:=hr4.three;clear hr3 hr4 hk1 hb3 hb4 HCR;go_wp2_with fail
 clear d0 d1 d2;go_loopw [9] (fun iv wr=>∃ (i:Nat) (v:Nat),i <= ts.length /\ iv=.int .i64 i /\ Hid (RowAt wr c [(.int .i64 v)]) /\ Hid ((max v (psDeep (ts.drop i)))=tot) /\ Hid (Keeps (fun q=>q=c) w1 wr)) (fun iv _=>ts.length - (intOf iv).toNat)
 case atStart=>exact ⟨0,b,Nat.zero_le _,rfl,RC,by show _=_;rw [List.drop_zero];exact HT0.out.symm,Keeps.refl _ _⟩
 case round =>
  obtain ⟨i,v,hi,rfl,HV,HD,HK⟩:=hrel;by_cases hlt:i < ts.length
  ·have i1:(0:Int) <= i:=by omega
   have i2:(i:Int) < ts.length:=by omega
   have hd:=HD.out;rw [drop_at hlt] at hd;simp only [psDeep] at hd;have hFc:∀ q,F q -> ¬ (fun q=>q=c) q:=fun q hq e=>HF.out (by have e':q=c:=e;rw [<- e'];exact hq)
   obtain ⟨g,o,ba,bc,e1,hg,d0,d1,hx⟩:=((HL.out.keeps K1.out (fun _ _ h=>h):ThsAt w1 F nm ts ta).keeps HK.out hFc).at hlt;subst e1;have hsz:=psSz_mem (List.getElem_mem hlt);have hB:=HB.out;obtain ⟨v1,hv1⟩:∃ v1:Nat,v1=(max v (St.deepL 1 ts[i])):=⟨_,rfl⟩
   have hBB:=HBB.out;have hT0:=HT0.out;have hle:=psDeep_le ts;have hv:v < 1000000000:=by have:=HD.out;omega
   have HS:Hid (∀ W,Keeps NoBlk wr W -> Calls Tryz.prog 141 #[.agg #[.func (.func 130) #[] #[.pointer (some ⟨c,0,none⟩)], .func (.func 131) #[] #[.pointer (some ⟨c,0,none⟩)]], .slice ba ts[i].length bc, .int .i64 1] W fun e w'=>e=.returned (.tuple #[]) /\ RowAt w' c [(.int .i64 v1)] /\ Keeps (fun q=>q=c) W w'):=by
    rw [hv1];exact fun W hk=>swOk_d ts[i] W F ba bc c 1 v (hx.keeps hk (fun _ _ h=>h)) HF.out (HV.out.keeps hk (fun h=>h)) (by omega) hv
   have HDN:Hid ((max v1 (psDeep (ts.drop (i+1))))=tot):=by
    show _=_
    rw [hv1];omega
   clear hx hFc hd hsz hB hv1 hBB hT0 hv hle;generalize ts[i].length=x1 at d1 HS;go_upto_region 4 with fail
   obtain ⟨b7,hb7⟩:∃ z,z=wr.heap.size:=⟨_,rfl⟩
   have hr7:RowAt (wr.alloc (.cells #[.string nm, .slice ba x1 bc] 121)) b7 [.string nm, .slice ba x1 bc]:=by rw [hb7];exact RowAt.ofBlock (heap_alloc_new wr _)
   have hk7:Keeps NoBlk wr (wr.alloc (.cells #[.string nm, .slice ba x1 bc] 121)):=(Keeps.refl _ _).alloc _;rw [<- hb7];generalize wr.alloc (.cells #[.string nm, .slice ba x1 bc] 121)=w7 at hr7 hk7 ⊢;have y1:=hr7.cell (k:=1) (v:=.slice ba x1 bc) rfl;have r3:=(R3.out.keeps HK.out (fun e=>HNE.out e)).keeps hk7 (fun h=>h);have q0:=r3.cell (k:=0) (v:=.func (.func 130) #[] #[.pointer (some ⟨c,0,none⟩)]) rfl;have q1:=r3.cell (k:=1) (v:=.func (.func 131) #[] #[.pointer (some ⟨c,0,none⟩)]) rfl;have K7:=Lib.hid hk7;clear hr7 hk7 r3 hb7 d0 d1;go_wp2_with (go_at_call 141;refine (HS.out _ K7.out).mono ?_;rintro e w8 ⟨rfl,r8,g8⟩;have R8:=Lib.hid r8;have G8:=Lib.hid g8;clear r8 g8)
   go_roundw
   case rel=>exact ⟨i+1,v1,by omega,by go_num,R8,HDN,(HK.out.trans K7.out (fun _ _ h=>False.elim h)).trans G8.out (fun _ _ h=>h)⟩
   case measure=>simp [intOf];omega
  ·obtain rfl:i=ts.length:=by omega
   have hd:=HD.out;rw [List.drop_length] at hd;simp only [psDeep] at hd;have hd2:v=tot:=by rw [<- hd];omega
   subst hd2;go_wp2_with fail
   go_end0
   exact ⟨rfl,HV.out,(K1.out.mono (S:=fun q=>q=c) (fun _ _ h=>False.elim h)).trans HK.out (fun _ _ h=>h)⟩
theorem treeDeep_any (nm:ByteArray) (ts:List (List St)) (w:World) (F:Nat -> Prop) (pca pma ta:Option Addr) (pcn pcc pmn pmc tc:Nat) (h:ThsAt w F nm ts ta) (hF:∀ k,F k -> k < w.heap.size) (hb:psSz ts < 900000000) :
 Calls Tryz.prog 114 #[.agg #[.slice pca pcn pcc, .slice pma pmn pmc, .slice ta ts.length tc]] w fun e w'=>e=.returned (.int .i64 (psDeep ts:Nat)) /\ Keeps NoBlk w w':=by
 have hmf:∀ (fn:Fn) (first cap:Array Value) (w:World),(Instr.makeFunc fn first cap).run Tryz.prog w=.ok (.func fn first cap) w:=fun _ _ _ _=>rfl
 have HL:=Lib.hid h;have HF:=Lib.hid hF;have HB:=Lib.hid hb;obtain ⟨r,hr⟩:∃ r:Nat,r=psDeep ts:=⟨_,rfl⟩
 have HR:=Lib.hid hr;rw [<- hr];obtain ⟨n,hn⟩:∃ n,n=ts.length:=⟨_,rfl⟩
 have HNL:=Lib.hid hn;rw [<- hn];clear h hF hb hr hn;go_enter Tryz.func114,Tryz.ntmps114
 go_upto_region 2 with fail
 obtain ⟨b1,hb1⟩:∃ z,z=w.heap.size:=⟨_,rfl⟩
 obtain ⟨c,hc⟩:∃ z,z=w.heap.size+1:=⟨_,rfl⟩
 have hr1:RowAt ((w.alloc (.cells #[.slice pca pcn pcc, .slice pma pmn pmc, .slice ta n tc] 116)).alloc (.cells #[.int .i64 0] 3)) b1 [.slice pca pcn pcc, .slice pma pmn pmc, .slice ta n tc]:=by rw [hb1];exact (RowAt.ofBlock (heap_alloc_new w _)).alloc _
 have hrc:RowAt ((w.alloc (.cells #[.slice pca pcn pcc, .slice pma pmn pmc, .slice ta n tc] 116)).alloc (.cells #[.int .i64 0] 3)) c [.int .i64 (0:Nat)]:=by rw [hc];exact RowAt.ofBlock (heap_alloc2 w _ _)
 have hk1:Keeps NoBlk w ((w.alloc (.cells #[.slice pca pcn pcc, .slice pma pmn pmc, .slice ta n tc] 116)).alloc (.cells #[.int .i64 0] 3)):=((Keeps.refl _ _).alloc _).alloc _;have HCW:Hid (w.heap.size <= c):=by show _ <= _;omega
 rw [<- hc,<- hb1];generalize (w.alloc (.cells #[.slice pca pcn pcc, .slice pma pmn pmc, .slice ta n tc] 116)).alloc (.cells #[.int .i64 0] 3)=w1 at hr1 hrc hk1 ⊢;obtain ⟨d0,d1,d2⟩:=hr1.three
 have HP:Hid (Calls Tryz.prog 129 #[.agg #[.func (.func 130) #[] #[.pointer (some ⟨c,0,none⟩)], .func (.func 131) #[] #[.pointer (some ⟨c,0,none⟩)]], .agg #[.slice pca pcn pcc, .slice pma pmn pmc, .slice ta n tc]] w1 fun e w'=>e=.returned (.tuple #[]) /\ RowAt w' c [.int .i64 r] /\ Keeps (fun q=>q=c) w1 w'):=by
  have h1:=program_d nm ts w1 F pca pma ta pcn pcc pmn pmc tc c 0 (HL.out.keeps hk1 (fun _ _ h=>h)) (fun h=>by have:=HF.out c h;have:=HCW.out;omega) hrc HB.out (by omega);rw [HNL.out,HR.out];have e:max 0 (psDeep ts)=psDeep ts:=by omega
  rw [e] at h1;exact h1
 have K1:=Lib.hid hk1;clear hr1 hrc hk1 hc hb1;go_upto_region 3 with (go_at_call 129;refine HP.out.mono ?_;rintro e w2 ⟨rfl,r2,g2⟩;have cc:=r2.cell (k:=0) (v:=.int .i64 r) rfl;have G2:=Lib.hid g2;clear r2 g2)
 clear d0 d1 d2;go_wp2_with fail
 go_ret
 exact ⟨rfl,K1.out.trans G2.out (fun q hq e=>by have e':q=c:=e;have:=HCW.out;omega)⟩
theorem clx_c (x:Ex) (ad:Option Addr) (cap:Nat) (w:World) (c d b:Nat) (hd:d < 1500000000) (hb:b < 1500000000) (h:RowAt w c [.int .i64 b]) :
 Calls Tryz.prog 133 #[exV x ad cap, .int .i64 d, .pointer (some ⟨c,0,none⟩)] w fun e w'=>e=.returned (.tuple #[]) /\ RowAt w' c [.int .i64 (b+1:Nat)] /\ Keeps (fun q=>q=c) w w':=by
 show Calls _ _ #[.agg #[.int .i64 x.kind, .int .i64 x.num, .string x.nm, .slice ad x.args.length cap],_,_] _ _
 have HC:=Lib.hid h;have hlt:=h.lt (by simp);clear h;have hw:IntKind.i64.wrap ((b:Int)+1)=(b:Int)+1:=wrap_small _ (by omega) (by omega);go_enter Tryz.func133,Tryz.ntmps133
 go_upto_region 1 with fail
 have k1:Keeps NoBlk w (w.alloc (.cells #[.int .i64 x.kind, .int .i64 x.num, .string x.nm, .slice ad x.args.length cap] 72)):=(Keeps.refl _ _).alloc _;generalize w.alloc (.cells #[.int .i64 x.kind, .int .i64 x.num, .string x.nm, .slice ad x.args.length cap] 72)=w1 at k1 ⊢;have rc:=HC.out.keeps k1 (fun h=>h);have cc:=rc.cell (k:=0) (v:=.int .i64 b) rfl;have fc:=rc.free (k:=0) (by simp);have RC:=Lib.hid rc;have K1:=Lib.hid k1;clear rc k1;go_wp2_with fail
 go_end0
 refine ⟨rfl,?_,(K1.out.mono (S:=fun q=>q=c) (fun _ _ h=>False.elim h)).setCell (p:=⟨c,0,none⟩) (fun _=>rfl) _⟩
 have e1:((b+1:Nat):Int)=(b:Int)+1:=by omega
 rw [e1];exact RC.out.set 0 (by simp) _
theorem cls_c (x:St) (xa ta ea:Option Addr) (xc tc ec:Nat) (w:World) (c d b:Nat) (hd:d < 1500000000) (hb:b < 1500000000) (h:RowAt w c [.int .i64 b]) :
 Calls Tryz.prog 132 #[stV x xa xc ta tc ea ec, .int .i64 d, .pointer (some ⟨c,0,none⟩)] w fun e w'=>e=.returned (.tuple #[]) /\ RowAt w' c [.int .i64 (b+1:Nat)] /\ Keeps (fun q=>q=c) w w':=by
 show Calls _ _ #[.agg #[.int .i64 x.kind, .string x.reg, .string x.name, .int .i64 x.ex.kind, .int .i64 x.ex.num, .string x.ex.nm, .slice xa x.ex.args.length xc, .int .i64 x.count, .slice ta x.thn.length tc, .slice ea x.els.length ec],_,_] _ _
 have HC:=Lib.hid h;have hlt:=h.lt (by simp);clear h;have hw:IntKind.i64.wrap ((b:Int)+1)=(b:Int)+1:=wrap_small _ (by omega) (by omega);go_enter Tryz.func132,Tryz.ntmps132
 go_upto_region 1 with fail
 have k1:Keeps NoBlk w (w.alloc (.cells #[.int .i64 x.kind, .string x.reg, .string x.name, .int .i64 x.ex.kind, .int .i64 x.ex.num, .string x.ex.nm, .slice xa x.ex.args.length xc, .int .i64 x.count, .slice ta x.thn.length tc, .slice ea x.els.length ec] 152)):=(Keeps.refl _ _).alloc _;generalize w.alloc (.cells #[.int .i64 x.kind, .string x.reg, .string x.name, .int .i64 x.ex.kind, .int .i64 x.ex.num, .string x.ex.nm, .slice xa x.ex.args.length xc, .int .i64 x.count, .slice ta x.thn.length tc, .slice ea x.els.length ec] 152)=w1 at k1 ⊢;have rc:=HC.out.keeps k1 (fun h=>h);have cc:=rc.cell (k:=0) (v:=.int .i64 b) rfl;have fc:=rc.free (k:=0) (by simp);have RC:=Lib.hid rc;have K1:=Lib.hid k1;clear rc k1;go_wp2_with fail
 go_end0
 refine ⟨rfl,?_,(K1.out.mono (S:=fun q=>q=c) (fun _ _ h=>False.elim h)).setCell (p:=⟨c,0,none⟩) (fun _=>rfl) _⟩
 have e1:((b+1:Nat):Int)=(b:Int)+1:=by omega
 rw [e1];exact RC.out.set 0 (by simp) _
theorem exprs_c:∀ (x:Ex) (w:World) (F:Nat -> Prop) (ad:Option Addr) (cap c d:Nat) (b:Nat),ExsAt w F x.args ad -> ¬ F c -> RowAt w c [(.int .i64 b)] -> d+x.cnt < 1000000000 -> b+x.cnt < 1000000000 →
 Calls Tryz.prog 145 #[.agg #[.func (.func 132) #[] #[.pointer (some ⟨c,0,none⟩)], .func (.func 133) #[] #[.pointer (some ⟨c,0,none⟩)]],exV x ad cap, .int .i64 d] w fun e w'=>e=.returned (.tuple #[]) /\ RowAt w' c [(.int .i64 ((b+Ex.cnt x):Nat))] /\ Keeps (fun q=>q=c) w w':=by
 refine Ex.ind (fun k num nm l ih w F ad cap c d b h hF hc hb hbb=>?_)
 have HL:Hid (ExsAt w F l ad):=h;have IH:=Lib.hid ih;have HF:=Lib.hid hF;have HCR:=Lib.hid hc;have hl:=Ex.len_le l;have hcn:Ex.cnt (.mk k num nm l)=1+Ex.cntL l:=by simp [Ex.cnt]
 rw [hcn] at hb hbb;have hb2:l.length < 1000000000:=by omega
 have hd2:d < 1000000000:=by omega
 have HB:=Lib.hid hb;have HBB:=Lib.hid hbb;obtain ⟨tot,ht⟩:∃ t:Nat,t=(b+Ex.cnt (Ex.mk k num nm l)):=⟨_,rfl⟩
 have HT:Hid (((b+1)+Ex.cntL l)=tot):=by
  show _=_
  rw [ht];simp only [Ex.cnt];omega
 rw [<- ht];have HCL:Hid (∀ W,RowAt W c [(.int .i64 b)] -> Calls Tryz.prog 133 #[.agg #[.int .i64 k, .int .i64 num, .string nm, .slice ad l.length cap], .int .i64 d, .pointer (some ⟨c,0,none⟩)] W fun e w'=>e=.returned (.tuple #[]) /\ RowAt w' c [(.int .i64 (b+1:Nat))] /\ Keeps (fun q=>q=c) W w'):=fun W h=>clx_c (.mk k num nm l) ad cap W c d b (by omega) (by omega) h
 have hlt0:=hc.lt (by simp);have hlt:=Lib.hid hlt0;clear h hF hc ih hl hcn hb ht hlt0 hbb;show Calls _ _ #[_, .agg #[.int .i64 k, .int .i64 num, .string nm, .slice ad l.length cap],_] _ _
 have hw:IntKind.i64.wrap ((d:Int)+1)=(d:Int)+1:=wrap_small _ (by omega) (by omega);go_enter Tryz.func145,Tryz.ntmps145
 go_upto_region 1 with fail
 obtain ⟨b3,hb3⟩:∃ z,z=w.heap.size:=⟨_,rfl⟩
 obtain ⟨b4,hb4⟩:∃ z,z=w.heap.size+1:=⟨_,rfl⟩
 have hr3:RowAt ((w.alloc (.cells #[.func (.func 132) #[] #[.pointer (some ⟨c,0,none⟩)], .func (.func 133) #[] #[.pointer (some ⟨c,0,none⟩)]] 189)).alloc (.cells #[.int .i64 k, .int .i64 num, .string nm, .slice ad l.length cap] 72)) b3 [.func (.func 132) #[] #[.pointer (some ⟨c,0,none⟩)], .func (.func 133) #[] #[.pointer (some ⟨c,0,none⟩)]]:=by rw [hb3];exact (RowAt.ofBlock (heap_alloc_new w _)).alloc _
 have hr4:RowAt ((w.alloc (.cells #[.func (.func 132) #[] #[.pointer (some ⟨c,0,none⟩)], .func (.func 133) #[] #[.pointer (some ⟨c,0,none⟩)]] 189)).alloc (.cells #[.int .i64 k, .int .i64 num, .string nm, .slice ad l.length cap] 72)) b4 [.int .i64 k, .int .i64 num, .string nm, .slice ad l.length cap]:=by rw [hb4];exact RowAt.ofBlock (heap_alloc2 w _ _)
 have hk1:Keeps NoBlk w ((w.alloc (.cells #[.func (.func 132) #[] #[.pointer (some ⟨c,0,none⟩)], .func (.func 133) #[] #[.pointer (some ⟨c,0,none⟩)]] 189)).alloc (.cells #[.int .i64 k, .int .i64 num, .string nm, .slice ad l.length cap] 72)):=((Keeps.refl _ _).alloc _).alloc _;rw [<- hb4,<- hb3];generalize (w.alloc (.cells #[.func (.func 132) #[] #[.pointer (some ⟨c,0,none⟩)], .func (.func 133) #[] #[.pointer (some ⟨c,0,none⟩)]] 189)).alloc (.cells #[.int .i64 k, .int .i64 num, .string nm, .slice ad l.length cap] 72)=w1 at hr3 hr4 hk1 ⊢;have HNE:Hid (b3 ≠ c /\ b4 ≠ c):=⟨by have:=hlt.out;omega,by have:=hlt.out;omega⟩;have R3:=Lib.hid hr3;have R4:=Lib.hid hr4;have K1:=Lib.hid hk1;have RC:Hid (RowAt w1 c [(.int .i64 b)]):=HCR.out.keeps hk1 (fun h=>h);have y0:=hr3.cell (k:=1) (v:=.func (.func 133) #[] #[.pointer (some ⟨c,0,none⟩)]) rfl;obtain ⟨d0,d1,d2,d3⟩:=hr4.four;clear hr3 hr4 hk1 hb3 hb4;go_upto_region 2 with (go_at_call 133;refine (HCL.out _ RC.out).mono ?_;rintro e w2 ⟨rfl,r2,g2⟩;have R2:=Lib.hid r2;have G2:=Lib.hid g2;clear r2 g2)
 have c3:=(R4.out.keeps G2.out (fun e=>HNE.out.2 e)).cell (k:=3) (v:=.slice ad l.length cap) rfl;clear d0 d1 d2 d3 y0 RC HCL HCR;go_wp2_with fail
 go_loopw [16] (fun iv wr=>∃ (i:Nat) (v:Nat),i <= l.length /\ iv=.int .i64 i /\ Hid (RowAt wr c [(.int .i64 v)]) /\ Hid ((v+Ex.cntL (l.drop i))=tot) /\ Hid (Keeps (fun q=>q=c) w1 wr)) (fun iv _=>l.length - (intOf iv).toNat)
 case atStart=>exact ⟨0,(b+1),Nat.zero_le _,rfl,R2,by show _=_;rw [List.drop_zero];exact HT.out,G2⟩
 case round =>
  obtain ⟨i,v,hi,rfl,HV,HD,HK⟩:=hrel;by_cases hlt:i < l.length
  ·have i1:(0:Int) <= i:=by omega
   have i2:(i:Int) < l.length:=by omega
   have hd:=HD.out;rw [drop_at hlt] at hd;simp only [Ex.cntL] at hd;have hFc:∀ q,F q -> ¬ (fun q=>q=c) q:=fun q hq e=>HF.out (by have e':q=c:=e;rw [<- e'];exact hq)
   obtain ⟨g,o,a,ca,e1,hg,d0,d1,d2,d3,hx⟩:=((HL.out.keeps K1.out (fun _ _ h=>h):ExsAt w1 F l ad).keeps HK.out hFc).at hlt;subst e1
   have HC:Hid (∀ W,Keeps NoBlk wr W -> Calls Tryz.prog 145 #[.agg #[.func (.func 132) #[] #[.pointer (some ⟨c,0,none⟩)], .func (.func 133) #[] #[.pointer (some ⟨c,0,none⟩)]], .agg #[.int .i64 l[i].kind, .int .i64 l[i].num, .string l[i].nm, .slice a l[i].args.length ca], .int .i64 ((d:Int)+1)] W fun e w'=>e=.returned (.tuple #[]) /\ RowAt w' c [(.int .i64 ((v+Ex.cnt l[i]):Nat))] /\ Keeps (fun q=>q=c) W w'):=fun W hk=>by
    have e:((d+1:Nat):Int)=(d:Int)+1:=by omega
    rw [<- e];have hcl:=Ex.cnt_mem (List.getElem_mem hlt);have hbt:=HB.out;have hdt:=HD.out;have hbb:=HBB.out;have htt:=HT.out;exact IH.out _ (List.getElem_mem hlt) W F a ca c (d+1) v (hx.keeps hk (fun _ _ h=>h)) HF.out (HV.out.keeps hk (fun h=>h)) (by omega) (by omega)
   obtain ⟨v2,hv2⟩:∃ v2:Nat,v2=(v+Ex.cnt l[i]):=⟨_,rfl⟩
   have HD2:Hid ((v2+Ex.cntL (l.drop (i+1)))=tot):=by
    show _=_
    rw [hv2,<- hd];omega
   rw [<- hv2] at HC;clear hx hFc hd hv2;generalize l[i].kind=x0 at d0 HC;generalize l[i].num=x1 at d1 HC;generalize l[i].nm=x2 at d2 HC;generalize l[i].args.length=x3 at d3 HC;go_upto_region 5 with fail
   obtain ⟨b7,hb7⟩:∃ z,z=wr.heap.size:=⟨_,rfl⟩
   have hr7:RowAt (wr.alloc (.cells #[.int .i64 x0, .int .i64 x1, .string x2, .slice a x3 ca] 72)) b7 [.int .i64 x0, .int .i64 x1, .string x2, .slice a x3 ca]:=by rw [hb7];exact RowAt.ofBlock (heap_alloc_new wr _)
   have hk7:Keeps NoBlk wr (wr.alloc (.cells #[.int .i64 x0, .int .i64 x1, .string x2, .slice a x3 ca] 72)):=(Keeps.refl _ _).alloc _;rw [<- hb7];generalize wr.alloc (.cells #[.int .i64 x0, .int .i64 x1, .string x2, .slice a x3 ca] 72)=w7 at hr7 hk7 ⊢;obtain ⟨y0,y1,y2,y3⟩:=hr7.four;have r3:=(R3.out.keeps HK.out (fun e=>HNE.out.1 e)).keeps hk7 (fun h=>h);have q0:=r3.cell (k:=0) (v:=.func (.func 132) #[] #[.pointer (some ⟨c,0,none⟩)]) rfl;have q1:=r3.cell (k:=1) (v:=.func (.func 133) #[] #[.pointer (some ⟨c,0,none⟩)]) rfl;have K7:=Lib.hid hk7;clear hr7 hk7 r3 hb7 d0 d1 d2 d3 c3;go_wp2_with (go_at_call 145;refine (HC.out _ K7.out).mono ?_;rintro e w8 ⟨rfl,r8,g8⟩;have R8:=Lib.hid r8;have G8:=Lib.hid g8;clear r8 g8)
   go_roundw
   case rel=>exact ⟨i+1,v2,by omega,by go_num,R8,HD2,(HK.out.trans K7.out (fun _ _ h=>False.elim h)).trans G8.out (fun _ _ h=>h)⟩
   case measure=>simp [intOf];omega
  ·obtain rfl:i=l.length:=by omega
   have hd:=HD.out;rw [List.drop_length] at hd;simp only [Ex.cntL] at hd;have hd2:v=tot:=by rw [<- hd];omega
   subst hd2;go_wp2_with fail
   go_end0
   exact ⟨rfl,HV.out,(K1.out.mono (S:=fun q=>q=c) (fun _ _ h=>False.elim h)).trans HK.out (fun _ _ h=>h)⟩
end Go.Proofs.YtnmifekgdkgknaaGreatDoor
