/- Layer N: texts joined. -/
import Derived.Test.YtoapgjjepiopbaaGreatDoorN06
set_option linter.all false
set_option maxHeartbeats 1000000
set_option maxRecDepth 8000
namespace Go.Proofs.YtoapgjjepiopbaaGreatDoor
open Go.RowKit
theorem J66 (P:Prop) (h:P:=by simp [Value.ownBlock] at h):P:=h
theorem J76 (P:Prop) (h:P:=by
 go_enter Tryz.func190,Tryz.ntmps190
 go_wp2_with (go_at_call 133;refine (HI.out _).mono ?_;rintro e w1 ⟨rfl,g1⟩;have G1:=Lib.hid g1;clear g1)
 go_ret
 exact ⟨rfl,G1.out⟩):P:=h
theorem J204 (P:Prop) (h:P:=by simp [results,Tryz.results188,go_sem,hrow.cell (k:=0) rfl,hrow.cell (k:=1) rfl,hrow.cell (k:=2) rfl]):P:=h
theorem J208 (P:Prop) (h:P:=by have e':b1=w1.heap.size:=e;omega):P:=h
theorem zF1:(Tryz.prog.info? 291).map (fun i=>(i.zero,i.size,i.bytes))=some (some (.agg #[.int .i64 0, .string { data:=#[] }, .int .i64 0, .int .i64 0]),4,40):=by kernel_rfl
theorem zKz (w:World):Calls Tryz.prog 188 #[.string { data:=#[] }] w fun e w'=>(∃ ad c,e=.returned (.tuple #[.slice ad 1 c, .agg #[.int .i64 0, .int .i64 0, .string { data:=#[] }]])) /\ Keeps zA w w':=by
 obtain ⟨j0,hj0,hz0,hz1,hz2⟩:=info_parts zF1;go_enter Tryz.func188,Tryz.ntmps188
 go_upto_region 1 with fail
 obtain ⟨b3,hb3⟩:=eX w.heap.size;have hr3:zC (w.alloc (.cells #[.int .i64 0, .int .i64 0, .string { data:=#[] }] 287)) b3 [.int .i64 0, .int .i64 0, .string { data:=#[] }]:=J169 _;have hk1:Keeps zA w (w.alloc (.cells #[.int .i64 0, .int .i64 0, .string { data:=#[] }] 287)):=(Keeps.refl _ _).alloc _;have HB:Hid (w.heap.size <= b3):=by show _ <= _;omega
 rw [<- hb3];generalize w.alloc (.cells #[.int .i64 0, .int .i64 0, .string { data:=#[] }] 287)=w1 at hr3 hk1 ⊢;have R3:=Lib.hid hr3;have K1:=Lib.hid hk1;clear hr3 hk1 hb3;go_upto_region 2 with (go_at_call 224;refine (zMn _).mono ?_;rintro e w2 ⟨⟨ad0,n0,c0,rfl⟩,g1⟩;have G1:=Lib.hid g1;clear g1)
 obtain ⟨b5,hb5⟩:=eX w2.heap.size;have r5:zC (w2.alloc (.cells #[.int .i64 0, .int .i64 0, .string { data:=#[] }] 287)) b5 [.int .i64 0, .int .i64 0, .string { data:=#[] }]:=J183 _;have k3:Keeps zA w1 (w2.alloc (.cells #[.int .i64 0, .int .i64 0, .string { data:=#[] }] 287)):=G1.out.alloc _;rw [<- hb5];generalize w2.alloc (.cells #[.int .i64 0, .int .i64 0, .string { data:=#[] }] 287)=w3 at r5 k3 ⊢;obtain ⟨d0,d1,d2⟩:=r5.three;have K3:=Lib.hid k3;clear r5 k3 hb5 G1;go_upto_region 5 with fail
 clear d0 d1 d2;go_upto_region 6 with (go_at_call 225;refine (zHb _).mono ?_;rintro e w4 ⟨rfl,g1⟩;have G1:=Lib.hid g1;clear g1)
 refine wp_loop_rounds 1 ?_
 rw [rounds_succ];go_upto_region 14 with fail
 go_upto_region 99 with (at_builtin;refine zI _ (by rfl) _ _ 285 (by rfl) 0 291 j0 _ 4 40 Tryz.underlying285 hj0 hz0 hz1 hz2 rfl (by decide) (Value.slice none 0 0) 0 ([]) (by rfl) (World.ownsRow_nil _ _ _ _) (.slice (some ⟨w4.heap.size,0,none⟩) 1 1) 1 [.int .i64 5, .string { data:=#[] }, .int .i64 0, .int .i64 0] (by rfl) (zC.src (zC.zG (heap_alloc_new w4 _))) rfl (J161 _) (by unfold maxLen;omega) (by omega) (Nat.zero_le _) ?_;intro ad c w5 ha;have k5:=zi.keeps ha ((Keeps.refl zA w4).alloc _) (fun q e _=>by exact J152 _);have K5:=Lib.hid k5;have K14:Hid (Keeps zA w1 w5):=K3.out.zB (G1.out.zB k5);clear ha k5;have r3:=R3.out.keeps K14.out (fun h=>h);obtain ⟨a0,a1,a2⟩:=r3.three;have f0:=r3.free (k:=0) (by simp);have f1:=r3.free (k:=1) (by simp);have f2:=r3.free (k:=2) (by simp);have R3E:=Lib.hid r3;clear r3)
 have hks:Keeps (fun q=>q=b3) w5 (((w5.setCell ⟨b3,0,none⟩ (.int .i64 0)).setCell ⟨b3,1,none⟩ (.int .i64 0)).setCell ⟨b3,2,none⟩ (.string { data:=#[] })):=(((Keeps.refl (fun q=>q=b3) w5).setCell (p:=⟨b3,0,none⟩) (fun _=>rfl) _).setCell (p:=⟨b3,1,none⟩) (fun _=>rfl) _).setCell (p:=⟨b3,2,none⟩) (fun _=>rfl) _;have hrow:zC (((w5.setCell ⟨b3,0,none⟩ (.int .i64 0)).setCell ⟨b3,1,none⟩ (.int .i64 0)).setCell ⟨b3,2,none⟩ (.string { data:=#[] })) b3 [.int .i64 0, .int .i64 0, .string { data:=#[] }]:=((R3E.out.set 0 (by simp) _).set 1 (by simp) _).set 2 (by simp) _;generalize ((w5.setCell ⟨b3,0,none⟩ (.int .i64 0)).setCell ⟨b3,1,none⟩ (.int .i64 0)).setCell ⟨b3,2,none⟩ (.string { data:=#[] })=wE at hrow hks ⊢;refine bodyPost_ret (v:=.tuple #[.slice ad 1 c, .agg #[.int .i64 0, .int .i64 0, .string { data:=#[] }]]) (J204 _) rfl ?_
 exact ⟨⟨_,_,rfl⟩,(K1.out.zB K14.out).trans hks (fun q hq e=>by have e':q=b3:=e;have:=HB.out;omega)⟩
theorem zLx (w:World):Calls Tryz.prog 188 #[.string { data:=#[120] }] w fun e w'=>(∃ ad c,e=.returned (.tuple #[.slice ad 2 c, .agg #[.int .i64 0, .int .i64 0, .string { data:=#[] }]]) /\ w'.ownsRow 0 291 4 (.slice ad 2 c) 2 ([.int .i64 1, .string { data:=#[120] }, .int .i64 0, .int .i64 0]++[.int .i64 5, .string { data:=#[] }, .int .i64 0, .int .i64 1])) /\ Keeps zA w w':=by
 obtain ⟨j0,hj0,hz0,hz1,hz2⟩:=info_parts zF1;go_enter Tryz.func188,Tryz.ntmps188
 go_upto_region 1 with fail
 obtain ⟨b3,hb3⟩:=eX w.heap.size;have hr3:zC (w.alloc (.cells #[.int .i64 0, .int .i64 0, .string { data:=#[] }] 287)) b3 [.int .i64 0, .int .i64 0, .string { data:=#[] }]:=J169 _;have hk1:Keeps zA w (w.alloc (.cells #[.int .i64 0, .int .i64 0, .string { data:=#[] }] 287)):=(Keeps.refl _ _).alloc _;have HB:Hid (w.heap.size <= b3):=by show _ <= _;omega
 rw [<- hb3];generalize w.alloc (.cells #[.int .i64 0, .int .i64 0, .string { data:=#[] }] 287)=w1 at hr3 hk1 ⊢;have R3:=Lib.hid hr3;have K1:=Lib.hid hk1;clear hr3 hk1 hb3;go_upto_region 2 with (go_at_call 224;refine (zNH _).mono ?_;rintro e w2 ⟨⟨ad0,n0,c0,rfl⟩,g1⟩;have G1:=Lib.hid g1;clear g1)
 obtain ⟨b5,hb5⟩:=eX w2.heap.size;have r5:zC (w2.alloc (.cells #[.int .i64 0, .int .i64 0, .string { data:=#[] }] 287)) b5 [.int .i64 0, .int .i64 0, .string { data:=#[] }]:=J183 _;have k3:Keeps zA w1 (w2.alloc (.cells #[.int .i64 0, .int .i64 0, .string { data:=#[] }] 287)):=G1.out.alloc _;rw [<- hb5];generalize w2.alloc (.cells #[.int .i64 0, .int .i64 0, .string { data:=#[] }] 287)=w3 at r5 k3 ⊢;obtain ⟨d0,d1,d2⟩:=r5.three;have K3:=Lib.hid k3;clear r5 k3 hb5 G1;go_upto_region 5 with fail
 clear d0 d1 d2;go_upto_region 6 with (go_at_call 225;refine (zKc _).mono ?_;rintro e w4 ⟨rfl,g1⟩;have G1:=Lib.hid g1;clear g1)
 refine wp_loop_rounds 2 ?_
 rw [rounds_succ];go_upto_region 8 with (go_at_call 226;refine (zMx _).mono ?_;rintro e w5 ⟨rfl,g1⟩;have G2:=Lib.hid g1;clear g1)
 obtain ⟨b8,hb8⟩:=eX w5.heap.size;have r8:zC (w5.alloc (.cells #[.int .i64 1, .string { data:=#[120] }, .int .i64 0, .int .i64 0] 291)) b8 [.int .i64 1, .string { data:=#[120] }, .int .i64 0, .int .i64 0]:=by rw [hb8];exact zC.zG (heap_alloc_new w5 _)
 have k6:Keeps zA w1 (w5.alloc (.cells #[.int .i64 1, .string { data:=#[120] }, .int .i64 0, .int .i64 0] 291)):=(K3.out.zB (G1.out.zB G2.out)).alloc _;have hl8:w1.heap.size <= b8:=by rw [hb8];exact (K3.out.zB (G1.out.zB G2.out)).size
 rw [<- hb8];generalize w5.alloc (.cells #[.int .i64 1, .string { data:=#[120] }, .int .i64 0, .int .i64 0] 291)=w6 at r8 k6 ⊢;have R8:=Lib.hid r8;have K6:=Lib.hid k6;have HL8:=Lib.hid hl8;obtain ⟨d0,d1,d2,d3⟩:=r8.four;have f3:=r8.free (k:=3) (by simp);clear r8 k6 hb8 hl8 G1 G2 K3;go_upto_region 11 with fail
 have r8:zC (w6.setCell ⟨b8,3,none⟩ (.int .i64 0)) b8 [.int .i64 1, .string { data:=#[120] }, .int .i64 0, .int .i64 0]:=R8.out.set 3 (by simp) _;have k7:Keeps zA w1 (w6.setCell ⟨b8,3,none⟩ (.int .i64 0)):=K6.out.trans ((Keeps.refl (fun q=>q=b8) w6).setCell (p:=⟨b8,3,none⟩) (fun _=>rfl) _) (fun q hq e=>by have e':q=b8:=e;have:=HL8.out;omega);generalize w6.setCell ⟨b8,3,none⟩ (.int .i64 0)=w7 at r8 k7 ⊢;clear d0 d1 d2 d3 f3;obtain ⟨d0,d1,d2,d3⟩:=r8.four;have R8':=Lib.hid r8;have K7:=Lib.hid k7;clear r8 k7;go_upto_region 12 with (at_builtin;refine zI _ (by rfl) _ _ 285 (by rfl) 0 291 j0 _ 4 40 Tryz.underlying285 hj0 hz0 hz1 hz2 rfl (by decide) (Value.slice none 0 0) 0 ([]) (by rfl) (World.ownsRow_nil _ _ _ _) (.slice (some ⟨w7.heap.size,0,none⟩) 1 1) 1 [.int .i64 1, .string { data:=#[120] }, .int .i64 0, .int .i64 0] (by rfl) (zC.src (zC.zG (heap_alloc_new w7 _))) rfl (J161 _) (by unfold maxLen;omega) (by omega) (Nat.zero_le _) ?_;intro ad1 c1 w8 ha;have k8:=zi.keeps ha ((Keeps.refl zA w7).alloc _) (fun q e _=>by exact J152 _);have K8:=Lib.hid k8;have H8:=Lib.hid ha.1;have HN8:=Lib.hid ha.2.2;clear ha k8)
 have r8:=R8'.out.keeps K8.out (fun h=>h);clear d0 d1 d2 d3;obtain ⟨d0,d1,d2,d3⟩:=r8.four;clear r8;go_wp2_with (go_at_call 225;refine (zHb _).mono ?_;rintro e w9 ⟨rfl,g1⟩;have G1:=Lib.hid g1;clear g1)
 rw [rounds_succ];go_upto_region 14 with fail
 have H9:Hid (w9.ownsRow 0 291 4 (.slice ad1 1 c1) 1 [.int .i64 1, .string { data:=#[120] }, .int .i64 0, .int .i64 0]):=zF H8.out G1.out (fun _ _ h=>h)
 have HNB:Hid (∀ kb,(Value.slice ad1 1 c1).ownBlock=some kb -> w1.heap.size <= kb):=fun kb e=>by
  rcases HN8.out kb e with h | h
  ·exact J66 _
  ·have h2:kb=(w7.alloc (.cells #[.int .i64 1, .string { data:=#[120] }, .int .i64 0, .int .i64 0] 291)).heap.size:=h
   have:=K7.out.size
   rw [h2];simp;omega
 clear d0 d1 d2 d3;go_upto_region 99 with (at_builtin;refine zI _ (by rfl) _ _ 285 (by rfl) 0 291 j0 _ 4 40 Tryz.underlying285 hj0 hz0 hz1 hz2 rfl (by decide) (Value.slice ad1 1 c1) 1 ([.int .i64 1, .string { data:=#[120] }, .int .i64 0, .int .i64 0]) (by rfl) (zF H9.out ((Keeps.refl zA w9).alloc _) (fun _ _ h=>h)) (.slice (some ⟨w9.heap.size,0,none⟩) 1 1) 1 [.int .i64 5, .string { data:=#[] }, .int .i64 0, .int .i64 1] (by rfl) (zC.src (zC.zG (heap_alloc_new w9 _))) rfl (J161 _) (by unfold maxLen;omega) (by omega) (Nat.zero_le _) ?_;intro ad c w10 ha;have K14:Hid (Keeps zA w1 w10):=zi.keeps ha ((K7.out.zB (K8.out.zB G1.out)).alloc _) (fun q e hq=>by have:=HNB.out q e;omega);have HO:=Lib.hid ha.1;have HOB:=Lib.hid ha.2.2;clear ha;have r3:=R3.out.keeps K14.out (fun h=>h);obtain ⟨a0,a1,a2⟩:=r3.three;have f0:=r3.free (k:=0) (by simp);have f1:=r3.free (k:=1) (by simp);have f2:=r3.free (k:=2) (by simp);have R3E:=Lib.hid r3;clear r3)
 have hks:Keeps (fun q=>q=b3) w10 (((w10.setCell ⟨b3,0,none⟩ (.int .i64 0)).setCell ⟨b3,1,none⟩ (.int .i64 0)).setCell ⟨b3,2,none⟩ (.string { data:=#[] })):=(((Keeps.refl (fun q=>q=b3) w10).setCell (p:=⟨b3,0,none⟩) (fun _=>rfl) _).setCell (p:=⟨b3,1,none⟩) (fun _=>rfl) _).setCell (p:=⟨b3,2,none⟩) (fun _=>rfl) _;have hrow:zC (((w10.setCell ⟨b3,0,none⟩ (.int .i64 0)).setCell ⟨b3,1,none⟩ (.int .i64 0)).setCell ⟨b3,2,none⟩ (.string { data:=#[] })) b3 [.int .i64 0, .int .i64 0, .string { data:=#[] }]:=((R3E.out.set 0 (by simp) _).set 1 (by simp) _).set 2 (by simp) _;generalize ((w10.setCell ⟨b3,0,none⟩ (.int .i64 0)).setCell ⟨b3,1,none⟩ (.int .i64 0)).setCell ⟨b3,2,none⟩ (.string { data:=#[] })=wE at hrow hks ⊢;refine bodyPost_ret (v:=.tuple #[.slice ad 2 c, .agg #[.int .i64 0, .int .i64 0, .string { data:=#[] }]]) (J204 _) rfl ?_
 refine ⟨⟨_,_,rfl,zF HO.out hks (fun kb e h=>?_)⟩,(K1.out.zB K14.out).trans hks (fun q hq e=>by have e':q=b3:=e;have:=HB.out;omega)⟩
 have h':kb=b3:=h;subst h';have hb3:kb < w1.heap.size:=R3.out.lt (by simp);rcases HOB.out kb e with h2 | h2
 ·have:=HNB.out kb h2;omega
 ·have h3:kb=(w9.alloc (.cells #[.int .i64 5, .string { data:=#[] }, .int .i64 0, .int .i64 1] 291)).heap.size:=h2
  have h4:=(K7.out.zB (K8.out.zB G1.out)).size;rw [h3] at hb3;simp at hb3;omega
theorem zKt (w:World):Calls Tryz.prog 133 #[.string { data:=#[] }] w fun e w'=>e=.returned (.bool false) /\ Keeps zA w w':=by
 go_enter Tryz.func133,Tryz.ntmps133
 go_wp2_with (go_at_call 188;refine (zKz _).mono ?_;rintro e w2 ⟨⟨ad,c,rfl⟩,g1⟩;have G1:=Lib.hid g1;clear g1)
 go_ret
 exact ⟨rfl,G1.out.alloc _⟩
theorem zKe (w:World):Calls Tryz.prog 133 #[.string { data:=#[120] }] w fun e w'=>e=.returned (.bool true) /\ Keeps zA w w':=by
 go_enter Tryz.func133,Tryz.ntmps133
 go_upto_region 4 with (go_at_call 188;refine (zLx _).mono ?_;rintro e w2 ⟨⟨ad,c,rfl,ho⟩,g1⟩;have G1:=Lib.hid g1;have HO:=Lib.hid ho;clear g1 ho)
 obtain ⟨g,cap,hv,_,_⟩:=HO.out.form (by decide);have hv2:ad=some ⟨g,0,none⟩ /\ c=cap:=by simpa using hv
 obtain ⟨rfl,rfl⟩:=hv2;have hr:=zC.zAM HO.out;obtain ⟨b4,hb4⟩:=eX w2.heap.size;have r4:zC (w2.alloc (.cells #[.int .i64 0, .int .i64 0, .string { data:=#[] }] 287)) b4 [.int .i64 0, .int .i64 0, .string { data:=#[] }]:=by rw [hb4];exact zC.zG (heap_alloc_new w2 _)
 have k3:Keeps zA w (w2.alloc (.cells #[.int .i64 0, .int .i64 0, .string { data:=#[] }] 287)):=G1.out.alloc _;have hr3:=hr.alloc (.cells #[.int .i64 0, .int .i64 0, .string { data:=#[] }] 287);rw [<- hb4];generalize w2.alloc (.cells #[.int .i64 0, .int .i64 0, .string { data:=#[] }] 287)=w3 at r4 k3 hr3 ⊢;obtain ⟨d0,d1,d2⟩:=r4.three;have c0:=hr3.cell (k:=0) (v:=.int .i64 1) rfl;have c1:=hr3.cell (k:=1) (v:=.string { data:=#[120] }) rfl;have K3:=Lib.hid k3;clear hr hr3 r4 k3 hb4 hv HO G1;go_wp2_with fail
 go_ret
 exact ⟨rfl,K3.out⟩
theorem zBB (s:ByteArray) (hs:s=xNm \/ s=zn) (w:World):Calls Tryz.prog 133 #[.string s] w fun e w'=>e=.returned (.bool (zFw s)) /\ Keeps zA w w':=by
 rcases hs with rfl | rfl
 ·exact zKe w
 ·exact zKt w
theorem zKO (s:ByteArray) (hs:s=xNm \/ s=zn) (must:Bool) (w:World):Calls Tryz.prog 190 #[.string s, .bool must] w fun e w'=>e=.returned (.bool (zBi s must)) /\ Keeps zA w w':=by
 have HI:=Lib.hid (zBB s hs);obtain ⟨q,hq⟩:=eX (zFw s);have hm:zBi s must=(must&&q || !must&&zV s):=by rw [hq];rfl
 rw [<- hq] at HI;rw [hm];clear hm hq;cases must
 ·cases hn:zV s
  ·have h1:=zAj hn
   have h2:=zAc hn;go_enter Tryz.func190,Tryz.ntmps190
   exact J32 _
  ·have h1:=zAm hn
   go_enter Tryz.func190,Tryz.ntmps190
   exact J32 _
 ·cases q
  ·exact J76 _
  ·exact J76 _
end Go.Proofs.YtoapgjjepiopbaaGreatDoor
namespace Go.Proofs.YtoapgjjepiopbaaGreatDoor
open Go.RowKit Go.WideMaps Go.Maps
def flA (f:Fl):Value:=.agg #[.bool f.reg, .bool f.name, .bool f.ex, .bool f.count, .bool f.thn, .bool f.els]
def flD (f:Fl):DataW Unit:=.agg [.lit (.bool f.reg), .lit (.bool f.name), .lit (.bool f.ex), .lit (.bool f.count), .lit (.bool f.thn), .lit (.bool f.els)]
def zAZ:Value -> Option (DataW Unit × List MemPlace)
 | .agg cs=>match cs.toList with
   | [.bool a, .bool b, .bool c, .bool d, .bool e, .bool f]=>some (.agg [.lit (.bool a), .lit (.bool b), .lit (.bool c), .lit (.bool d), .lit (.bool e), .lit (.bool f)],[])
   | _=>none
 | _=>none
theorem zJe (f:Fl):zAZ (flA f)=some (flD f,[]):=rfl
theorem zIc {v:Value} {f:Fl} {ps:List MemPlace} (h:zAZ v=some (flD f,ps)):v=flA f:=by
 unfold zAZ at h;split at h
 ·rename_i cs
  split at h
  ·rename_i a b c d e g hl
   simp only [flD,Option.some.injEq,Prod.mk.injEq,DataW.agg.injEq,List.cons.injEq,DataW.lit.injEq,Lit.bool.injEq,and_true] at h;obtain ⟨⟨rfl,rfl,rfl,rfl,rfl,rfl⟩,_⟩:=h;obtain ⟨l⟩:=cs;simp only at hl;subst hl;rfl
  ·cases h
 ·cases h
theorem zCz:Keyed Tryz.prog 3:=int_keyed Tryz.underlying3
theorem zBg (k:Int) (h:-9223372036854775808 <= k /\ k < 9223372036854775808):keyOf Tryz.prog 3 (.int .i64 k)=some (.int .i64 k) :=
 keyOf_int_mk Tryz.underlying3 (by simp [Lit.wf,IntKind.min,IntKind.max,IntKind.signed,IntKind.bits];omega)
def shD:Nat -> DataW Unit
 | 0=>.map []
 | n+1=>(shD n).put (.int .i64 (n+1)) (flD (fields (n+1)))
theorem zEB (k:Int) (hk:¬ (1 <= k /\ k <= 11)):∀ n,n <= 11 -> Maps.has (shD n) (.int .i64 k)=false
 | 0,_=>rfl
 | n+1,hn=>by
   show Maps.has ((shD n).put _ _) _=false
   rw [Maps.has_put_other (by intro e;simp only [Lit.int.injEq,true_and] at e;omega)];exact zEB k hk n (by omega)
theorem zEn (k:Int) (hk:¬ (1 <= k /\ k <= 11)) (z:DataW Unit):∀ n,n <= 11 -> (shD n).atKey (.int .i64 k) z=z
 | 0,_=>rfl
 | n+1,hn=>by
   show ((shD n).put _ _).atKey _ _=z
   rw [Maps.atKey_put_other (by intro e;simp only [Lit.int.injEq,true_and] at e;omega)];exact zEn k hk z n (by omega)
theorem zEX:∀ n,Maps.IsMap (shD n)
 | 0=>⟨_,rfl⟩
 | n+1=>by
   obtain ⟨es,e⟩:=zEX n;show Maps.IsMap ((shD n).put _ _)
   rw [e];exact ⟨_,rfl⟩
theorem isKey (k:Int):WideAt.IsKeyLit (.int .i64 k):=by
 unfold WideAt.IsKeyLit;trivial
theorem zKo (j:Nat) (hj:1 <= j) (z:DataW Unit):∀ n,j <= n -> n <= 11 -> Maps.has (shD n) (.int .i64 j)=true /\ (shD n).atKey (.int .i64 j) z=flD (fields j)
 | 0,h,_=>by omega
 | n+1,h,hn=>by
   by_cases e:j=n+1
   ·subst e
    show Maps.has ((shD n).put (.int .i64 (n+1)) _) (.int .i64 (n+1))=true /\ ((shD n).put (.int .i64 (n+1)) (flD (fields (n+1)))).atKey (.int .i64 (n+1)) z=flD (fields (n+1))
    exact ⟨Maps.has_put_same (zEX n) (isKey _) _,Maps.atKey_put_same (zEX n) (isKey _) _ _⟩
   ·have h2:=zKo j hj z n (by omega) (by omega)
    have hne:Lit.int .i64 (j:Int) ≠ .int .i64 ((n:Int)+1):=by intro e2;simp only [Lit.int.injEq,true_and] at e2;omega
    show Maps.has ((shD n).put (.int .i64 (n+1)) _) _=true /\ ((shD n).put (.int .i64 (n+1)) _).atKey _ z=_
    rw [Maps.has_put_other hne,Maps.atKey_put_other hne];exact h2
theorem zIr (k:Int):Maps.has (shD 11) (.int .i64 k)=decide (1 <= k /\ k <= 11) /\ (shD 11).atKey (.int .i64 k) (flD ⟨false,false,false,false,false,false⟩)=flD (fields k):=by
 by_cases hk:1 <= k /\ k <= 11
 ·obtain ⟨j,rfl⟩:∃ j:Nat,k=j:=⟨k.toNat,by omega⟩
  rw [decide_eq_true hk];exact zKo j (by omega) _ 11 (by omega) (by omega)
 ·rw [decide_eq_false hk,zDM hk]
  exact ⟨zEB k hk 11 (by omega),zEn k hk _ 11 (by omega)⟩
theorem zH3 (w:World):Calls Tryz.prog 189 #[] w fun e w'=>∃ b,e=.returned (.map (some b)) /\ w'.ownsMap Tryz.prog 3 zAZ b 11 (shD 11) /\ Keeps zA w w':=by
 have hmm:=@run_makeMap Tryz.prog;go_enter Tryz.func189,Tryz.ntmps189
 go_upto_region 2 with fail
 obtain ⟨b1,hb1⟩:=eX w.heap.size;have hr1:zC (w.alloc (.cells #[.bool false, .bool true, .bool false, .bool false, .bool false, .bool false] 293)) b1 [.bool false, .bool true, .bool false, .bool false, .bool false, .bool false]:=J150 _;have hk1:Keeps zA w (w.alloc (.cells #[.bool false, .bool true, .bool false, .bool false, .bool false, .bool false] 293)):=(Keeps.refl _ _).alloc _;rw [<- hb1];generalize w.alloc (.cells #[.bool false, .bool true, .bool false, .bool false, .bool false, .bool false] 293)=w1 at hr1 hk1 ⊢;have R1:=Lib.hid hr1;have K1:=Lib.hid hk1;have hlt:b1 < w1.heap.size:=hr1.lt (by simp);clear hr1 hk1 hb1;have h0:(w1.alloc (.map #[] 0)).ownsMap Tryz.prog 3 zAZ w1.heap.size 0 (shD 0):=World.ownsMap_made _ _ _ _;have k0:Keeps (fun q=>q=w1.heap.size) w1 (w1.alloc (.map #[] 0)):=((Keeps.refl _ _).alloc _);obtain ⟨W1,e1,h1,g1⟩:=h0.update zCz Tryz.underlying295 (by unfold maxLen;omega) (zBg 1 (by omega)) (show zAZ (.agg #[.bool true, .bool false, .bool true, .bool false, .bool false, .bool false])=some (flD (fields 1),[]) from rfl);have k1:Keeps (fun q=>q=w1.heap.size) w1 W1:=k0.grown g1 (fun k e _=>by cases e;rfl);clear g1;obtain ⟨W2,e2,h2,g2⟩:=h1.update zCz Tryz.underlying295 (by unfold maxLen;omega) (zBg 2 (by omega)) (show zAZ (.agg #[.bool true, .bool true, .bool false, .bool false, .bool false, .bool false])=some (flD (fields 2),[]) from rfl);have k2:Keeps (fun q=>q=w1.heap.size) w1 W2:=k1.grown g2 (fun k e _=>by cases e;rfl);clear g2;obtain ⟨W3,e3,h3,g3⟩:=h2.update zCz Tryz.underlying295 (by unfold maxLen;omega) (zBg 3 (by omega)) (show zAZ (.agg #[.bool false, .bool true, .bool true, .bool false, .bool false, .bool false])=some (flD (fields 3),[]) from rfl);have k3:Keeps (fun q=>q=w1.heap.size) w1 W3:=k2.grown g3 (fun k e _=>by cases e;rfl);clear g3;obtain ⟨W4,e4,h4,g4⟩:=h3.update zCz Tryz.underlying295 (by unfold maxLen;omega) (zBg 4 (by omega)) (show zAZ (.agg #[.bool true, .bool true, .bool true, .bool false, .bool false, .bool false])=some (flD (fields 4),[]) from rfl)
 have k4:Keeps (fun q=>q=w1.heap.size) w1 W4:=k3.grown g4 (fun k e _=>by cases e;rfl);clear g4;have r4:=R1.out.keeps k4 (fun e=>by exact J208 _);have c40:=r4.cell (k:=0) (v:=.bool false) rfl;have c41:=r4.cell (k:=1) (v:=.bool true) rfl;have c42:=r4.cell (k:=2) (v:=.bool false) rfl;have c43:=r4.cell (k:=3) (v:=.bool false) rfl;have c44:=r4.cell (k:=4) (v:=.bool false) rfl;have c45:=r4.cell (k:=5) (v:=.bool false) rfl;clear r4;obtain ⟨W5,e5,h5,g5⟩:=h4.update zCz Tryz.underlying295 (by unfold maxLen;omega) (zBg 5 (by omega)) (show zAZ (.agg #[.bool false, .bool true, .bool false, .bool false, .bool false, .bool false])=some (flD (fields 5),[]) from rfl);have k5:Keeps (fun q=>q=w1.heap.size) w1 W5:=k4.grown g5 (fun k e _=>by cases e;rfl);clear g5;have r5:=R1.out.keeps k5 (fun e=>by exact J208 _);have c50:=r5.cell (k:=0) (v:=.bool false) rfl;have c51:=r5.cell (k:=1) (v:=.bool true) rfl;have c52:=r5.cell (k:=2) (v:=.bool false) rfl;have c53:=r5.cell (k:=3) (v:=.bool false) rfl;have c54:=r5.cell (k:=4) (v:=.bool false) rfl;have c55:=r5.cell (k:=5) (v:=.bool false) rfl;clear r5;obtain ⟨W6,e6,h6,g6⟩:=h5.update zCz Tryz.underlying295 (by unfold maxLen;omega) (zBg 6 (by omega)) (show zAZ (.agg #[.bool false, .bool true, .bool false, .bool false, .bool false, .bool false])=some (flD (fields 6),[]) from rfl);have k6:Keeps (fun q=>q=w1.heap.size) w1 W6:=k5.grown g6 (fun k e _=>by cases e;rfl);clear g6;have r6:=R1.out.keeps k6 (fun e=>by exact J208 _);have c60:=r6.cell (k:=0) (v:=.bool false) rfl;have c61:=r6.cell (k:=1) (v:=.bool true) rfl;have c62:=r6.cell (k:=2) (v:=.bool false) rfl;have c63:=r6.cell (k:=3) (v:=.bool false) rfl;have c64:=r6.cell (k:=4) (v:=.bool false) rfl;have c65:=r6.cell (k:=5) (v:=.bool false) rfl;clear r6;obtain ⟨W7,e7,h7,g7⟩:=h6.update zCz Tryz.underlying295 (by unfold maxLen;omega) (zBg 7 (by omega)) (show zAZ (.agg #[.bool false, .bool true, .bool false, .bool false, .bool false, .bool false])=some (flD (fields 7),[]) from rfl);have k7:Keeps (fun q=>q=w1.heap.size) w1 W7:=k6.grown g7 (fun k e _=>by cases e;rfl)
 clear g7;have r7:=R1.out.keeps k7 (fun e=>by exact J208 _);have c70:=r7.cell (k:=0) (v:=.bool false) rfl;have c71:=r7.cell (k:=1) (v:=.bool true) rfl;have c72:=r7.cell (k:=2) (v:=.bool false) rfl;have c73:=r7.cell (k:=3) (v:=.bool false) rfl;have c74:=r7.cell (k:=4) (v:=.bool false) rfl;have c75:=r7.cell (k:=5) (v:=.bool false) rfl;clear r7;obtain ⟨W8,e8,h8,g8⟩:=h7.update zCz Tryz.underlying295 (by unfold maxLen;omega) (zBg 8 (by omega)) (show zAZ (.agg #[.bool false, .bool true, .bool false, .bool false, .bool false, .bool false])=some (flD (fields 8),[]) from rfl);have k8:Keeps (fun q=>q=w1.heap.size) w1 W8:=k7.grown g8 (fun k e _=>by cases e;rfl);clear g8;obtain ⟨W9,e9,h9,g9⟩:=h8.update zCz Tryz.underlying295 (by unfold maxLen;omega) (zBg 9 (by omega)) (show zAZ (.agg #[.bool false, .bool false, .bool true, .bool false, .bool false, .bool false])=some (flD (fields 9),[]) from rfl);have k9:Keeps (fun q=>q=w1.heap.size) w1 W9:=k8.grown g9 (fun k e _=>by cases e;rfl);clear g9;obtain ⟨W10,e10,h10,g10⟩:=h9.update zCz Tryz.underlying295 (by unfold maxLen;omega) (zBg 10 (by omega)) (show zAZ (.agg #[.bool false, .bool false, .bool true, .bool false, .bool true, .bool true])=some (flD (fields 10),[]) from rfl);have k10:Keeps (fun q=>q=w1.heap.size) w1 W10:=k9.grown g10 (fun k e _=>by cases e;rfl);clear g10;obtain ⟨W11,e11,h11,g11⟩:=h10.update zCz Tryz.underlying295 (by unfold maxLen;omega) (zBg 11 (by omega)) (show zAZ (.agg #[.bool false, .bool false, .bool false, .bool true, .bool true, .bool false])=some (flD (fields 11),[]) from rfl);have k11:Keeps (fun q=>q=w1.heap.size) w1 W11:=k10.grown g11 (fun k e _=>by cases e;rfl);clear g11;have HE:Hid (W11.ownsMap Tryz.prog 3 zAZ w1.heap.size 11 (shD 11)):=h11;have KE:Hid (Keeps zA w W11):=K1.out.trans (k11.mono (S:=fun q=>w1.heap.size <= q) (fun q _ e=>by have e':q=w1.heap.size:=e;omega)) (fun q hq e=>by have:=K1.out.size;omega);clear h0 h1 h2 h3 h4 h5 h6 h7 h8 h9 h10 h11 k0 k1 k2 k3 k4 k5 k6 k7 k8 k9 k10 k11
 go_wp2_with fail
 go_ret
 exact ⟨_,rfl,HE.out,KE.out⟩
end Go.Proofs.YtoapgjjepiopbaaGreatDoor
