/- Layer N: texts joined. -/
import Derived.Test.YtoapgjjepiopbaaGreatDoorN05
set_option linter.all false
set_option maxHeartbeats 1000000
set_option maxRecDepth 8000
namespace Go.Proofs.YtoapgjjepiopbaaGreatDoor
open Go.RowKit
theorem J11 (P:Prop) (h:P:=by
 have r4:=R3.out.keeps k3 (fun h=>h);obtain ⟨a0,a1,a2⟩:=r4.three;obtain ⟨d0,d1,d2,d3⟩:=r5.four;have f0:=r4.free (k:=0) (by simp);have f1:=r4.free (k:=1) (by simp);have f2:=r4.free (k:=2) (by simp);have R4:=Lib.hid r4;have KE:Hid (Keeps zA w w3):=K1.out.zB k3;clear r4 k3 r5 hb5;go_wp2_with fail
 have hks:Keeps (fun q=>q=b3) w3 (((w3.setCell ⟨b3,0,none⟩ (.int .i64 0)).setCell ⟨b3,1,none⟩ (.int .i64 0)).setCell ⟨b3,2,none⟩ (.string { data:=#[] })):=(((Keeps.refl (fun q=>q=b3) w3).setCell (p:=⟨b3,0,none⟩) (fun _=>rfl) _).setCell (p:=⟨b3,1,none⟩) (fun _=>rfl) _).setCell (p:=⟨b3,2,none⟩) (fun _=>rfl) _;have hrow:zC (((w3.setCell ⟨b3,0,none⟩ (.int .i64 0)).setCell ⟨b3,1,none⟩ (.int .i64 0)).setCell ⟨b3,2,none⟩ (.string { data:=#[] })) b3 [.int .i64 0, .int .i64 0, .string { data:=#[] }]:=((R4.out.set 0 (by simp) _).set 1 (by simp) _).set 2 (by simp) _;generalize ((w3.setCell ⟨b3,0,none⟩ (.int .i64 0)).setCell ⟨b3,1,none⟩ (.int .i64 0)).setCell ⟨b3,2,none⟩ (.string { data:=#[] })=wE at hrow hks ⊢;refine bodyPost_ret (v:=.tuple #[.slice ad n c, .agg #[.int .i64 0, .int .i64 0, .string { data:=#[] }]]) (by simp [results,Tryz.results224,go_sem,hrow.cell (k:=0) rfl,hrow.cell (k:=1) rfl,hrow.cell (k:=2) rfl]) rfl ?_
 exact ⟨⟨_,_,_,rfl⟩,KE.out.trans hks (fun q hq e=>by have e':q=b3:=e;have:=HB.out;omega)⟩):P:=h
theorem J108 (P:Prop) (h:P:=by exact ⟨⟨_,_,_,_,_,_,rfl⟩,KE.out.trans hks (fun q hq e=>by have e':q=b3:=e;have:=HB.out;omega)⟩):P:=h
theorem J117 (P:Prop) (h:P:=by
 have e0:vs 0=_:=hd 0 (by kernel_rfl);rw [e0] at hK ⊢;exact J3 _):P:=h
theorem J127 (P:Prop) (h:P:=by
 have e1:vs 1=_:=hd 1 (by kernel_rfl);rw [e1] at hK ⊢;exact J3 _):P:=h
theorem J161 (P:Prop) (h:P:=by intro q hq;simp only [List.mem_cons,List.not_mem_nil,or_false] at hq;rcases hq with rfl | rfl | rfl | rfl <;> rfl):P:=h
theorem J164 (P:Prop) (h:P:=by rw [hb3];exact (zC.zG (heap_alloc_new w _)).alloc _):P:=h
theorem J169 (P:Prop) (h:P:=by rw [hb3];exact zC.zG (heap_alloc_new w _)):P:=h
theorem J183 (P:Prop) (h:P:=by rw [hb5];exact zC.zG (heap_alloc_new w2 _)):P:=h
theorem J194 (P:Prop) (h:P:=by simp [results,Tryz.results256,go_sem,hrow.cell (k:=0) rfl,hrow.cell (k:=1) rfl,hrow.cell (k:=2) rfl,hrow.cell (k:=3) rfl]):P:=h
theorem zKr (w:World):Calls Tryz.prog 289 #[.int .i64 120] w fun e w'=>e=.returned (.bool true) /\ Keeps zA w w':=by
 go_enter Tryz.func289,Tryz.ntmps289
 exact J32 _
theorem zMK (w:World):Calls Tryz.prog 257 #[.int .i64 120] w fun e w'=>e=.returned (.bool false) /\ Keeps zA w w':=by
 go_enter Tryz.func257,Tryz.ntmps257
 exact J32 _
theorem zM1 (w:World):Calls Tryz.prog 262 #[.int .i64 120] w fun e w'=>e=.returned (.bool false) /\ Keeps zA w w':=by
 go_enter Tryz.func262,Tryz.ntmps262
 exact J32 _
theorem zLP (w:World):Calls Tryz.prog 259 #[.int .i32 120] w fun e w'=>e=.returned (.bool true) /\ Keeps zA w w':=by
 go_enter Tryz.func259,Tryz.ntmps259
 go_wp2_with (go_at_call 289;refine (zKr _).mono ?_;rintro e w1 ⟨rfl,g1⟩;have G1:=Lib.hid g1;clear g1)
 go_ret
 exact ⟨rfl,G1.out⟩
theorem zJQ (w:World):Calls Tryz.prog 287 #[.int .i32 120] w fun e w'=>e=.returned (.int .i64 1) /\ Keeps zA w w':=by
 go_enter Tryz.func287,Tryz.ntmps287
 exact J32 _
theorem zLi (w:World):Calls Tryz.prog 258 #[.string { data:=#[120] }] w fun e w'=>e=.returned (.tuple #[.int .i32 120, .int .i64 1]) /\ Keeps zA w w':=by
 go_enter Tryz.func258,Tryz.ntmps258
 go_wp2_with fail
 go_ret2
 exact ⟨rfl,Keeps.refl _ _⟩
theorem zGO (w:World) (ty:TypeId):(Instr.next (.pointer (some ⟨w.heap.size,0,none⟩)) true ty).run Tryz.prog (w.iter { data:=#[120] } 0)=.ok (.tuple #[.bool true, .int .i64 0, .int .i32 120]) (w.iter { data:=#[120] } 1) :=
 run_next_ascii w { data:=#[120] } 0 ty (by decide) (by decide)
theorem zMI (w:World) (ty:TypeId):(Instr.next (.pointer (some ⟨w.heap.size,0,none⟩)) true ty).run Tryz.prog (w.iter { data:=#[120] } 1)=.ok (.tuple #[.bool false]) (w.iter { data:=#[120] } 1) :=
 run_next_end w { data:=#[120] } 1 ty (by decide)
theorem zKd (w:World) (ty:TypeId):(Instr.next (.pointer (some ⟨w.heap.size,0,none⟩)) true ty).run Tryz.prog (w.iter { data:=#[] } 0)=.ok (.tuple #[.bool false]) (w.iter { data:=#[] } 0) :=
 run_next_end w { data:=#[] } 0 ty (by decide)
theorem zHb (w:World):Calls Tryz.prog 225 #[.string { data:=#[] }] w fun e w'=>e=.returned (.int .i64 0) /\ Keeps zA w w':=by
 have h1:=zKd w;go_enter Tryz.func225,Tryz.ntmps225
 go_wp2_with fail
 refine wp_loop_rounds 1 ?_
 rw [rounds_succ];go_wp2_with fail
 go_ret
 exact ⟨rfl,(Keeps.refl _ _).alloc _⟩
theorem zKc (w:World):Calls Tryz.prog 225 #[.string { data:=#[120] }] w fun e w'=>e=.returned (.int .i64 0) /\ Keeps zA w w':=by
 have h1:=zGO w;go_enter Tryz.func225,Tryz.ntmps225
 go_wp2_with fail
 refine wp_loop_rounds 1 ?_
 rw [rounds_succ];go_wp2_with (go_at_call 257;refine (zMK _).mono ?_;rintro e w1 ⟨rfl,g1⟩;have G1:=Lib.hid g1;clear g1)
 go_ret
 exact ⟨rfl,((Keeps.refl zA w).alloc _).zB G1.out⟩
theorem zOA (w:World):Calls Tryz.prog 261 #[.string { data:=#[120] }] w fun e w'=>e=.returned (.string { data:=#[120] }) /\ Keeps zA w w':=by
 have h1:=zGO w;go_enter Tryz.func261,Tryz.ntmps261
 go_wp2_with fail
 refine wp_loop_rounds 2 ?_
 rw [rounds_succ];go_wp2_with (go_at_call 259;refine (zLP _).mono ?_;rintro e w1 ⟨rfl,g1⟩;have G1:=Lib.hid g1;clear g1)
 have h2:∀ ty,(Instr.next (.pointer (some ⟨w.heap.size,0,none⟩)) true ty).run Tryz.prog w1=.ok (.tuple #[.bool false]) w1:=fun ty =>
  Lib.run_next_end_at w1 w.heap.size { data:=#[120] } 1 ty (G1.out.heap (fun h=>h) (World.iter_heap w _ 1)) (by decide)
 rw [rounds_succ];go_wp2_with fail
 go_ret
 exact ⟨rfl,((Keeps.refl zA w).alloc _).zB G1.out⟩
theorem zLU:(Tryz.prog.info? 389).map (fun i=>(i.zero,i.size,i.bytes))=some (some (.agg #[.int .i64 0, .int .i64 0, .int .i64 0, .int .i64 0]),4,32):=by kernel_rfl
theorem zOB (w:World):Calls Tryz.prog 256 #[.string { data:=#[] }] w fun e w'=>(∃ ad n c r l k,e=.returned (.tuple #[.slice ad n c, .agg #[.int .i64 r, .int .i64 0, .int .i64 l, .int .i64 k]])) /\ Keeps zA w w':=by
 go_enter Tryz.func256,Tryz.ntmps256
 go_upto_region 3 with fail
 obtain ⟨b3,hb3⟩:=eX w.heap.size;obtain ⟨b5,hb5⟩:=eX (w.heap.size+1);have hr3:zC ((w.alloc (.cells #[.int .i64 0, .int .i64 0, .int .i64 0, .int .i64 0] 389)).alloc (.cells #[.int .i64 (-1), .int .i64 0, .int .i64 1, .int .i64 1] 389)) b3 [.int .i64 0, .int .i64 0, .int .i64 0, .int .i64 0]:=J164 _;have hr5:zC ((w.alloc (.cells #[.int .i64 0, .int .i64 0, .int .i64 0, .int .i64 0] 389)).alloc (.cells #[.int .i64 (-1), .int .i64 0, .int .i64 1, .int .i64 1] 389)) b5 [.int .i64 (-1), .int .i64 0, .int .i64 1, .int .i64 1]:=by rw [hb5];exact zC.zG (zW w _ _)
 have hk1:Keeps zA w ((w.alloc (.cells #[.int .i64 0, .int .i64 0, .int .i64 0, .int .i64 0] 389)).alloc (.cells #[.int .i64 (-1), .int .i64 0, .int .i64 1, .int .i64 1] 389)):=((Keeps.refl _ _).alloc _).alloc _;have hne:b3 ≠ b5:=by omega
 have HB:Hid (w.heap.size <= b3 /\ w.heap.size <= b5):=⟨by omega,by omega⟩;rw [<- hb5,<- hb3];generalize (w.alloc (.cells #[.int .i64 0, .int .i64 0, .int .i64 0, .int .i64 0] 389)).alloc (.cells #[.int .i64 (-1), .int .i64 0, .int .i64 1, .int .i64 1] 389)=w1 at hr3 hr5 hk1 ⊢;have R3:=Lib.hid hr3;have R5:=Lib.hid hr5;have K1:=Lib.hid hk1;clear hr3 hr5 hk1 hb3 hb5;have h1:=zKd w1;go_wp2_with fail
 refine wp_loop_rounds 1 ?_
 rw [rounds_succ];go_upto_region 16 with fail
 generalize hw2:w1.iter { data:=#[] } 0=w2;have K2:Keeps zA w1 w2:=by rw [<- hw2];exact (Keeps.refl zA w1).alloc _
 clear h1 hw2;have r4:=R3.out.keeps K2 (fun h=>h);have rb:=R5.out.keeps K2 (fun h=>h);have KE:=Lib.hid (K1.out.zB K2);obtain ⟨a0,a1,a2,a3⟩:=r4.four;obtain ⟨d0,d1,d2,d3⟩:=rb.four;have f0:=r4.free (k:=0) (by simp);have f1:=r4.free (k:=1) (by simp);have f2:=r4.free (k:=2) (by simp);have f3:=r4.free (k:=3) (by simp);have R4:=Lib.hid r4;clear r4 rb;clear K2;go_region
 all_goals (try go_wp2_with fail)
 have hks:Keeps (fun q=>q=b3) (w2) ((((((w2).setCell ⟨b3,0,none⟩ (.int .i64 (-1))).setCell ⟨b3,1,none⟩ (.int .i64 0)).setCell ⟨b3,2,none⟩ (.int .i64 1)).setCell ⟨b3,3,none⟩ (.int .i64 1)).drew):=(((((Keeps.refl (fun q=>q=b3) (w2)).setCell (p:=⟨b3,0,none⟩) (fun _=>rfl) _).setCell (p:=⟨b3,1,none⟩) (fun _=>rfl) _).setCell (p:=⟨b3,2,none⟩) (fun _=>rfl) _).setCell (p:=⟨b3,3,none⟩) (fun _=>rfl) _).drew;have hrow:zC ((((((w2).setCell ⟨b3,0,none⟩ (.int .i64 (-1))).setCell ⟨b3,1,none⟩ (.int .i64 0)).setCell ⟨b3,2,none⟩ (.int .i64 1)).setCell ⟨b3,3,none⟩ (.int .i64 1)).drew) b3 [.int .i64 (-1), .int .i64 0, .int .i64 1, .int .i64 1]:=((((R4.out.set 0 (by simp) _).set 1 (by simp) _).set 2 (by simp) _).set 3 (by simp) _).keeps (S:=zA) ((Keeps.refl _ _).drew) (fun h=>h);generalize (((((w2).setCell ⟨b3,0,none⟩ (.int .i64 (-1))).setCell ⟨b3,1,none⟩ (.int .i64 0)).setCell ⟨b3,2,none⟩ (.int .i64 1)).setCell ⟨b3,3,none⟩ (.int .i64 1)).drew=wE at hrow hks ⊢;refine bodyPost_ret (v:=.tuple #[.slice none 0 0, .agg #[.int .i64 (-1), .int .i64 0, .int .i64 1, .int .i64 1]]) (J194 _) rfl ?_
 exact J108 _
theorem zN5 (w:World):Calls Tryz.prog 256 #[.string { data:=#[120] }] w fun e w'=>(∃ ad n c r l k,e=.returned (.tuple #[.slice ad n c, .agg #[.int .i64 r, .int .i64 1, .int .i64 l, .int .i64 k]])) /\ Keeps zA w w':=by
 go_enter Tryz.func256,Tryz.ntmps256
 go_upto_region 3 with fail
 obtain ⟨b3,hb3⟩:=eX w.heap.size;obtain ⟨b5,hb5⟩:=eX (w.heap.size+1);have hr3:zC ((w.alloc (.cells #[.int .i64 0, .int .i64 0, .int .i64 0, .int .i64 0] 389)).alloc (.cells #[.int .i64 (-1), .int .i64 0, .int .i64 1, .int .i64 1] 389)) b3 [.int .i64 0, .int .i64 0, .int .i64 0, .int .i64 0]:=J164 _;have hr5:zC ((w.alloc (.cells #[.int .i64 0, .int .i64 0, .int .i64 0, .int .i64 0] 389)).alloc (.cells #[.int .i64 (-1), .int .i64 0, .int .i64 1, .int .i64 1] 389)) b5 [.int .i64 (-1), .int .i64 0, .int .i64 1, .int .i64 1]:=by rw [hb5];exact zC.zG (zW w _ _)
 have hk1:Keeps zA w ((w.alloc (.cells #[.int .i64 0, .int .i64 0, .int .i64 0, .int .i64 0] 389)).alloc (.cells #[.int .i64 (-1), .int .i64 0, .int .i64 1, .int .i64 1] 389)):=((Keeps.refl _ _).alloc _).alloc _;have hne:b3 ≠ b5:=by omega
 have HB:Hid (w.heap.size <= b3 /\ w.heap.size <= b5):=⟨by omega,by omega⟩;rw [<- hb5,<- hb3];generalize (w.alloc (.cells #[.int .i64 0, .int .i64 0, .int .i64 0, .int .i64 0] 389)).alloc (.cells #[.int .i64 (-1), .int .i64 0, .int .i64 1, .int .i64 1] 389)=w1 at hr3 hr5 hk1 ⊢;have R3:=Lib.hid hr3;have R5:=Lib.hid hr5;have K1:=Lib.hid hk1;clear hr3 hr5 hk1 hb3 hb5;have h1:=zGO w1;obtain ⟨j0,hj0,hz0,hz1,hz2⟩:=info_parts zLU;obtain ⟨d0,d1,d2,d3⟩:=R5.out.four;have f0:=R5.out.free (k:=0) (by simp);go_wp2_with fail
 refine wp_loop_rounds 2 ?_
 rw [rounds_succ];go_upto_region 8 with fail
 obtain ⟨w2,hw2⟩:∃ z,z=w1.iter { data:=#[120] } 1:=⟨_,rfl⟩
 obtain ⟨b10,hb10⟩:=eX w1.heap.size;have hk2:Keeps zA w1 w2:=by rw [hw2];exact (Keeps.refl zA w1).alloc _
 have hi2:w2.heap[b10]?=some (.stringIter { data:=#[120] } 1):=by rw [hw2,hb10];exact World.iter_heap w1 _ 1
 have hb5:b5 < b10:=by rw [hb10];exact R5.out.lt (by simp)
 have hb3:b3 < b10:=by rw [hb10];exact R3.out.lt (by simp)
 rw [<- hw2,<- hb10];have R3':Hid (zC w2 b3 [.int .i64 0, .int .i64 0, .int .i64 0, .int .i64 0]):=R3.out.keeps hk2 (fun h=>h);have R5':Hid (zC w2 b5 [.int .i64 (-1), .int .i64 0, .int .i64 1, .int .i64 1]):=R5.out.keeps hk2 (fun h=>h);have KW:Hid (Keeps zA w w2):=K1.out.zB hk2;clear h1 hw2 hb10 hk2 R3 R5 K1 d0 d1 d2 d3 f0;obtain ⟨d0,d1,d2,d3⟩:=R5'.out.four;have f0:=R5'.out.free (k:=0) (by simp);have HI2:=Lib.hid hi2;clear hi2;go_upto_region 9 with fail
 have r5:zC (w2.setCell ⟨b5,0,none⟩ (.int .i64 120)) b5 [.int .i64 120, .int .i64 0, .int .i64 1, .int .i64 1]:=R5'.out.set 0 (by simp) _;have k3:Keeps (fun q=>q=b5) w2 (w2.setCell ⟨b5,0,none⟩ (.int .i64 120)):=(Keeps.refl (fun q=>q=b5) w2).setCell (p:=⟨b5,0,none⟩) (fun _=>rfl) _;generalize w2.setCell ⟨b5,0,none⟩ (.int .i64 120)=w3 at r5 k3 ⊢;clear d0 d1 d2 d3 f0;obtain ⟨d0,d1,d2,d3⟩:=r5.four;have R5:=Lib.hid r5;have K3:=Lib.hid k3;clear r5 k3;go_upto_region 10 with (at_builtin;refine zI _ (by rfl) _ _ 348 (by rfl) 0 389 j0 _ 4 32 Tryz.underlying348 hj0 hz0 hz1 hz2 rfl (by decide) (.slice none 0 0) 0 [] (by rfl) (World.ownsRow_nil _ _ _ _) (.slice (some ⟨w3.heap.size,0,none⟩) 1 1) 1 [.int .i64 120, .int .i64 0, .int .i64 1, .int .i64 1] (by rfl) (zC.src (zC.zG (heap_alloc_new w3 _))) rfl (J161 _) (by unfold maxLen;omega) (by omega) (Nat.zero_le _) ?_;intro da2 dc2 w4 ha;have k4:=zi.keeps ha ((Keeps.refl zA w3).alloc _) (fun q e _=>by exact J152 _);have K4:=Lib.hid k4;clear ha k4)
 have R54:Hid (zC w4 b5 [.int .i64 120, .int .i64 0, .int .i64 1, .int .i64 1]):=R5.out.keeps K4.out (fun h=>h);have K24:Hid (Keeps (fun q=>q=b5) w2 w4):=K3.out.trans K4.out (fun _ _ h=>False.elim h);clear d0 d1 d2 d3 K3 K4 R5 R5';refine ze 6 (by kernel_rfl) (by kernel_rfl) (Keeps zA) (Keeps.refl zA) (fun a b c h h'=>Keeps.zB h h') (zA3 [some (.pointer (some ⟨b5,1,none⟩)),some (.int .i64 0),some (.int .i32 120),some (.int .i64 1),some (.int .i64 1),some (.pointer (some ⟨b5,1,none⟩))] (fun _ _ _=>False)) (zA3.st (fun j v W W' h hk=>h)) ?_ ?_
 ·intro q oo hq ho vs W Q' hR0 hd hK
  have hR:Keeps zA w4 W:=((Keeps.refl zA w4).drew).zB hR0;obtain ⟨d0,d1,d2,d3⟩:=(R54.out.keeps hR (fun h=>h)).four;clear hR hR0;rcases (show q=0 \/ q=1 \/ q=2 \/ q=3 \/ q=4 \/ q=5 by omega) with rfl | rfl | rfl | rfl | rfl | rfl
  all_goals (simp only [List.getElem?_cons_zero,List.getElem?_cons_succ,Option.some.injEq] at ho;subst ho;simp only [zJ,List.getElem?_cons_zero,List.getElem?_cons_succ,Option.bind_some,Option.bind,Act.put,List.setIfInBounds_toArray,List.set_cons_zero,List.set_cons_succ] at hK ⊢;clear hq)
  ·exact J3 _
  ·exact J117 _
  ·exact J3 _
  ·have e2:vs 2=_:=hd 2 (by kernel_rfl)
   rw [e2] at hK ⊢;clear hd;go_wp2_with (go_at_call 287;refine (zJQ _).mono ?_;rintro e W1 ⟨rfl,g1⟩)
   exact hK _ _ g1 rfl
  ·have e1:vs 1=_:=hd 1 (by kernel_rfl)
   have e3:vs 3=_:=hd 3 (by kernel_rfl);rw [e1,e3] at hK ⊢;exact J3 _
  ·exact J3 _
 ·intro vs W hR0 hF
  have hR:Keeps zA w4 W:=((Keeps.refl zA w4).drew).zB hR0;have e4:vs 4=_:=hF 4 (by decide);have e5:vs 5=_:=hF 5 (by decide);have r5:=R54.out.keeps hR (fun h=>h);have K2W:Hid (Keeps (fun q=>q=b5) w2 W):=K24.out.trans hR (fun _ _ h=>False.elim h);simp only [zJ,List.getElem?_cons_zero,List.getElem?_cons_succ,Option.bind_some,Option.bind,Act.put,List.setIfInBounds_toArray,List.set_cons_zero,List.set_cons_succ,List.drop_succ_cons,List.drop_zero];rw [e4,e5];clear hF e4 e5;generalize vs 0=y0;generalize vs 1=y1;generalize vs 2=y2;generalize vs 3=y3;obtain ⟨d0,d1,d2,d3⟩:=r5.four;have f1:=r5.free (k:=1) (by simp);have f3:=r5.free (k:=3) (by simp);have f0:=r5.free (k:=0) (by simp);have R5:=Lib.hid r5;clear hR hR0 r5;go_wp2_with fail
  have r5:zC (((W.setCell ⟨b5,1,none⟩ (.int .i64 1)).setCell ⟨b5,3,none⟩ (.int .i64 2)).setCell ⟨b5,0,none⟩ (.int .i64 (-1))) b5 [.int .i64 (-1), .int .i64 1, .int .i64 1, .int .i64 2]:=((R5.out.set 1 (by simp) _).set 3 (by simp) _).set 0 (by simp) _;have k5:Keeps (fun q=>q=b5) W (((W.setCell ⟨b5,1,none⟩ (.int .i64 1)).setCell ⟨b5,3,none⟩ (.int .i64 2)).setCell ⟨b5,0,none⟩ (.int .i64 (-1))):=(((Keeps.refl (fun q=>q=b5) W).setCell (p:=⟨b5,1,none⟩) (fun _=>rfl) _).setCell (p:=⟨b5,3,none⟩) (fun _=>rfl) _).setCell (p:=⟨b5,0,none⟩) (fun _=>rfl) _;generalize ((W.setCell ⟨b5,1,none⟩ (.int .i64 1)).setCell ⟨b5,3,none⟩ (.int .i64 2)).setCell ⟨b5,0,none⟩ (.int .i64 (-1))=w6 at r5 k5 ⊢;have k26:Keeps (fun q=>q=b5) w2 w6:=K2W.out.trans k5 (fun _ _ h=>h)
  have h2:∀ ty,(Instr.next (.pointer (some ⟨b10,0,none⟩)) true ty).run Tryz.prog w6=.ok (.tuple #[.bool false]) w6:=fun ty =>
   Lib.run_next_end_at w6 b10 { data:=#[120] } 1 ty (k26.heap (fun e=>by have e':b10=b5:=e;omega) HI2.out) (by decide)
  have R4:Hid (zC w6 b3 [.int .i64 0, .int .i64 0, .int .i64 0, .int .i64 0]):=R3'.out.keeps k26 (fun e=>hne e);have KE:Hid (Keeps zA w w6):=KW.out.trans k26 (fun q hq e=>by have e':q=b5:=e;have:=HB.out;omega);clear d0 d1 d2 d3 f0 f1 f3 R5 k5 k26;obtain ⟨d0,d1,d2,d3⟩:=r5.four;obtain ⟨a0,a1,a2,a3⟩:=R4.out.four;have f0:=R4.out.free (k:=0) (by simp);have f1:=R4.out.free (k:=1) (by simp);have f2:=R4.out.free (k:=2) (by simp);have f3:=R4.out.free (k:=3) (by simp);clear r5;rw [rounds_succ];go_upto_region 16 with fail
  go_region
  all_goals (try go_wp2_with fail)
  have hks:Keeps (fun q=>q=b3) (w6) ((((((w6).setCell ⟨b3,0,none⟩ (.int .i64 (-1))).setCell ⟨b3,1,none⟩ (.int .i64 1)).setCell ⟨b3,2,none⟩ (.int .i64 1)).setCell ⟨b3,3,none⟩ (.int .i64 2)).drew):=(((((Keeps.refl (fun q=>q=b3) (w6)).setCell (p:=⟨b3,0,none⟩) (fun _=>rfl) _).setCell (p:=⟨b3,1,none⟩) (fun _=>rfl) _).setCell (p:=⟨b3,2,none⟩) (fun _=>rfl) _).setCell (p:=⟨b3,3,none⟩) (fun _=>rfl) _).drew;have hrow:zC ((((((w6).setCell ⟨b3,0,none⟩ (.int .i64 (-1))).setCell ⟨b3,1,none⟩ (.int .i64 1)).setCell ⟨b3,2,none⟩ (.int .i64 1)).setCell ⟨b3,3,none⟩ (.int .i64 2)).drew) b3 [.int .i64 (-1), .int .i64 1, .int .i64 1, .int .i64 2]:=((((R4.out.set 0 (by simp) _).set 1 (by simp) _).set 2 (by simp) _).set 3 (by simp) _).keeps (S:=zA) ((Keeps.refl _ _).drew) (fun h=>h);generalize (((((w6).setCell ⟨b3,0,none⟩ (.int .i64 (-1))).setCell ⟨b3,1,none⟩ (.int .i64 1)).setCell ⟨b3,2,none⟩ (.int .i64 1)).setCell ⟨b3,3,none⟩ (.int .i64 2)).drew=wE at hrow hks ⊢;refine bodyPost_ret (v:=.tuple #[.slice da2 1 dc2, .agg #[.int .i64 (-1), .int .i64 1, .int .i64 1, .int .i64 2]]) (J194 _) rfl ?_
  exact J108 _
def zIs (s:ByteArray):Prop:=∀ w:World,Calls Tryz.prog 224 #[.string s] w fun e w'=>(∃ ad n c,e=.returned (.tuple #[.slice ad n c, .agg #[.int .i64 0, .int .i64 0, .string { data:=#[] }]])) /\ Keeps zA w w'
theorem zMn:zIs { data:=#[] }:=by
 intro w
 go_enter Tryz.func224,Tryz.ntmps224
 go_upto_region 1 with fail
 obtain ⟨b3,hb3⟩:=eX w.heap.size;have hr3:zC (w.alloc (.cells #[.int .i64 0, .int .i64 0, .string { data:=#[] }] 287)) b3 [.int .i64 0, .int .i64 0, .string { data:=#[] }]:=J169 _;have hk1:Keeps zA w (w.alloc (.cells #[.int .i64 0, .int .i64 0, .string { data:=#[] }] 287)):=(Keeps.refl _ _).alloc _;have HB:Hid (w.heap.size <= b3):=by show _ <= _;omega
 rw [<- hb3];generalize w.alloc (.cells #[.int .i64 0, .int .i64 0, .string { data:=#[] }] 287)=w1 at hr3 hk1 ⊢;have R3:=Lib.hid hr3;have K1:=Lib.hid hk1;clear hr3 hk1 hb3;go_upto_region 4 with (go_at_call 256;refine (zOB _).mono ?_;rintro e w2 ⟨⟨ad,n,c,r,l,k,rfl⟩,g1⟩;have G1:=Lib.hid g1;clear g1)
 obtain ⟨b5,hb5⟩:=eX w2.heap.size;have r5:zC (w2.alloc (.cells #[.int .i64 r, .int .i64 0, .int .i64 l, .int .i64 k] 389)) b5 [.int .i64 r, .int .i64 0, .int .i64 l, .int .i64 k]:=J183 _;have k3:Keeps zA w1 (w2.alloc (.cells #[.int .i64 r, .int .i64 0, .int .i64 l, .int .i64 k] 389)):=G1.out.alloc _;rw [<- hb5];generalize w2.alloc (.cells #[.int .i64 r, .int .i64 0, .int .i64 l, .int .i64 k] 389)=w3 at r5 k3 ⊢;exact J11 _
theorem zNH:zIs { data:=#[120] }:=by
 intro w
 go_enter Tryz.func224,Tryz.ntmps224
 go_upto_region 1 with fail
 obtain ⟨b3,hb3⟩:=eX w.heap.size;have hr3:zC (w.alloc (.cells #[.int .i64 0, .int .i64 0, .string { data:=#[] }] 287)) b3 [.int .i64 0, .int .i64 0, .string { data:=#[] }]:=J169 _;have hk1:Keeps zA w (w.alloc (.cells #[.int .i64 0, .int .i64 0, .string { data:=#[] }] 287)):=(Keeps.refl _ _).alloc _;have HB:Hid (w.heap.size <= b3):=by show _ <= _;omega
 rw [<- hb3];generalize w.alloc (.cells #[.int .i64 0, .int .i64 0, .string { data:=#[] }] 287)=w1 at hr3 hk1 ⊢;have R3:=Lib.hid hr3;have K1:=Lib.hid hk1;clear hr3 hk1 hb3;go_upto_region 4 with (go_at_call 256;refine (zN5 _).mono ?_;rintro e w2 ⟨⟨ad,n,c,r,l,k,rfl⟩,g1⟩;have G1:=Lib.hid g1;clear g1)
 obtain ⟨b5,hb5⟩:=eX w2.heap.size;have r5:zC (w2.alloc (.cells #[.int .i64 r, .int .i64 1, .int .i64 l, .int .i64 k] 389)) b5 [.int .i64 r, .int .i64 1, .int .i64 l, .int .i64 k]:=J183 _;have k3:Keeps zA w1 (w2.alloc (.cells #[.int .i64 r, .int .i64 1, .int .i64 l, .int .i64 k] 389)):=G1.out.alloc _;rw [<- hb5];generalize w2.alloc (.cells #[.int .i64 r, .int .i64 1, .int .i64 l, .int .i64 k] 389)=w3 at r5 k3 ⊢;exact J11 _
def words:List Value:=[.string { data:=#[97,100,100] }, .string { data:=#[97,115,115,101,114,116] }, .string { data:=#[99,101,108,108] }, .string { data:=#[101,108,115,101] }, .string { data:=#[105,102] }, .string { data:=#[106,111,105,110] }, .string { data:=#[108,111,99,107] }, .string { data:=#[109,117,116,101,120] }, .string { data:=#[114,101,112,101,97,116] }, .string { data:=#[115,116,97,114,116] }, .string { data:=#[116,104,114,101,97,100] }, .string { data:=#[117,110,108,111,99,107] }]
theorem zJN (w:World):Calls Tryz.prog 265 #[] w fun e w'=>∃ g,e=.returned (.slice (some ⟨g,0,none⟩) 12 12) /\ zC w' g words /\ Keeps zA w w':=by
 go_enter Tryz.func265,Tryz.ntmps265
 go_wp2_with fail
 go_ret
 exact ⟨_,rfl,zC.zG (heap_alloc_new w _),(Keeps.refl _ _).alloc _⟩
theorem zM0 (w:World) (g:Nat) (h:zC w g words):Calls Tryz.prog 293 #[.slice (some ⟨g,0,none⟩) 12 12, .string { data:=#[120] }] w fun e w'=>e=.returned (.int .i64 (-1)) /\ Keeps zA w w':=by
 have c0:=h.cell (k:=0) (v:=.string { data:=#[97,100,100] }) rfl;have c1:=h.cell (k:=1) (v:=.string { data:=#[97,115,115,101,114,116] }) rfl;have c2:=h.cell (k:=2) (v:=.string { data:=#[99,101,108,108] }) rfl;have c3:=h.cell (k:=3) (v:=.string { data:=#[101,108,115,101] }) rfl;have c4:=h.cell (k:=4) (v:=.string { data:=#[105,102] }) rfl;have c5:=h.cell (k:=5) (v:=.string { data:=#[106,111,105,110] }) rfl;have c6:=h.cell (k:=6) (v:=.string { data:=#[108,111,99,107] }) rfl;have c7:=h.cell (k:=7) (v:=.string { data:=#[109,117,116,101,120] }) rfl;have c8:=h.cell (k:=8) (v:=.string { data:=#[114,101,112,101,97,116] }) rfl;have c9:=h.cell (k:=9) (v:=.string { data:=#[115,116,97,114,116] }) rfl;have c10:=h.cell (k:=10) (v:=.string { data:=#[116,104,114,101,97,100] }) rfl;have c11:=h.cell (k:=11) (v:=.string { data:=#[117,110,108,111,99,107] }) rfl;clear h;go_enter Tryz.func293,Tryz.ntmps293
 go_wp2_with fail
 refine wp_loop_rounds 13 ?_
 iterate 13 (rw [rounds_succ];go_wp2_with fail)
 go_ret
 exact ⟨rfl,Keeps.refl _ _⟩
theorem zIU (w:World) (g:Nat) (h:zC w g words):Calls Tryz.prog 264 #[.slice (some ⟨g,0,none⟩) 12 12, .string { data:=#[120] }] w fun e w'=>e=.returned (.bool false) /\ Keeps zA w w':=by
 have HI:=Lib.hid (zM0 w g h);clear h;go_enter Tryz.func264,Tryz.ntmps264
 go_wp2_with (go_at_call 293;refine HI.out.mono ?_;rintro e w1 ⟨rfl,g1⟩;have G1:=Lib.hid g1;clear g1)
 go_ret
 exact ⟨rfl,G1.out⟩
theorem zHF (w:World):Calls Tryz.prog 266 #[.string { data:=#[120] }] w fun e w'=>e=.returned (.int .i64 1) /\ Keeps zA w w':=by
 have h1:=zGO w;have h2:=zMI w;go_enter Tryz.func266,Tryz.ntmps266
 go_wp2_with fail
 refine wp_loop_rounds 2 ?_
 rw [rounds_succ];go_wp2_with fail
 rw [rounds_succ];go_wp2_with fail
 go_ret
 exact ⟨rfl,(Keeps.refl _ _).alloc _⟩
theorem zMx (w:World):Calls Tryz.prog 226 #[.string { data:=#[120] }] w fun e w'=>e=.returned (.tuple #[.agg #[.int .i64 1, .string { data:=#[120] }, .int .i64 0, .int .i64 0], .int .i64 0]) /\ Keeps zA w w':=by
 go_enter Tryz.func226,Tryz.ntmps226
 go_upto_region 1 with fail
 obtain ⟨b2,hb2⟩:=eX w.heap.size;have hr2:zC (w.alloc (.cells #[.int .i64 0, .string { data:=#[] }, .int .i64 0, .int .i64 0] 291)) b2 [.int .i64 0, .string { data:=#[] }, .int .i64 0, .int .i64 0]:=by rw [hb2];exact zC.zG (heap_alloc_new w _)
 have hk1:Keeps zA w (w.alloc (.cells #[.int .i64 0, .string { data:=#[] }, .int .i64 0, .int .i64 0] 291)):=(Keeps.refl _ _).alloc _;have HB:Hid (w.heap.size <= b2):=by show _ <= _;omega
 rw [<- hb2];generalize w.alloc (.cells #[.int .i64 0, .string { data:=#[] }, .int .i64 0, .int .i64 0] 291)=w1 at hr2 hk1 ⊢;have R2:=Lib.hid hr2;have K1:=Lib.hid hk1;clear hr2 hk1 hb2;go_upto_region 2 with (go_at_call 258;refine (zLi _).mono ?_;rintro e w2 ⟨rfl,g1⟩;have G1:=Lib.hid g1;clear g1)
 go_upto_region 7 with (go_at_call 259;refine (zLP _).mono ?_;rintro e w3 ⟨rfl,g1⟩;have G2:=Lib.hid g1;clear g1)
 go_upto_region 8 with (go_at_call 261;refine (zOA _).mono ?_;rintro e w4 ⟨rfl,g1⟩;have G3:=Lib.hid g1;clear g1)
 obtain ⟨b7,hb7⟩:=eX w4.heap.size;have r7:zC (w4.alloc (.cells #[.int .i64 1, .string { data:=#[120] }, .int .i64 0, .int .i64 0] 291)) b7 [.int .i64 1, .string { data:=#[120] }, .int .i64 0, .int .i64 0]:=by rw [hb7];exact zC.zG (heap_alloc_new w4 _)
 have k5:Keeps zA w1 (w4.alloc (.cells #[.int .i64 1, .string { data:=#[120] }, .int .i64 0, .int .i64 0] 291)):=(G1.out.zB (G2.out.zB G3.out)).alloc _;rw [<- hb7];generalize w4.alloc (.cells #[.int .i64 1, .string { data:=#[120] }, .int .i64 0, .int .i64 0] 291)=w5 at r7 k5 ⊢;have R7:=Lib.hid r7;have K5:=Lib.hid k5;clear r7 k5 hb7 G1 G2 G3;go_upto_region 13 with (go_at_call 262;refine (zM1 _).mono ?_;rintro e w6 ⟨rfl,g1⟩;have G1:=Lib.hid g1;clear g1)
 refine ze 4 (by kernel_rfl) (by kernel_rfl) (Keeps zA) (Keeps.refl zA) (fun a b c h h'=>Keeps.zB h h') (zA3 [none,some (.pointer (some ⟨b7,1,none⟩)),some (.string { data:=#[120] }),some (.bool false)] (fun _ v W=>∃ g,v=.slice (some ⟨g,0,none⟩) 12 12 /\ zC W g words)) (zA3.st (fun j v W W' h hk=>by obtain ⟨g,e,h1⟩:=h;exact ⟨g,e,h1.keeps hk (fun h=>h)⟩)) ?_ ?_
 ·intro q oo hq ho vs W Q' hR0 hd hK
  have hR:Keeps zA w5 W:=G1.out.zB (((Keeps.refl zA w6).drew).zB hR0);obtain ⟨d0,d1,d2,d3⟩:=(R7.out.keeps hR (fun h=>h)).four;clear hR hR0;rcases (show q=0 \/ q=1 \/ q=2 \/ q=3 by omega) with rfl | rfl | rfl | rfl
  all_goals (simp only [List.getElem?_cons_zero,List.getElem?_cons_succ,Option.some.injEq] at ho;subst ho;simp only [zJ,List.getElem?_cons_zero,List.getElem?_cons_succ,Option.bind_some,Option.bind,Act.put,List.setIfInBounds_toArray,List.set_cons_zero,List.set_cons_succ] at hK ⊢;clear hq)
  ·clear hd
   go_wp2_with (go_at_call 265;refine (zJN _).mono ?_;rintro e W1 ⟨g,rfl,h1,g1⟩)
   exact hK _ _ g1 ⟨g,rfl,h1⟩
  ·exact J3 _
  ·exact J127 _
  ·obtain ⟨g,e0,hg⟩:=(hd 0 (by kernel_rfl):∃ g,vs 0=.slice (some ⟨g,0,none⟩) 12 12 /\ zC W g words)
   have HG:=Lib.hid hg;have e2:vs 2=_:=hd 2 (by kernel_rfl);rw [e0,e2] at hK ⊢;clear hg;clear hd;go_wp2_with (go_at_call 264;refine (zIU _ _ HG.out).mono ?_;rintro e W1 ⟨rfl,g1⟩)
   exact hK _ _ g1 rfl
 ·intro vs W hR0 hF
  have hR:Keeps zA w5 W:=G1.out.zB (((Keeps.refl zA w6).drew).zB hR0);have e3:vs 3=_:=hF 3 (by decide);have r7:=R7.out.keeps hR (fun h=>h);have r2:=R2.out.keeps (K5.out.zB hR) (fun h=>h);have KW:Hid (Keeps zA w W):=K1.out.zB (K5.out.zB hR);simp only [zJ,List.getElem?_cons_zero,List.getElem?_cons_succ,Option.bind_some,Option.bind,Act.put,List.setIfInBounds_toArray,List.set_cons_zero,List.set_cons_succ,List.drop_succ_cons,List.drop_zero];rw [e3];clear hF e3;generalize vs 0=y0;generalize vs 1=y1;generalize vs 2=y2;obtain ⟨d0,d1,d2,d3⟩:=r7.four;have R7W:=Lib.hid r7;have R2W:=Lib.hid r2;clear hR hR0 r2 r7;go_upto_region 17 with (go_at_call 266;refine (zHF _).mono ?_;rintro e w8 ⟨rfl,g1⟩;have G8:=Lib.hid g1;clear g1)
  have r7:=R7W.out.keeps G8.out (fun h=>h);have r2:=R2W.out.keeps G8.out (fun h=>h);clear d0 d1 d2 d3;obtain ⟨d0,d1,d2,d3⟩:=r7.four;obtain ⟨a0,a1,a2,a3⟩:=r2.four;have f0:=r2.free (k:=0) (by simp);have f1:=r2.free (k:=1) (by simp);have f2:=r2.free (k:=2) (by simp);have f3:=r2.free (k:=3) (by simp);have R2X:=Lib.hid r2;clear r7 r2;go_wp2_with fail
  have hks:Keeps (fun q=>q=b2) w8 ((((w8.setCell ⟨b2,0,none⟩ (.int .i64 1)).setCell ⟨b2,1,none⟩ (.string { data:=#[120] })).setCell ⟨b2,2,none⟩ (.int .i64 0)).setCell ⟨b2,3,none⟩ (.int .i64 0)):=((((Keeps.refl (fun q=>q=b2) w8).setCell (p:=⟨b2,0,none⟩) (fun _=>rfl) _).setCell (p:=⟨b2,1,none⟩) (fun _=>rfl) _).setCell (p:=⟨b2,2,none⟩) (fun _=>rfl) _).setCell (p:=⟨b2,3,none⟩) (fun _=>rfl) _;have hrow:zC ((((w8.setCell ⟨b2,0,none⟩ (.int .i64 1)).setCell ⟨b2,1,none⟩ (.string { data:=#[120] })).setCell ⟨b2,2,none⟩ (.int .i64 0)).setCell ⟨b2,3,none⟩ (.int .i64 0)) b2 [.int .i64 1, .string { data:=#[120] }, .int .i64 0, .int .i64 0]:=(((R2X.out.set 0 (by simp) _).set 1 (by simp) _).set 2 (by simp) _).set 3 (by simp) _;generalize (((w8.setCell ⟨b2,0,none⟩ (.int .i64 1)).setCell ⟨b2,1,none⟩ (.string { data:=#[120] })).setCell ⟨b2,2,none⟩ (.int .i64 0)).setCell ⟨b2,3,none⟩ (.int .i64 0)=wE at hrow hks ⊢;refine bodyPost_ret (v:=.tuple #[.agg #[.int .i64 1, .string { data:=#[120] }, .int .i64 0, .int .i64 0], .int .i64 0]) (by simp [results,Tryz.results226,go_sem,hrow.cell (k:=0) rfl,hrow.cell (k:=1) rfl,hrow.cell (k:=2) rfl,hrow.cell (k:=3) rfl]) rfl ?_
  exact ⟨rfl,(KW.out.zB G8.out).trans hks (fun q hq e=>by have e':q=b2:=e;have:=HB.out;omega)⟩
end Go.Proofs.YtoapgjjepiopbaaGreatDoor
