/- Layer N: texts joined. -/
import Derived.Test.YtoapgjjepiopbaaGreatDoorN48
set_option linter.all false
set_option maxHeartbeats 4000000
set_option maxRecDepth 30000
namespace Go.Proofs.YtoapgjjepiopbaaGreatDoor
open Go.RowKit
theorem J122 (P:Prop) (h:P:=by
 refine ⟨?_,?_,?_,?_,?_,?_,?_,?_,trivial⟩ <;> (intro vs gs W Q' hR hd hK;have HRW:Keeps zA w6 W:=((zH w6).drew).zB hR;simp only [zA1,zAg,zBQ,zJ,tz,Option.bind,Act.put] at hd hK ⊢;try simp only [hd] at hK ⊢)
 all_goals try (try clear hd;go_wp2_with (fail);first | exact hK _ _ (Keeps.refl _ _) rfl)
 ·exact J34 _):P:=h
theorem J136 (P:Prop) (h:P:=by
 rcases HO6.out k e with h | h
 ·exact HLO.out.2.2.2 k h
 ·have h1:=HSZ.out.2.1
  have h2:=HSZ.out.1;have h3:=HK5.out.size;have h4:=HLO.out.1;exact J47 _):P:=h
theorem J160 (P:Prop) (h:P:=by rcases e with e | e;exact HLO.out.2.2.1 e.symm;exact (HLO.out.2.2.2 bx e).2 rfl):P:=h
theorem J181 (P:Prop) (h:P:=by have e':q=bx:=e;have:=HLO.out.2.1;omega):P:=h
theorem J207 (P:Prop) (h:P:=by have e':k=bx:=e2;subst e';rcases e with e | e;exact HLO.out.2.2.1 e.symm;exact (HV6.out _ e).2 rfl):P:=h
theorem J213 (P:Prop) (h:P:=by rw [zAp e] at e2;rcases e2 with e | e;exact HG.out.2.2.1 e;exact HG.out.2.2.2 e):P:=h
theorem zMf (w:World):Calls Tryz.prog 229 #[.int .u64 0] w fun e w'=>(∃ n,e=.returned (.int .i64 n)) /\ w=w':=by
 go_enter Tryz.func229,Tryz.ntmps229
 go_wp2_with fail
 go_ret
 exact ⟨⟨_,rfl⟩,rfl⟩
theorem zOo (w:World):Calls Tryz.prog 254 #[.int .u64 0] w fun e w'=>(∃ n,e=.returned (.int .i64 n)) /\ w=w':=by
 go_enter Tryz.func254,Tryz.ntmps254
 go_wp2_with (go_at_call 229;refine (zMf _).mono ?_;rintro e w' ⟨⟨n,rfl⟩,rfl⟩)
 go_ret
 exact ⟨⟨_,rfl⟩,rfl⟩
theorem zPZ (fv:Value) (a:Option Addr) (c:Nat) (w:World):Calls Tryz.prog 294 #[.slice a 0 c, .int .i64 0, .int .i64 0,fv] w fun e w'=>e=.returned (.tuple #[]) /\ w=w':=by
 go_enter Tryz.func294,Tryz.ntmps294
 exact J63 _
theorem zPT (fv:Value) (a:Option Addr) (c:Nat) (k:Int) (w:World):Calls Tryz.prog 275 #[.slice a 0 c, .int .i64 0, .int .i64 0, .int .i64 k,fv] w fun e w'=>e=.returned (.tuple #[]) /\ w=w':=by
 go_enter Tryz.func275,Tryz.ntmps275
 go_wp2_with fail
 refine wp_loop_rounds 1 ?_
 rw [rounds_succ];go_wp2_with (go_at_call 294;refine (zPZ fv a c _).mono ?_;rintro e w' ⟨rfl,rfl⟩)
 go_returns
 exact ⟨rfl,rfl⟩
theorem zO6 (fv:Value) (a:Option Addr) (c:Nat) (w:World):Calls Tryz.prog 247 #[.slice a 0 c,fv] w fun e w'=>e=.returned (.tuple #[]) /\ w=w':=by
 go_enter Tryz.func247,Tryz.ntmps247
 go_wp2_with (first | (go_at_call 254;refine (zOo _).mono ?_;rintro e w' ⟨⟨n,rfl⟩,rfl⟩) | (go_at_call 275;refine (zPT fv a c _ _).mono ?_;rintro e w' ⟨rfl,rfl⟩))
 go_returns
 exact ⟨rfl,rfl⟩
theorem zPR (fv:Value) (a:Option Addr) (c:Nat) (w:World):Calls Tryz.prog 278 #[.slice a 0 c, .int .i64 0, .int .i64 0,fv] w fun e w'=>e=.returned (.tuple #[]) /\ w=w':=by
 go_enter Tryz.func278,Tryz.ntmps278
 exact J63 _
theorem zPO (fv:Value) (a:Option Addr) (c:Nat) (k:Int) (w:World):Calls Tryz.prog 253 #[.slice a 0 c, .int .i64 0, .int .i64 0, .int .i64 k,fv] w fun e w'=>e=.returned (.tuple #[]) /\ w=w':=by
 go_enter Tryz.func253,Tryz.ntmps253
 go_wp2_with fail
 refine wp_loop_rounds 1 ?_
 rw [rounds_succ];go_wp2_with (go_at_call 278;refine (zPR fv a c _).mono ?_;rintro e w' ⟨rfl,rfl⟩)
 go_returns
 exact ⟨rfl,rfl⟩
theorem zO0 (fv:Value) (a:Option Addr) (c:Nat) (w:World):Calls Tryz.prog 217 #[.slice a 0 c,fv] w fun e w'=>e=.returned (.tuple #[]) /\ w=w':=by
 go_enter Tryz.func217,Tryz.ntmps217
 go_wp2_with (first | (go_at_call 254;refine (zOo _).mono ?_;rintro e w' ⟨⟨n,rfl⟩,rfl⟩) | (go_at_call 253;refine (zPO fv a c _ _).mono ?_;rintro e w' ⟨rfl,rfl⟩))
 go_returns
 exact ⟨rfl,rfl⟩
theorem zOp (w:World) (la:Option Addr) (lc:Nat) (h:zU w (.slice la 1 lc) 1 (evC ev0)) (hlc:1 <= lc):Calls Tryz.prog 212 #[.slice la 1 lc] w fun e w'=>e=.returned (.tuple #[.slice none 0 0, .int .i64 0]) /\ Keeps zA w w':=by
 have H:=Lib.hid h;obtain ⟨g,o,rfl,d⟩:=zDL h;have HD:=Lib.hid d;clear h d;go_enter Tryz.func212,Tryz.ntmps212
 go_upto_region 2 with (go_at_call 166;refine (zD4 _ _ lc H.out hlc).mono ?_;rintro e w1 ⟨bo,go,oc,rfl,h1,h2,h3⟩;have K1:=Lib.hid h3;clear h1 h2 h3)
 have d1:=fun (W:World) (q:Keeps zA w1 W)=>HD.out W (K1.out.zB q)
 have k1:=zH w1;go_wp2_with fail
 refine wp_loop_rounds 2 ?_
 rw [rounds_succ];go_upto_region 8 with fail
 obtain ⟨b8,w2,e1,e2,R2,K2,_⟩:=newRow w1 [.int .i64 0, .int .i64 9, .int .i64 0, .int .i64 0, .int .i64 0] 67;try rw [e1]
 try rw [e2]
 have HK2:Hid (Keeps zA w w2):=K1.out.zB K2;clear e1 e2 R2 K2 d1 k1;go_wp2_with fail
 refine wp_loop_rounds 1 ?_
 rw [rounds_succ];go_wp2_with fail
 rw [rounds_succ];go_wp2_with (go_at_call 247;refine (zO6 _ none 0 _).mono ?_;rintro e w' ⟨rfl,rfl⟩)
 go_ret2
 exact ⟨rfl,HK2.out⟩
theorem zKw:(Tryz.prog.info? 333).map (fun i=>(i.zero,i.size,i.bytes))=some (some (.agg #[.int .i64 0, .int .i64 0, .int .i64 0, .int .i64 0, .slice none 0 0]),5,56):=by kernel_rfl
theorem zOQ (w:World) (g:Nat):Calls Tryz.prog 220 #[.slice (some ⟨g,0,none⟩) 0 0] w fun e w'=>e=.returned (.slice (some ⟨g,0,none⟩) 0 0) /\ w=w':=by
 go_enter Tryz.func220,Tryz.ntmps220
 exact J125 _
theorem zLg (w:World) (aa ba:Option Addr) (ca cb:Nat):Calls Tryz.prog 183 #[.slice aa 0 ca, .slice ba 0 cb] w fun e w'=>∃ g,e=.returned (.slice (some ⟨g,0,none⟩) 0 0) /\ Keeps zA w w':=by
 obtain ⟨i0,hi0,hz0,hz1,hz2⟩:=info_parts zKw;have hmm:=@run_makeMap Tryz.prog;have hx0:∀ W,(Instr.index 339 (.agg #[.slice aa 0 ca, .slice ba 0 cb]) (.int .i64 0)).run Tryz.prog W=.ok (.slice aa 0 ca) W:=fun W=>by kernel_rfl
 have hx1:∀ W,(Instr.index 339 (.agg #[.slice aa 0 ca, .slice ba 0 cb]) (.int .i64 1)).run Tryz.prog W=.ok (.slice ba 0 cb) W:=fun W=>by kernel_rfl
 go_enter Tryz.func183,Tryz.ntmps183
 go_upto_region 2 with fail
 have hk1:Keeps zA w (w.alloc (.map #[] 0)):=(Keeps.refl _ _).alloc _;generalize w.alloc (.map #[] 0)=w1 at hk1 ⊢;have HK1:=Lib.hid hk1;clear hk1;go_upto_region 3 with (at_make;refine wpList_make_own _ rfl _ _ _ rfl 0 333 i0 _ 5 Tryz.underlying85 hi0 hz0 hz1 _ _ _ 0 (by rfl) (by rfl) rfl (by rw [hz2];omega) (by unfold maxLen;omega) (Nat.zero_le _) ?_;intro w2 hown hgr;have HGR:=Lib.hid hgr;clear hown hgr)
 go_wp2_with fail
 refine wp_loop_rounds 3 ?_
 rw [rounds_succ];go_wp2_with fail
 refine wp_loop_rounds 1 ?_
 rw [rounds_succ];go_wp2_with fail
 rw [rounds_succ];go_wp2_with fail
 refine wp_loop_rounds 1 ?_
 rw [rounds_succ];go_wp2_with fail
 rw [rounds_succ];go_wp2_with (first | (go_at_call 217;refine (zO0 _ _ _ _).mono ?_;rintro e w' ⟨rfl,rfl⟩) | (go_at_call 220;refine (zOQ _ _).mono ?_;rintro e w' ⟨rfl,rfl⟩))
 go_ret
 exact ⟨_,rfl,HK1.out.grown HGR.out (by simp)⟩
theorem zM6 (w:World):Calls Tryz.prog 267 #[.agg #[.int .i64 0, .int .i64 0, .int .i64 0, .int .i64 0, .int .i64 0]] w fun e w'=>e=.returned (.bool false) /\ Keeps zA w w':=by
 go_enter Tryz.func267,Tryz.ntmps267
 go_wp2_with (go_at_call 277;refine (zCw 0 _ (by decide)).mono ?_;rintro e w' ⟨rfl,rfl⟩)
 go_ret
 exact ⟨rfl,(Keeps.refl _ _).alloc _⟩
theorem zPf (w:World) (b:Nat):Calls Tryz.prog 251 #[.pointer (some ⟨b,0,none⟩), .int .i64 0, .agg #[.int .i64 0, .int .i64 0]] w fun e w'=>e=.returned (.bool false) /\ Keeps zA w w':=by
 go_enter Tryz.func251,Tryz.ntmps251
 go_upto_region 1 with fail
 obtain ⟨b1,w1,e1,e2,R1,K1,_⟩:=newRow w [.int .i64 0, .int .i64 0] 138;rw [e1,e2];have HR1:=Lib.hid R1;have HK1:=Lib.hid K1;have y:=R1.all2;have k1:=zH w1;clear e1 e2 R1 K1;go_upto_region 2 with fail
 obtain ⟨b2,w2,e1,e2,R2,K2,_⟩:=newRow w1 [.int .i64 0, .int .i64 0, .int .i64 0, .int .i64 0, .int .i64 0] 67;rw [e1,e2];have HK2:Hid (Keeps zA w w2):=HK1.out.zB K2;have y2:=(HR1.out.keeps K2 (fun h=>h)).all2;have u:=R2.zML;have k2:=zH w2;clear e1 e2 R2 K2 y k1;go_wp2_with (go_at_call 267;refine (zM6 _).mono ?_;rintro e w3 ⟨rfl,g3⟩;have HK3:Hid (Keeps zA w w3):=HK2.out.zB g3;clear g3 y2 u k2)
 go_ret
 exact ⟨rfl,HK3.out⟩
theorem zNV (B b:Nat) (w:World) (g o cn:Nat) (h:zBI B w b 1 (zCj 0 [ev0] (T0,O0)).1 (zCj 0 [ev0] (T0,O0)).2) (c0:w.cell? ⟨g,o,none⟩=some (.int .i64 0)) (c1:w.cell? ⟨g,o+1,none⟩=some (.int .i64 0)) :
 Calls Tryz.prog 215 #[.pointer (some ⟨b,0,none⟩), .slice (some ⟨g,o,none⟩) 1 cn] w fun e w'=>e=.returned (.tuple #[.int .i64 0, .bool false]) /\ Keeps zA w w':=by
 have hT:∀ t:Nat,t < 8 -> ((zCj 0 [ev0] (T0,O0)).1.getD t (0,0)).1 ≠ 2:=by decide
 have HS:Hid (∀ W,Keeps zA w W -> ∀ t:Nat,t < 8 -> Calls Tryz.prog 252 #[.pointer (some ⟨b,0,none⟩), .int .i64 t] W fun e w'=>(∃ s,s ≠ 2 /\ e=.returned (.int .i64 s)) /\ Keeps zA W w'):=fun W hk t ht=>(zH7 (h.keeps hk (fun _ _ h=>h)) t ht).mono fun e w' ⟨h1,h2⟩=>⟨⟨_,hT t ht,h1⟩,h2⟩
 have y0:=zL c0;have y1:=zL c1;have k0:=zH w;clear h hT c0 c1;go_enter Tryz.func215,Tryz.ntmps215
 go_wp2_with fail
 refine wp_loop_rounds 2 ?_
 rw [rounds_succ];go_upto_region 4 with fail
 obtain ⟨b1,w1,e1,e2,R1,K1,_⟩:=newRow w [.int .i64 0, .int .i64 0] 138;try rw [e1]
 try rw [e2]
 have y:=R1.all2;have k1:=zH w1;have HK1:=Lib.hid K1;clear e1 e2 R1 K1 y0 y1 k0;go_upto_region 6 with (go_at_call 251;refine (zPf _ b).mono ?_;rintro e w2 ⟨rfl,g2⟩;have HK2:Hid (Keeps zA w w2):=HK1.out.zB g2;clear g2 y k1)
 go_wp2_with fail
 rw [rounds_succ];go_wp2_with fail
 go_loopw [21] (fun iv wr=>∃ i:Nat,i <= 8 /\ iv=.int .i64 i /\ Hid (Keeps zA w wr)) (fun iv _=>8 - (intOf iv).toNat)
 case atStart=>exact ⟨0,by omega,rfl,HK2.out⟩
 case round =>
  obtain ⟨i,hi,rfl,HK⟩:=hrel;by_cases hlt:i < 8
  ·have i2:(i:Int) < 8:=by omega
   go_upto_region 11 with (go_at_call 252;refine (HS.out _ HK.out i hlt).mono ?_;rintro e w3 ⟨⟨s,hs,rfl⟩,g3⟩;have hsb:(s==2)=false:=(by simpa using hs);have HK3:Hid (Keeps zA w w3):=HK.out.zB g3;clear g3 hs)
   exact ⟨⟨i+1,by omega,by go_num,HK3.out⟩,by simp [intOf];omega⟩
  ·obtain rfl:i=8:=by omega
   go_wp2_with fail
   go_ret2
   exact ⟨rfl,HK.out⟩
theorem zMM (w:World) (la:Option Addr) (lc:Nat) (h:zU w (.slice la 1 lc) 1 (evC ev0)) (hlc:1 <= lc) (na:Option Addr) (cn:Nat) (hn:zU w (.slice na 1 cn) 1 [.int .i64 0, .int .i64 0]) :
 Calls Tryz.prog 182 #[.slice la 1 lc, .slice na 1 cn] w fun e w'=>∃ g,e=.returned (.tuple #[.slice (some ⟨g,0,none⟩) 0 0, .int .i64 0]) /\ Keeps zA w w':=by
 have H:=Lib.hid h;obtain ⟨g,o,rfl,d⟩:=zDL h;have HD:=Lib.hid d
 obtain ⟨gn,on,rfl,HN⟩:∃ gn on,na=some ⟨gn,on,none⟩ /\ Hid (w.cell? ⟨gn,on,none⟩=some (.int .i64 0) /\ w.cell? ⟨gn,on+1,none⟩=some (.int .i64 0)):=by
  obtain ⟨ad,cap,e,hs⟩:=hn;cases e;obtain ⟨gn,on,e,hc⟩:=hs (by decide);have h0:=hc 0 (.int .i64 0) rfl;rw [Nat.add_zero] at h0;exact ⟨gn,on,e,h0,hc 1 (.int .i64 0) rfl⟩
 have hmf:∀ (fn:Fn) (first cap:Array Value) (w:World),(Instr.makeFunc fn first cap).run Tryz.prog w=.ok (.func fn first cap) w:=fun _ _ _ _=>rfl
 clear h d hn;go_enter Tryz.func182,Tryz.ntmps182
 go_upto_region 1 with fail
 obtain ⟨b2,w1,e1,e2,R1,K1,_⟩:=newRow w [.slice (some ⟨g,o,none⟩) 1 lc] 31;try rw [e1]
 try rw [e2]
 have HR1:=Lib.hid R1;have HK1:=Lib.hid K1;have y:=R1.all1;have k1:=zH w1;clear e1 e2 R1 K1;go_upto_region 4 with (go_at_call 212;refine (zOp _ _ lc (H.out.keeps HK1.out (fun _ _ h=>h)) hlc).mono ?_;rintro e w2 ⟨rfl,g2⟩;have G2:=Lib.hid g2;clear g2 y k1)
 have HK2:Hid (Keeps zA w w2):=HK1.out.zB G2.out;have HR2:=Lib.hid (HR1.out.keeps G2.out (fun h=>h));have y:=HR2.out.all1;have k2:=zH w2;go_upto_region 7 with (go_at_call 198;refine (zGI _ _ [ev0] (by simpa using H.out.keeps HK2.out (fun _ _ h=>h)) (by simp) zLr).mono ?_;rintro e w3 ⟨bl,rfl,hl,g3⟩;have HL:=Lib.hid hl;have G3:=Lib.hid g3;clear hl g3 y k2)
 have HK3:Hid (Keeps zA w w3):=HK2.out.zB G3.out;have HR3:=Lib.hid (HR2.out.keeps G3.out (fun h=>h));have y:=HR3.out.all1;have k3:=zH w3;go_upto_region 8 with fail
 obtain ⟨b4,w4,e1,e2,R4,K4,_⟩:=newRow w3 [.slice none 0 0] 85;try rw [e1]
 try rw [e2]
 have HR4:=Lib.hid R4;have HK34:=Lib.hid K4;have HK4:Hid (Keeps zA w w4):=HK3.out.zB K4;have y4:=(HR3.out.keeps K4 (fun h=>h)).all1;have d4:=fun (W:World) (q:Keeps zA w4 W)=>HD.out W (HK4.out.zB q)
 have k4:=zH w4;clear e1 e2 R4 K4 y k3;go_wp2_with fail
 refine wp_loop_rounds 2 ?_
 rw [rounds_succ];go_upto_region 12 with fail
 obtain ⟨b5,w5,e1,e2,R5,K5,_⟩:=newRow w4 [.int .i64 0, .int .i64 9, .int .i64 0, .int .i64 0, .int .i64 0] 67;try rw [e1]
 try rw [e2]
 have HR5:=Lib.hid R5;have HK45:=Lib.hid K5;have HK5:Hid (Keeps zA w w5):=HK4.out.zB K5;have y5:=R5.zML;have k5:=zH w5;clear e1 e2 R5 K5 y4 d4 k4;go_wp2_with fail
 rw [rounds_succ];go_wp2_with fail
 refine wp_loop_rounds 1 ?_
 rw [rounds_succ];have HL5:Hid (zBI w2.heap.size w5 bl 1 (zCj 0 [ev0] (T0,O0)).1 (zCj 0 [ev0] (T0,O0)).2):=(HL.out.keeps HK34.out (fun _ _ h=>h)).keeps HK45.out (fun _ _ h=>h);have z0:=HK5.out.cell (fun h=>h) HN.out.1;have z1:=HK5.out.cell (fun h=>h) HN.out.2;go_upto_region 27 with (go_at_call 215;refine (zNV w2.heap.size bl _ gn on cn HL5.out z0 z1).mono ?_;rintro e w6 ⟨rfl,g6⟩;have G6:=Lib.hid g6;clear g6 y5 k5 z0 z1)
 have y6:=(HR4.out.keeps (HK45.out.zB G6.out) (fun h=>h)).all1;have k6:=zH w6;go_wp2_with (go_at_call 183;refine (zLg _ none none 0 0).mono ?_;rintro e w7 ⟨gm,rfl,g7⟩;have G7:=Lib.hid g7;clear g7 y6 k6)
 go_ret2
 exact ⟨gm,rfl,(HK5.out.zB G6.out).zB G7.out⟩
theorem zLk:(Tryz.prog.info? 22).map (fun i=>(i.zero,i.size,i.bytes))=some (some (.slice none 0 0),1,24):=by kernel_rfl
theorem zHW:(Tryz.prog.info? 32).map (fun i=>(i.zero,i.size,i.bytes))=some (some (.slice none 0 0),1,24):=by kernel_rfl
theorem zM9 (w:World) (bx g cp:Nat) (h:w.cell? ⟨g,0,none⟩=some (.int .u64 0)):Calls Tryz.prog 115 #[(.pointer (some ⟨bx,0,none⟩)), .slice (some ⟨g,0,none⟩) 1 cp] w fun e w'=>e=.returned (.tuple #[]) /\ w=w':=by
 go_enter Tryz.func115,Tryz.ntmps115
 go_wp2_with fail
 refine wp_loop_rounds 2 ?_
 rw [rounds_succ];go_wp2_with fail
 rw [rounds_succ];go_wp2_with fail
 go_returns
 exact ⟨rfl,rfl⟩
theorem zN7 (w:World) (bx:Nat) (lv:Value) (b1 b2 b3 b4:Option Addr) (q3 q4:Nat) (en:Int) (h:zU w (.slice b3 1 q3) 1 [.int .i64 3]):Calls Tryz.prog 124 #[(.pointer (some ⟨bx,0,none⟩)),lv, .agg #[.slice b1 0 0, .slice b2 0 0, .slice b3 1 q3, .slice b4 1 q4], .int .u64 en] w fun e w'=>e=.returned (.tuple #[]) /\ Keeps zA w w':=by
 obtain ⟨ad,cap,e,hs⟩:=h;cases e;obtain ⟨g,o,rfl,hc⟩:=hs (by decide);have d:∀ W,Keeps zA w W -> W.cell? ⟨g,o,none⟩=some (.int .i64 3):=zL (hc 0 _ rfl)
 clear hs hc;go_enter Tryz.func124,Tryz.ntmps124
 go_upto_region 1 with fail
 obtain ⟨b6,w1,e1,e2,R1,K1,_⟩:=newRow w [.slice b1 0 0, .slice b2 0 0, .slice (some ⟨g,o,none⟩) 1 q3, .slice b4 1 q4] 34;rw [e1,e2];have HK1:=Lib.hid K1;have d1:=fun (W:World) (q:Keeps zA w1 W)=>d W (K1.zB q)
 have y:=R1.zAh;have k1:=zH w1;clear e1 e2 R1 K1 d;go_wp2_with fail
 refine wp_loop_rounds 2 ?_
 rw [rounds_succ];go_wp2_with fail
 rw [rounds_succ];go_wp2_with fail
 go_returns
 exact ⟨rfl,HK1.out⟩
theorem zOZ {ca:Option Addr} {cc gt ot tc gs bx:Nat} {nx:Value} {fn:Fn} {an a1 a2 a3 a4:Int} {w:World} (hx:zC w bx (XC ca cc gt ot tc gs bx nx fn an 0 a1 a2 a3 a4 (.slice none 0 0) (.slice none 0 0))) (pa:Option Addr) (pn pc gl cl:Nat) (hl:zC w gl [.int .i64 0, .int .i64 9, .int .i64 0, .int .i64 0, .int .i64 0]) (hcl:1 <= cl) (hgl:gl ≠ bx) (b1 b2 b3 b4:Option Addr) (q3 q4:Nat) (h4:zU w (.slice b4 1 q4) 1 [.int .i64 0, .int .i64 0]) (hb4:∀ k,(Value.slice b4 1 q4).ownBlock=some k -> k ≠ bx) :
 Calls Tryz.prog 123 #[(.pointer (some ⟨bx,0,none⟩)), .slice pa pn pc, .slice (some ⟨gl,0,none⟩) 1 cl, .agg #[.slice b1 0 0, .slice b2 0 0, .slice b3 1 q3, .slice b4 1 q4]] w fun e w'=>e=.returned (.tuple #[]) /\ ∃ ex fg,zC w' bx (XC ca cc gt ot tc gs bx nx fn an 1 a1 a2 a3 a4 ex (.slice (some ⟨fg,0,none⟩) 0 0)) /\ Keeps (fun q=>q=bx) w w':=by
 obtain ⟨i0,hi0,hz0,hz1,hz2⟩:=info_parts zLk;have HX:=Lib.hid hx;have HL:=Lib.hid hl;have H4:=Lib.hid h4;have HB4:Hid (1 <= cl /\ gl ≠ bx /\ ∀ k,(Value.slice b4 1 q4).ownBlock=some k -> k ≠ bx):=⟨hcl,hgl,hb4⟩;clear hx hl h4 hcl hgl hb4;go_enter Tryz.func123,Tryz.ntmps123
 go_upto_region 1 with fail
 obtain ⟨b7,w1,e1,e2,R1,K1,_⟩:=newRow w [.slice b1 0 0, .slice b2 0 0, .slice b3 1 q3, .slice b4 1 q4] 34;rw [e1,e2];have HK1:=Lib.hid K1;have HN7:Hid (bx ≠ b7):=by have h1:=HX.out.lt (by simp [XC]);have h2:=e1.symm;show bx ≠ b7;omega
 have HR1:=Lib.hid R1;have HX1:=Lib.hid (HX.out.keeps K1 (fun h=>h));have y:=HX1.out.cell (k:=7) rfl;have f:=HX1.out.free (k:=7) (by simp [XC]);have k1:=zH w1;clear e1 e2 R1 K1;go_upto_region 2 with fail
 have ra:zC (w1.setCell ⟨bx,7,none⟩ (.int .i64 1)) bx (XC ca cc gt ot tc gs bx nx fn an 1 a1 a2 a3 a4 (.slice none 0 0) (.slice none 0 0)):=HX1.out.set 7 (by simp [XC]) (.int .i64 1);have ka:Keeps (fun q=>q=bx) w1 (w1.setCell ⟨bx,7,none⟩ (.int .i64 1)):=(Keeps.refl (fun q=>q=bx) w1).setCell (p:=⟨bx,7,none⟩) (fun _=>rfl) _;generalize (w1.setCell ⟨bx,7,none⟩ (.int .i64 1))=w2 at ra ka ⊢;have HX2:=Lib.hid ra;have HK2:=Lib.hid ka;clear ra ka y f k1;have y:=HX2.out.cellW (k:=12) rfl;have k2:=zH w2;go_upto_region 3 with (at_builtin;obtain ⟨g,w3,e1,e2,R3,K3,_⟩:=newRow w2 [.slice pa pn pc] 22;rw [e1,e2];have HR3:=Lib.hid R3;have HK3:=Lib.hid K3;clear e1 e2 R3 K3;refine zI _ (by rfl) _ _ 84 (by rfl) 0 22 i0 _ 1 24 Tryz.underlying84 hi0 hz0 hz1 hz2 rfl (by decide) (.slice none 0 0) 0 [] (by rfl) (World.ownsRow_nil _ _ _ _) (.slice (some ⟨g,0,none⟩) 1 1) 1 [.slice pa pn pc] (by rfl) (zC.src HR3.out) rfl (by simp [Value.oneCell']) (by unfold maxLen;omega) (by omega) (Nat.zero_le _) ?_;intro ad cap w4 hout;have HK4:Hid (Keeps zA w2 w4):=zi.keeps hout HK3.out (fun q e _=>by exact J152 _);have zr:=HX2.out.keeps HK4.out (fun h=>h);have zc:=zr.cell (k:=12) rfl;have zf:=zr.free (k:=12) (by simp [XC]);have HX4:=Lib.hid zr;clear hout zr y k2)
 have rb:zC (w4.setCell ⟨bx,12,none⟩ (.slice ad 1 cap)) bx (XC ca cc gt ot tc gs bx nx fn an 1 a1 a2 a3 a4 (.slice ad 1 cap) (.slice none 0 0)):=HX4.out.set 12 (by simp [XC]) (.slice ad 1 cap);have kb:Keeps (fun q=>q=bx) w4 (w4.setCell ⟨bx,12,none⟩ (.slice ad 1 cap)):=(Keeps.refl (fun q=>q=bx) w4).setCell (p:=⟨bx,12,none⟩) (fun _=>rfl) _;generalize (w4.setCell ⟨bx,12,none⟩ (.slice ad 1 cap))=w5 at rb kb ⊢;have HX5:=Lib.hid rb;have HK15:Hid (Keeps (fun q=>q=bx) w1 w5):=(HK2.out.trans (HK4.out.mono (fun _ _ h=>h.elim)) (fun q _ h=>h)).trans kb (fun q _ h=>h);clear rb kb zc zf;have HR5:=Lib.hid (HR1.out.keeps HK15.out (fun e=>HN7.out e.symm));have HL5:=Lib.hid ((HL.out.keeps HK1.out (fun h=>h)).keeps HK15.out HB4.out.2.1);have H45:=Lib.hid ((H4.out.zD HK1.out).keeps HK15.out (fun k e=>HB4.out.2.2 k e));have y:=HR5.out.zAh;have k5:=zH w5;go_upto_region 4 with (go_at_call 182;refine (zMM w5 _ cl (zC.src HL5.out) HB4.out.1 b4 q4 H45.out).mono ?_;rintro e w6 ⟨fg,rfl,g6⟩;have HK6:=Lib.hid g6;clear g6 y k5)
 have HX6:=Lib.hid (HX5.out.keeps HK6.out (fun h=>h));have y:=HX6.out.cellW (k:=13) rfl;have k6:=zH w6;go_upto_region 5 with (go_at_call 183;refine (zLg w6 none (some ⟨fg,0,none⟩) 0 0).mono ?_;rintro e w7 ⟨fh,rfl,g7⟩;have HK7:=Lib.hid g7;have zr:=HX6.out.keeps g7 (fun h=>h);have zc:=zr.cell (k:=13) rfl;have zf:=zr.free (k:=13) (by simp [XC]);have HX7:=Lib.hid zr;clear g7 zr y k6)
 have rc:zC (w7.setCell ⟨bx,13,none⟩ (.slice (some ⟨fh,0,none⟩) 0 0)) bx (XC ca cc gt ot tc gs bx nx fn an 1 a1 a2 a3 a4 (.slice ad 1 cap) (.slice (some ⟨fh,0,none⟩) 0 0)):=HX7.out.set 13 (by simp [XC]) (.slice (some ⟨fh,0,none⟩) 0 0);have kc:Keeps (fun q=>q=bx) w7 (w7.setCell ⟨bx,13,none⟩ (.slice (some ⟨fh,0,none⟩) 0 0)):=(Keeps.refl (fun q=>q=bx) w7).setCell (p:=⟨bx,13,none⟩) (fun _=>rfl) _;generalize (w7.setCell ⟨bx,13,none⟩ (.slice (some ⟨fh,0,none⟩) 0 0))=w8 at rc kc ⊢;have HX8:=Lib.hid rc;have HK18:Hid (Keeps (fun q=>q=bx) w1 w8):=(HK15.out.trans ((HK6.out.zB HK7.out).mono (fun _ _ h=>h.elim)) (fun q _ h=>h)).trans kc (fun q _ h=>h);clear rc kc zc zf;have y:=HX8.out.cellW (k:=7) rfl;have k8:=zH w8;go_wp2_with fail
 go_returns
 exact ⟨rfl,_,fh,HX8.out,(HK1.out.mono (fun _ _ h=>h.elim)).trans HK18.out (fun q _ h=>h)⟩
theorem zGR {q:Nat} (h:(Value.slice none 0 0).ownBlock=some q):False:=by simp [Value.ownBlock] at h
theorem zAp {g n c q:Nat} (h:(Value.slice (some ⟨g,0,none⟩) n c).ownBlock=some q):q=g:=by simp [Value.ownBlock] at h;exact h.symm
theorem zNn:zDb [] 0 1=(true,[⟨0,1,0,-1⟩]):=by rfl
theorem zOC:zDb [⟨0,1,0,0⟩] 0 0=(true,[⟨0,1,0,0⟩,⟨0,0,0,-1⟩]):=by rfl
theorem zPU {ca:Option Addr} {cc gt ot tc gs bx B:Nat} {ex fo v:Value} {fn:Fn} {an a0 a1 a2 a3 a4:Int} {w:World} {b gc gi gf:Nat} {c1 oa ra:Option Addr} {c2 oc rc kc ki kf:Nat} (hx:zC w bx (XC ca cc gt ot tc gs bx (.slice none 0 0) fn an a0 a1 a2 a3 a4 ex fo)) (hs:zP w gs v ([]:List Nd)) (hm:VmC w b 2 c1 oa ra c2 oc rc gc gi gf kc ki kf) (hT:zAV w) (hlo:B <= gs /\ B <= bx /\ gs ≠ bx /\ (∀ k,v.ownBlock=some k -> B <= k /\ k ≠ bx)) :
 Calls Tryz.prog 75 #[(.pointer (some ⟨bx,0,none⟩)), .int .u64 0,(.pointer (some ⟨b,0,none⟩)), .slice none 0 0] w fun e w'=>e=.returned (.tuple #[]) /\ ∃ (v6:Value) (gn cn:Nat) (u:Option Addr × Nat),zC w' bx (XC ca cc gt ot tc gs bx (.slice (some ⟨gn,0,none⟩) 1 cn) fn an a0 a1 a2 a3 a4 ex fo) /\ zP w' gs v6 ([⟨0,1,0,-1⟩]:List Nd) /\ w'.ownsRow 0 32 1 (.slice (some ⟨gn,0,none⟩) 1 cn) 1 [.slice u.1 1 u.2] /\ (B <= gn /\ gn ≠ bx /\ gn ≠ gs /\ v6.ownBlock ≠ some gn) /\ (∀ k,v6.ownBlock=some k -> B <= k /\ k ≠ bx) /\ Keeps (fun q=>B <= q) w w':=by
 obtain ⟨i0,hi0,hz0,hz1,hz2⟩:=info_parts zHW;have HX:=Lib.hid hx;have HS:=Lib.hid hs;have HM:=Lib.hid hm;have HT:=Lib.hid hT;have HLO:=Lib.hid hlo;have HP:=Lib.hid (zDD w gs v ([]:List Nd) hs (J168 _) (by intro x hx;simp at hx));have y:=hx.cellW (k:=3) rfl;have k0:=zH w;clear hx hs hm hT hlo;go_enter Tryz.func75,Tryz.ntmps75
 go_upto_region 1 with (first
  | (go_at_call 79;refine HP.out.mono ?_;rintro e w1 ⟨vp,rfl,h1,h2,_⟩;have HK1:Hid (Keeps zA w w1):=Keeps.zBv h2 _;have hsr:=zAa.src h1;clear h1 h2 y k0;obtain ⟨pa,pc,rfl,hp⟩:=hsr;clear hp)
  | (go_at_call 120;refine (zLS (HM.out.zD HK1.out)).mono ?_;rintro e w2 ⟨ea,ec,rfl,h1,h2⟩;have HE2:=Lib.hid h1;have HK2:=Lib.hid (HK1.out.zB h2);clear h1 h2)
  | (go_at_call 119;refine (zPi w2 ea ec HE2.out).mono ?_;rintro e w3 ⟨rfl,rfl⟩)
  | (go_at_call 121;refine (zLJ (st:=2) (ko:=9) (HM.out.zD HK2.out) (by decide)).mono ?_;rintro e w4 ⟨b1,b2,b3,q3,b4,q4,rfl,h3,h4,hk,ho⟩;have HK4:=Lib.hid (HK2.out.zB hk);have H3:=Lib.hid h3;have H4:=Lib.hid h4;have HO4:Hid (∀ q,(Value.slice b3 1 q3).ownBlock=some q \/ (Value.slice b4 1 q4).ownBlock=some q -> w.heap.size <= q):=fun q e=>Nat.le_trans HK2.out.size (ho q e);clear h3 h4 hk ho))
 obtain ⟨bt,w5,e1,e2,R5,K5,_⟩:=newRow w4 [.slice b1 0 0, .slice b2 0 0, .slice b3 1 q3, .slice b4 1 q4] 34;rw [e1,e2];have HK5:Hid (Keeps zA w w5):=HK4.out.zB K5;have HB5:Hid (w.heap.size <= bt):=by have h1:=HK4.out.size;have h2:=e1.symm;show w.heap.size <= bt;omega
 have HR5:=Lib.hid R5;have H35:=Lib.hid (H3.out.zD K5);have H45:=Lib.hid (H4.out.zD K5);have HX5:=Lib.hid (HX.out.keeps HK5.out (fun h=>h));have HS5:=Lib.hid (HS.out.keeps HK5.out (fun _ _ h=>h))
 have HOP:Hid (Calls Tryz.prog 122 #[(.pointer (some ⟨gs,0,none⟩)), .int .u64 0, .int .u64 1] w5 (zAR w5 gs v (.bool true) ([⟨0,1,0,-1⟩]:List Nd))):=by
  have:=zHV w5 gs v ([]:List Nd) 0 1 HS5.out (J168 _) (fun j hj=>HK5.out.cell (fun h=>h) (HT.out j hj)) (by decide) (by decide)
  rw [zNn] at this;exact this
 have HSZ:Hid (gs < w.heap.size /\ bx < w.heap.size /\ ∀ k,v.ownBlock=some k -> k < w.heap.size):=⟨World.block_lt_of_cell? w _ HS.out.cell0,HX.out.lt (by simp [XC]),fun k e=>zS HS.out.own e⟩;have y:=HX5.out.cellW (k:=3) rfl;have k5:=zH w5;clear e1 e2 R5 K5;go_upto_region 2 with (go_at_call 122;refine HOP.out.mono ?_;rintro e w6 ⟨v6,rfl,s6,k6,o6⟩;have HS6:=Lib.hid s6;have HK6:=Lib.hid k6;have HO6:Hid (∀ k,v6.ownBlock=some k -> v.ownBlock=some k \/ w5.heap.size <= k):=o6;clear s6 k6 o6 y k5)
 have HX6:=Lib.hid (HX5.out.keeps HK6.out (fun e=>by exact J160 _));have HNW:Hid (∀ q,w.heap.size <= q -> ¬ zLY gs v q):=fun q hq e=>by rcases e with e | e;have:=HSZ.out.1;omega;have:=HSZ.out.2.2 q e;omega
 have HR6:=Lib.hid (HR5.out.keeps HK6.out (HNW.out bt HB5.out));have H36:=Lib.hid (H35.out.keeps HK6.out (fun q e=>HNW.out q (HO4.out q (.inl e))));have H46:=Lib.hid (H45.out.keeps HK6.out (fun q e=>HNW.out q (HO4.out q (.inr e))))
 have HV6:Hid (∀ k,v6.ownBlock=some k -> B <= k /\ k ≠ bx):=fun k e=>by
  exact J136 _
 have HN6:Hid (w6.ownsRow 0 32 1 (.slice none 0 0) 0 []):=World.ownsRow_nil _ _ _ _;have y:=HX6.out.cellW (k:=4) rfl;have z:=HR6.out.zAh;have k6:=zH w6;refine zCG 8 0 (by kernel_rfl) [some ((.pointer (some ⟨bx,0,none⟩))),some ((.pointer (some ⟨bx,0,none⟩))),some ((.pointer (some ⟨bx,0,none⟩))),some ((.pointer (some ⟨bx,4,none⟩))),some ((.slice none 0 0)),some ((.pointer (some ⟨bt,3,none⟩))),some (.slice b4 1 q4),none] rfl (fun j v W=>∃ g,v=.slice (some ⟨g,0,none⟩) 1 1 /\ zC W g [.slice b4 1 q4]) (fun j v W W' h hk=>by exact J165 _) _ rfl (fun _ _ _ _ h=>h) _ rfl (fun _ _ _=>by exact J156 _) ?_ ?_
 ·exact J122 _
 ·intro vs W hR hFF
  have HRW:Keeps zA w6 W:=((zH w6).drew).zB hR;obtain ⟨g8,e7,r7⟩:=(hFF 7 (by decide):∃ g,vs 7=.slice (some ⟨g,0,none⟩) 1 1 /\ zC W g [.slice b4 1 q4]);have e0:vs 0=_:=hFF 0 (by decide);have e4:vs 4=_:=hFF 4 (by decide);simp only [zJ,tz,Option.bind,Act.put];rw [e0,e4,e7];have HRG:=Lib.hid r7;have HKW:=Lib.hid HRW;have HXW:=Lib.hid (HX6.out.keeps HRW (fun h=>h));have HNO:=Lib.hid (zF HN6.out HRW (fun _ _ h=>h));clear hFF e0 e4 e7 r7 hR HRW y z k6;go_upto_region 3 with (at_builtin;refine zI _ (by rfl) _ _ 83 (by rfl) 0 32 i0 _ 1 24 Tryz.underlying83 hi0 hz0 hz1 hz2 rfl (by decide) (.slice none 0 0) 0 [] (by rfl) HNO.out (.slice (some ⟨g8,0,none⟩) 1 1) 1 [.slice b4 1 q4] (by rfl) (zC.src HRG.out) rfl (by simp [Value.oneCell']) (by unfold maxLen;omega) (by omega) (Nat.zero_le _) ?_;intro ad cap w7 hout;have HO7:=Lib.hid hout;have zr:=HXW.out.keeps (zi.keeps hout (Keeps.refl (fun q=>Value.ownBlock (.slice none 0 0)=some q) _) (fun q e _=>e)) (fun e=>zGR e);have zc:=zr.cell (k:=4) rfl;have zf:=zr.free (k:=4) (by simp [XC]);have HX7:=Lib.hid zr;clear hout zr)
  have HK7:Hid (Keeps (fun q=>Value.ownBlock (.slice none 0 0)=some q) W w7):=zi.keeps HO7.out (Keeps.refl (fun q=>Value.ownBlock (.slice none 0 0)=some q) _) (fun q e _=>e);have ra:zC (w7.setCell ⟨bx,4,none⟩ (.slice ad 1 cap)) bx (XC ca cc gt ot tc gs bx (.slice ad 1 cap) fn an a0 a1 a2 a3 a4 ex fo):=HX7.out.set 4 (by simp [XC]) (.slice ad 1 cap);have ka:Keeps (fun q=>q=bx) w7 (w7.setCell ⟨bx,4,none⟩ (.slice ad 1 cap)):=(Keeps.refl (fun q=>q=bx) w7).setCell (p:=⟨bx,4,none⟩) (fun _=>rfl) _;generalize (w7.setCell ⟨bx,4,none⟩ (.slice ad 1 cap))=w8 at ra ka ⊢;have HX8:=Lib.hid ra;have HK8:=Lib.hid ka;have HK06:Hid (Keeps (fun q=>B <= q) w w6):=(HK5.out.mono (fun _ _ h=>h.elim)).trans HK6.out (fun q _ e=>by rcases e with e | e;have:=HLO.out.1;omega;exact (HLO.out.2.2.2 q e).1);have HK08:Hid (Keeps (fun q=>B <= q) w w8):=((HK06.out.trans HKW.out (fun _ _ h=>h.elim)).trans HK7.out (fun q _ e=>(zGR e).elim)).trans HK8.out (fun q _ e=>by exact J181 _);clear ra ka zc zf;have HS8:=Lib.hid (((HS6.out.keeps HKW.out (fun _ _ h=>h)).keeps HK7.out (fun k e e2=>zGR e2)).keeps HK8.out (fun k e e2=>by exact J207 _));go_wp2_with fail
  go_returns
  have ho:=HO7.out.1;rw [Nat.zero_add,List.nil_append] at ho
  obtain ⟨gn,rfl⟩:∃ gn,ad=some ⟨gn,0,none⟩:=by
   rcases ho.2 with ⟨e,_⟩ | ⟨gn,cap',cur,e,_⟩
   ·simp at e
   ·simp only [Value.slice.injEq] at e
    exact ⟨gn,e.1⟩
  have hgn:W.heap.size <= gn:=by
   rcases HO7.out.2.2 gn (by simp [Value.ownBlock]) with h | h
   ·exact J66 _
   ·omega
  have h0:=HSZ.out;have h1:=HK5.out.size;have h2:=HK6.out.size;have h3:=HKW.out.size;have h4:=HLO.out;have h5:v6.ownBlock ≠ some gn:=fun e=>by have:=zS HS6.out.own e;omega
  exact ⟨rfl,v6,gn,cap,(b4,q4),HX8.out,HS8.out,zF ho HK8.out (fun q e e2=>by have e':q=bx:=e2;have:=zAp e;omega),⟨by omega,by omega,by omega,h5⟩,HV6.out,HK08.out⟩
theorem zPY {ca:Option Addr} {cc gt ot tc gs bx B:Nat} {v:Value} {fn:Fn} {an a1 a2 a3 a4:Int} {w:World} {b gc gi gf:Nat} {c1 oa ra:Option Addr} {c2 oc rc kc ki kf:Nat} {gn cn gl cl:Nat} {u:Value} (hx:zC w bx (XC ca cc gt ot tc gs bx (.slice (some ⟨gn,0,none⟩) 1 cn) fn an 0 a1 a2 a3 a4 (.slice none 0 0) (.slice none 0 0))) (hs:zP w gs v ([⟨0,1,0,0⟩]:List Nd)) (hm:VmC w b 3 c1 oa ra c2 oc rc gc gi gf kc ki kf) (hT:zAV w) (hlo:B <= gs /\ B <= bx /\ gs ≠ bx /\ (∀ k,v.ownBlock=some k -> B <= k /\ k ≠ bx)) (hn:w.ownsRow 0 32 1 (.slice (some ⟨gn,0,none⟩) 1 cn) 1 [u]) (hg:B <= gn /\ gn ≠ bx /\ gn ≠ gs /\ v.ownBlock ≠ some gn) (hl:zC w gl [.int .i64 0, .int .i64 9, .int .i64 0, .int .i64 0, .int .i64 0]) (hcl:1 <= cl) (hgl:gl ≠ bx /\ gl ≠ gs /\ gl ≠ gn /\ v.ownBlock ≠ some gl) :
 Calls Tryz.prog 75 #[(.pointer (some ⟨bx,0,none⟩)), .int .u64 0,(.pointer (some ⟨b,0,none⟩)), .slice (some ⟨gl,0,none⟩) 1 cl] w fun e w'=>e=.returned (.tuple #[]) /\ ∃ v6 g2 cap ex fg,zC w' bx (XC ca cc gt ot tc gs bx (.slice (some ⟨g2,0,none⟩) 2 cap) fn an 1 a1 a2 a3 a4 ex (.slice (some ⟨fg,0,none⟩) 0 0)) /\ zP w' gs v6 ([⟨0,1,0,0⟩,⟨0,0,0,-1⟩]:List Nd) /\ 2 <= cap /\ (∀ k,v6.ownBlock=some k -> B <= k /\ k ≠ bx) /\ Keeps (fun q=>B <= q) w w':=by
 obtain ⟨i0,hi0,hz0,hz1,hz2⟩:=info_parts zHW;have HX:=Lib.hid hx;have HS:=Lib.hid hs;have HM:=Lib.hid hm;have HT:=Lib.hid hT;have HLO:=Lib.hid hlo;have HN:=Lib.hid hn;have HG:=Lib.hid hg;have HL:=Lib.hid hl;have HCL:=Lib.hid hcl;have HGL:=Lib.hid hgl;have HP:=Lib.hid (zDD w gs v ([⟨0,1,0,0⟩]:List Nd) hs (J168 _) (by intro x hx;simp at hx));have y:=hx.cellW (k:=3) rfl;have k0:=zH w;clear hx hs hm hT hlo hn hg hl hcl hgl;go_enter Tryz.func75,Tryz.ntmps75
 go_upto_region 1 with (first
  | (go_at_call 79;refine HP.out.mono ?_;rintro e w1 ⟨vp,rfl,h1,h2,_⟩;have HK1:Hid (Keeps zA w w1):=Keeps.zBv h2 _;have hsr:=zAa.src h1;clear h1 h2 y k0;obtain ⟨pa,pc,rfl,hp⟩:=hsr;clear hp)
  | (go_at_call 120;refine (zKy (HM.out.zD HK1.out)).mono ?_;rintro e w2 ⟨rfl,h2⟩;have HK2:=Lib.hid (HK1.out.zB h2);clear h2)
  | (go_at_call 119;refine (zPm w2).mono ?_;rintro e w3 ⟨rfl,rfl⟩)
  | (go_at_call 121;refine (zLJ (st:=3) (ko:=0) (HM.out.zD HK2.out) (by decide)).mono ?_;rintro e w4 ⟨b1,b2,b3,q3,b4,q4,rfl,h3,h4,hk,ho⟩;have HK4:=Lib.hid (HK2.out.zB hk);have H3:=Lib.hid h3;have H4:=Lib.hid h4;have HO4:Hid (∀ q,(Value.slice b3 1 q3).ownBlock=some q \/ (Value.slice b4 1 q4).ownBlock=some q -> w.heap.size <= q):=fun q e=>Nat.le_trans HK2.out.size (ho q e);clear h3 h4 hk ho))
 obtain ⟨bt,w5,e1,e2,R5,K5,_⟩:=newRow w4 [.slice b1 0 0, .slice b2 0 0, .slice b3 1 q3, .slice b4 1 q4] 34;rw [e1,e2];have HK5:Hid (Keeps zA w w5):=HK4.out.zB K5;have HB5:Hid (w.heap.size <= bt):=by have h1:=HK4.out.size;have h2:=e1.symm;show w.heap.size <= bt;omega
 have HR5:=Lib.hid R5;have H35:=Lib.hid (H3.out.zD K5);have H45:=Lib.hid (H4.out.zD K5);have HX5:=Lib.hid (HX.out.keeps HK5.out (fun h=>h));have HS5:=Lib.hid (HS.out.keeps HK5.out (fun _ _ h=>h))
 have HOP:Hid (Calls Tryz.prog 122 #[(.pointer (some ⟨gs,0,none⟩)), .int .u64 0, .int .u64 0] w5 (zAR w5 gs v (.bool true) ([⟨0,1,0,0⟩,⟨0,0,0,-1⟩]:List Nd))):=by
  have:=zHV w5 gs v ([⟨0,1,0,0⟩]:List Nd) 0 0 HS5.out (J168 _) (fun j hj=>HK5.out.cell (fun h=>h) (HT.out j hj)) (by decide) (by decide)
  rw [zOC] at this;exact this
 have HSZ:Hid (gs < w.heap.size /\ bx < w.heap.size /\ ∀ k,v.ownBlock=some k -> k < w.heap.size):=⟨World.block_lt_of_cell? w _ HS.out.cell0,HX.out.lt (by simp [XC]),fun k e=>zS HS.out.own e⟩;have y:=HX5.out.cellW (k:=3) rfl;have k5:=zH w5;clear e1 e2 R5 K5;go_upto_region 2 with (go_at_call 122;refine HOP.out.mono ?_;rintro e w6 ⟨v6,rfl,s6,k6,o6⟩;have HS6:=Lib.hid s6;have HK6:=Lib.hid k6;have HO6:Hid (∀ k,v6.ownBlock=some k -> v.ownBlock=some k \/ w5.heap.size <= k):=o6;clear s6 k6 o6 y k5)
 have HX6:=Lib.hid (HX5.out.keeps HK6.out (fun e=>by exact J160 _));have HNW:Hid (∀ q,w.heap.size <= q -> ¬ zLY gs v q):=fun q hq e=>by rcases e with e | e;have:=HSZ.out.1;omega;have:=HSZ.out.2.2 q e;omega
 have HR6:=Lib.hid (HR5.out.keeps HK6.out (HNW.out bt HB5.out));have H36:=Lib.hid (H35.out.keeps HK6.out (fun q e=>HNW.out q (HO4.out q (.inl e))));have H46:=Lib.hid (H45.out.keeps HK6.out (fun q e=>HNW.out q (HO4.out q (.inr e))))
 have HV6:Hid (∀ k,v6.ownBlock=some k -> B <= k /\ k ≠ bx):=fun k e=>by
  exact J136 _
 have HN6:=Lib.hid (zF (zF HN.out HK5.out (fun _ _ h=>h)) HK6.out (fun q e e2=>by exact J213 _));have HL6:=Lib.hid ((HL.out.keeps HK5.out (fun h=>h)).keeps HK6.out (fun e=>by rcases e with e | e;exact HGL.out.2.1 e;exact HGL.out.2.2.2 e));have HGS:Hid (gn < w.heap.size /\ gl < w.heap.size):=⟨zS HN.out rfl,HL.out.lt (by simp)⟩
 have HV6n:Hid (v6.ownBlock ≠ some gn):=fun e=>by
  rcases HO6.out gn e with h | h
  ·exact HG.out.2.2.2 h
  ·have:=HGS.out.1
   have:=HK5.out.size
   omega
 have y:=HX6.out.cellW (k:=4) rfl;have z:=HR6.out.zAh;have k6:=zH w6;refine zCG 8 0 (by kernel_rfl) [some ((.pointer (some ⟨bx,0,none⟩))),some ((.pointer (some ⟨bx,0,none⟩))),some ((.pointer (some ⟨bx,0,none⟩))),some ((.pointer (some ⟨bx,4,none⟩))),some ((.slice (some ⟨gn,0,none⟩) 1 cn)),some ((.pointer (some ⟨bt,3,none⟩))),some (.slice b4 1 q4),none] rfl (fun j v W=>∃ g,v=.slice (some ⟨g,0,none⟩) 1 1 /\ zC W g [.slice b4 1 q4]) (fun j v W W' h hk=>by exact J165 _) _ rfl (fun _ _ _ _ h=>h) _ rfl (fun _ _ _=>by exact J156 _) ?_ ?_
 ·exact J122 _
 ·intro vs W hR hFF
  have HRW:Keeps zA w6 W:=((zH w6).drew).zB hR;obtain ⟨g8,e7,r7⟩:=(hFF 7 (by decide):∃ g,vs 7=.slice (some ⟨g,0,none⟩) 1 1 /\ zC W g [.slice b4 1 q4]);have e0:vs 0=_:=hFF 0 (by decide);have e4:vs 4=_:=hFF 4 (by decide);simp only [zJ,tz,Option.bind,Act.put];rw [e0,e4,e7];have HRG:=Lib.hid r7;have HKW:=Lib.hid HRW;have HXW:=Lib.hid (HX6.out.keeps HRW (fun h=>h));have HNO:=Lib.hid (zF HN6.out HRW (fun _ _ h=>h));clear hFF e0 e4 e7 r7 hR HRW y z k6;go_upto_region 3 with (at_builtin;refine zI _ (by rfl) _ _ 83 (by rfl) 0 32 i0 _ 1 24 Tryz.underlying83 hi0 hz0 hz1 hz2 rfl (by decide) (.slice (some ⟨gn,0,none⟩) 1 cn) 1 [u] (by rfl) HNO.out (.slice (some ⟨g8,0,none⟩) 1 1) 1 [.slice b4 1 q4] (by rfl) (zC.src HRG.out) rfl (by simp [Value.oneCell']) (by unfold maxLen;omega) (by omega) (Nat.zero_le _) ?_;intro ad cap w7 hout;have HO7:=Lib.hid hout;have zr:=HXW.out.keeps (zi.keeps hout (Keeps.refl (fun q=>Value.ownBlock (.slice (some ⟨gn,0,none⟩) 1 cn)=some q) _) (fun q e _=>e)) (fun e=>HG.out.2.1 (zAp e).symm);have zc:=zr.cell (k:=4) rfl;have zf:=zr.free (k:=4) (by simp [XC]);have HX7:=Lib.hid zr;clear hout zr)
  have HK7:Hid (Keeps (fun q=>Value.ownBlock (.slice (some ⟨gn,0,none⟩) 1 cn)=some q) W w7):=zi.keeps HO7.out (Keeps.refl (fun q=>Value.ownBlock (.slice (some ⟨gn,0,none⟩) 1 cn)=some q) _) (fun q e _=>e);have ra:zC (w7.setCell ⟨bx,4,none⟩ (.slice ad 2 cap)) bx (XC ca cc gt ot tc gs bx (.slice ad 2 cap) fn an 0 a1 a2 a3 a4 (.slice none 0 0) (.slice none 0 0)):=HX7.out.set 4 (by simp [XC]) (.slice ad 2 cap);have ka:Keeps (fun q=>q=bx) w7 (w7.setCell ⟨bx,4,none⟩ (.slice ad 2 cap)):=(Keeps.refl (fun q=>q=bx) w7).setCell (p:=⟨bx,4,none⟩) (fun _=>rfl) _;generalize (w7.setCell ⟨bx,4,none⟩ (.slice ad 2 cap))=w8 at ra ka ⊢;have HX8:=Lib.hid ra;have HK8:=Lib.hid ka;have HK06:Hid (Keeps (fun q=>B <= q) w w6):=(HK5.out.mono (fun _ _ h=>h.elim)).trans HK6.out (fun q _ e=>by rcases e with e | e;have:=HLO.out.1;omega;exact (HLO.out.2.2.2 q e).1);have HK08:Hid (Keeps (fun q=>B <= q) w w8):=((HK06.out.trans HKW.out (fun _ _ h=>h.elim)).trans HK7.out (fun q _ e=>by rw [zAp e];exact HG.out.1)).trans HK8.out (fun q _ e=>by exact J181 _);clear ra ka zc zf;have HS8:=Lib.hid (((HS6.out.keeps HKW.out (fun _ _ h=>h)).keeps HK7.out (fun k e e2=>by rw [zAp e2] at e;rcases e with e | e;exact HG.out.2.2.1 e;exact HV6n.out e)).keeps HK8.out (fun k e e2=>by exact J207 _));have HL8:=Lib.hid (((HL6.out.keeps HKW.out (fun h=>h)).keeps HK7.out (fun e=>HGL.out.2.2.1 (zAp e))).keeps HK8.out (fun e=>HGL.out.1 e));have HBN:Hid (∀ q,w.heap.size <= q -> q ≠ gn /\ q ≠ bx):=fun q hq=>⟨by have:=HGS.out.1;omega,by have:=HSZ.out.2.1;omega⟩
  have HR8:=Lib.hid (((HR6.out.keeps HKW.out (fun h=>h)).keeps HK7.out (fun e=>(HBN.out _ HB5.out).1 (zAp e))).keeps HK8.out (fun e=>(HBN.out _ HB5.out).2 e));have H38:=Lib.hid (((H36.out.zD HKW.out).keeps HK7.out (fun q e e2=>(HBN.out _ (HO4.out _ (.inl e))).1 (zAp e2))).keeps HK8.out (fun q e e2=>(HBN.out _ (HO4.out _ (.inl e))).2 e2));have H48:=Lib.hid (((H46.out.zD HKW.out).keeps HK7.out (fun q e e2=>(HBN.out _ (HO4.out _ (.inr e))).1 (zAp e2))).keeps HK8.out (fun q e e2=>(HBN.out _ (HO4.out _ (.inr e))).2 e2));have HDN:=Lib.hid (zOZ HX8.out pa 1 pc gl cl HL8.out HCL.out HGL.out.1 b1 b2 b3 b4 q3 q4 H48.out (fun k e=>(HBN.out k (HO4.out k (.inr e))).2));have y:=HR8.out.zAh;have k8:=zH w8;go_upto_region 7 with (go_at_call 123;refine HDN.out.mono ?_;rintro e w9 ⟨rfl,ex,fg,hx9,hk9⟩;have HX9:=Lib.hid hx9;have HK9:=Lib.hid hk9;clear hx9 hk9 y k8)
  have HR9:=Lib.hid (HR8.out.keeps HK9.out (fun e=>(HBN.out _ HB5.out).2 e));have H39:=Lib.hid (H38.out.keeps HK9.out (fun q e e2=>(HBN.out _ (HO4.out _ (.inl e))).2 e2));have y:=HR9.out.zAh;have k9:=zH w9;go_wp2_with (go_at_call 124;refine (zN7 w9 bx _ b1 b2 b3 b4 q3 q4 0 H39.out).mono ?_;rintro e wA ⟨rfl,gA⟩;have GA:=Lib.hid gA;clear gA y k9)
  go_returns
  obtain ⟨g2,hcap,rfl⟩:∃ g2,2 <= cap /\ ad=some ⟨g2,0,none⟩:=by
   rcases HO7.out.1.2 with ⟨e,_⟩ | ⟨g2,cap',cur,e,_,_,h1,_⟩
   ·simp at e
   ·simp only [Value.slice.injEq] at e
    exact ⟨g2,by omega,e.1⟩
  refine ⟨rfl,v6,g2,cap,ex,fg,HX9.out.keeps GA.out (fun h=>h),(HS8.out.keeps HK9.out (fun k e e2=>?_)).keeps GA.out (fun _ _ h=>h),hcap,HV6.out,(HK08.out.trans HK9.out (fun q _ e=>?_)).trans GA.out (fun _ _ h=>h.elim)⟩
  ·have e':k=bx:=e2
   subst e';rcases e with e | e
   ·exact HLO.out.2.2.1 e.symm
   ·exact (HV6.out _ e).2 rfl
  ·have e':q=bx:=e
   have:=HLO.out.2.1
   omega
end Go.Proofs.YtoapgjjepiopbaaGreatDoor
