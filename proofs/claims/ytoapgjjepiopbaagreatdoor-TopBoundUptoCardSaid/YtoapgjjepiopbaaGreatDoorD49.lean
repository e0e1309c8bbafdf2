/- Layer D: texts joined. -/
import Derived.Test.YtoapgjjepiopbaaGreatDoorD48
import Derived.Test.YtoapgjjepiopbaaGreatDoorD46
set_option linter.all false
set_option maxHeartbeats 4000000
set_option maxRecDepth 30000
namespace Go.Proofs.YtoapgjjepiopbaaGreatDoor
open Go.RowKit
theorem J37(P:Prop) (h:P:=by
 refine⟨?_,?_,?_,?_,?_,?_,?_,?_,trivial⟩ <;> (intro vs gs W Q' hR hd hK;have HRW:Keeps zA w6 W:=((zF w6).drew).zC hR;simp only[zBK,zAt,zBo,zJ,tz,Option.bind,Act.put] at hd hK ⊢;try simp only[hd] at hK ⊢)
 all_goals try(try clear hd;go_wp2_with (fail);first|exact hK _ _ (yB _ _) rfl)
 ·clear hd
  go_wp2_with fail
  exact hK _ _ ((yB zA W).alloc _) ⟨_,rfl,yK (yG W _)⟩):P:=h
theorem J154(P:Prop) (h:P:=by
 rcases HO6.out k e with h|h
 ·exact HLO.out.2.2.2 k h
 ·have h1:=HSZ.out.2.1
  have h2:=HSZ.out.1;have h3:=HK5.out.size;have h4:=HLO.out.1;exact J54 _):P:=h
theorem J176(P:Prop)(h:P:=by rcases e with e|e;exact HLO.out.2.2.1 e.symm;exact(HLO.out.2.2.2 bx e).2 rfl):P:=h
theorem J203(P:Prop)(h:P:=by have e':q=bx:=e;have:=HLO.out.2.1;omega):P:=h
theorem J234(P:Prop)(h:P:=by have e':k=bx:=e2;subst e';rcases e with e|e;exact HLO.out.2.2.1 e.symm;exact(HV6.out _ e).2 rfl):P:=h
theorem J243(P:Prop)(h:P:=by rw[zBQ e] at e2;rcases e2 with e|e;exact HG.out.2.2.1 e;exact HG.out.2.2.2 e):P:=h
theorem zOj(w:World):Calls Tryz.prog 229 #[.int .u64 0] w λe w'=>(∃n,e=.returned (.int .i64 n))/\w=w':=by
 go_enter Tryz.func229,Tryz.ntmps229
 go_wp2_with fail
 go_ret
 exact⟨⟨_,rfl⟩,rfl⟩
theorem zRv(w:World):Calls Tryz.prog 254 #[.int .u64 0] w λe w'=>(∃n,e=.returned (.int .i64 n))/\w=w':=by
 go_enter Tryz.func254,Tryz.ntmps254
 go_wp2_with (go_at_call 229;refine(zOj _).mono ?_;rintro e w' ⟨⟨n,rfl⟩,rfl⟩)
 go_ret
 exact⟨⟨_,rfl⟩,rfl⟩
theorem zSJ(fv:Value)(a:Option Addr)(c:Nat)(w:World):Calls Tryz.prog 294 #[.slice a 0 c,(0:Int),(0:Int),fv] w λe w'=>e=.returned (.tuple #[])/\w=w':=by
 go_enter Tryz.func294,Tryz.ntmps294
 exact J70 _
theorem zSX(fv:Value)(a:Option Addr)(c:Nat)(k:Int)(w:World):Calls Tryz.prog 275 #[.slice a 0 c,(0:Int),(0:Int),k,fv] w λe w'=>e=.returned (.tuple #[])/\w=w':=by
 go_enter Tryz.func275,Tryz.ntmps275
 go_wp2_with fail
 refine yY 1 ?_
 rw[yQ];go_wp2_with (go_at_call 294;refine(zSJ fv a c _).mono ?_;rintro e w' ⟨rfl,rfl⟩)
 go_returns
 exact⟨rfl,rfl⟩
theorem zRd(fv:Value)(a:Option Addr)(c:Nat)(w:World):Calls Tryz.prog 247 #[.slice a 0 c,fv] w λe w'=>e=.returned (.tuple #[])/\w=w':=by
 go_enter Tryz.func247,Tryz.ntmps247
 go_wp2_with (first|(go_at_call 254;refine(zRv _).mono ?_;rintro e w' ⟨⟨n,rfl⟩,rfl⟩)|(go_at_call 275;refine(zSX fv a c _ _).mono ?_;rintro e w' ⟨rfl,rfl⟩))
 go_returns
 exact⟨rfl,rfl⟩
theorem zSZ(fv:Value)(a:Option Addr)(c:Nat)(w:World):Calls Tryz.prog 278 #[.slice a 0 c,(0:Int),(0:Int),fv] w λe w'=>e=.returned (.tuple #[])/\w=w':=by
 go_enter Tryz.func278,Tryz.ntmps278
 exact J70 _
theorem zSW(fv:Value)(a:Option Addr)(c:Nat)(k:Int)(w:World):Calls Tryz.prog 253 #[.slice a 0 c,(0:Int),(0:Int),k,fv] w λe w'=>e=.returned (.tuple #[])/\w=w':=by
 go_enter Tryz.func253,Tryz.ntmps253
 go_wp2_with fail
 refine yY 1 ?_
 rw[yQ];go_wp2_with (go_at_call 278;refine(zSZ fv a c _).mono ?_;rintro e w' ⟨rfl,rfl⟩)
 go_returns
 exact⟨rfl,rfl⟩
theorem zRp(fv:Value)(a:Option Addr)(c:Nat)(w:World):Calls Tryz.prog 217 #[.slice a 0 c,fv] w λe w'=>e=.returned (.tuple #[])/\w=w':=by
 go_enter Tryz.func217,Tryz.ntmps217
 go_wp2_with (first|(go_at_call 254;refine(zRv _).mono ?_;rintro e w' ⟨⟨n,rfl⟩,rfl⟩)|(go_at_call 253;refine(zSW fv a c _ _).mono ?_;rintro e w' ⟨rfl,rfl⟩))
 go_returns
 exact⟨rfl,rfl⟩
theorem zRY(w:World)(la:Option Addr)(lc:Nat)(h:zl w (.slice la 1 lc) 1 (evC ev0))(hlc:1<=lc):Calls Tryz.prog 212 #[.slice la 1 lc] w λe w'=>e=.returned (.tuple #[.slice none 0 0,(0:Int)])/\Keeps zA w w':=by
 have H:=yA h;obtain⟨g,o,rfl,d⟩:=zD1 h;have HD:=yA d;clear h d;go_enter Tryz.func212,Tryz.ntmps212
 go_upto_region 2 with(go_at_call 166;refine(zE5 _ _ lc H.out hlc).mono ?_;rintro e w1 ⟨bo,go,oc,rfl,h1,h2,h3⟩;have K1:=yA h3;clear h1 h2 h3)
 have d1:=λ(W:World)(q:Keeps zA w1 W)=>HD.out W (K1.out.zC q)
 have k1:=zF w1;go_wp2_with fail
 refine yY 2 ?_
 rw[yQ];go_upto_region 8 with fail
 obtain⟨b8,w2,e1,e2,R2,K2,_⟩:=newRow w1 [(0:Int),(9:Int),(0:Int),(0:Int),(0:Int)] 67;try rw[e1]
 try rw[e2]
 have HK2:Hid (Keeps zA w w2):=K1.out.zC K2;clear e1 e2 R2 K2 d1 k1;go_wp2_with fail
 refine yY 1 ?_
 rw[yQ];go_wp2_with fail
 rw[yQ];go_wp2_with (go_at_call 247;refine(zRd _ none 0 _).mono ?_;rintro e w' ⟨rfl,rfl⟩)
 go_ret2
 exact⟨rfl,HK2.out⟩
theorem zMx:(Tryz.prog.info? 333).map (λi=>(i.zero,i.size,i.bytes))=some (some (.agg #[(0:Int),(0:Int),(0:Int),(0:Int),.slice none 0 0]),5,56):=by kernel_rfl
theorem zQf(w:World)(g:Nat):Calls Tryz.prog 220 #[.slice (some ⟨g,0,none⟩) 0 0] w λe w'=>e=.returned (.slice (some ⟨g,0,none⟩) 0 0)/\w=w':=by
 go_enter Tryz.func220,Tryz.ntmps220
 exact J145 _
theorem zNK(w:World)(aa ba:Option Addr)(ca cb:Nat):Calls Tryz.prog 183 #[.slice aa 0 ca,.slice ba 0 cb] w λe w'=>∃g,e=.returned (.slice (some ⟨g,0,none⟩) 0 0)/\Keeps zA w w':=by
 obtain⟨i0,hi0,hz0,hz1,hz2⟩:=info_parts zMx;have hmm:=@run_makeMap Tryz.prog;have hx0:∀W,(Instr.index 339 (.agg #[.slice aa 0 ca,.slice ba 0 cb]) (.int .i64 0)).run Tryz.prog W=.ok (.slice aa 0 ca) W:=λW=>by kernel_rfl
 have hx1:∀W,(Instr.index 339 (.agg #[.slice aa 0 ca,.slice ba 0 cb]) (.int .i64 1)).run Tryz.prog W=.ok (.slice ba 0 cb) W:=λW=>by kernel_rfl
 go_enter Tryz.func183,Tryz.ntmps183
 go_upto_region 2 with fail
 have hk1:Keeps zA w (w.alloc (.map #[] 0)):=(yB _ _).alloc _;generalize w.alloc (.map #[] 0)=w1 at hk1 ⊢;have HK1:=yA hk1;clear hk1;go_upto_region 3 with(at_make;refine wpList_make_own _ rfl _ _ _ rfl 0 333 i0 _ 5 Tryz.underlying85 hi0 hz0 hz1 _ _ _ 0 (by rfl) (by rfl) rfl (by rw[hz2];omega) (by unfold maxLen;omega) (yF _) ?_;intro w2 hown hgr;have HGR:=yA hgr;clear hown hgr)
 go_wp2_with fail
 refine yY 3 ?_
 rw[yQ];go_wp2_with fail
 refine yY 1 ?_
 rw[yQ];go_wp2_with fail
 rw[yQ];go_wp2_with fail
 refine yY 1 ?_
 rw[yQ];go_wp2_with fail
 rw[yQ];go_wp2_with (first|(go_at_call 217;refine(zRp _ _ _ _).mono ?_;rintro e w' ⟨rfl,rfl⟩)|(go_at_call 220;refine(zQf _ _).mono ?_;rintro e w' ⟨rfl,rfl⟩))
 go_ret
 exact⟨_,rfl,HK1.out.grown HGR.out (by simp)⟩
theorem zOq(w:World):Calls Tryz.prog 267 #[.agg #[(0:Int),(0:Int),(0:Int),(0:Int),(0:Int)]] w λe w'=>e=.returned false/\Keeps zA w w':=by
 go_enter Tryz.func267,Tryz.ntmps267
 go_wp2_with (go_at_call 277;refine(zDT 0 _ (by decide)).mono ?_;rintro e w' ⟨rfl,rfl⟩)
 go_ret
 exact⟨rfl,(yB _ _).alloc _⟩
theorem zSL(w:World)(b:Nat):Calls Tryz.prog 251 #[.pointer (some ⟨b,0,none⟩),(0:Int),.agg #[(0:Int),(0:Int)]] w λe w'=>e=.returned false/\Keeps zA w w':=by
 go_enter Tryz.func251,Tryz.ntmps251
 go_upto_region 1 with fail
 obtain⟨b1,w1,e1,e2,R1,K1,_⟩:=newRow w [(0:Int),(0:Int)] 138;rw[e1,e2];have HR1:=yA R1;have HK1:=yA K1;have y:=R1.all2;have k1:=zF w1;clear e1 e2 R1 K1;go_upto_region 2 with fail
 obtain⟨b2,w2,e1,e2,R2,K2,_⟩:=newRow w1 [(0:Int),(0:Int),(0:Int),(0:Int),(0:Int)] 67;rw[e1,e2];have HK2:Hid (Keeps zA w w2):=HK1.out.zC K2;have y2:=(HR1.out.keeps K2 (λh=>h)).all2;have u:=R2.zOa;have k2:=zF w2;clear e1 e2 R2 K2 y k1;go_wp2_with (go_at_call 267;refine(zOq _).mono ?_;rintro e w3 ⟨rfl,g3⟩;have HK3:Hid (Keeps zA w w3):=HK2.out.zC g3;clear g3 y2 u k2)
 go_ret
 exact⟨rfl,HK3.out⟩
theorem zQm(B b:Nat)(w:World)(g o cn:Nat)(h:zB7 B w b 1 (zDM 0 [ev0] (T0,O0)).1 (zDM 0 [ev0] (T0,O0)).2)(c0:w.cell? ⟨g,o,none⟩=some (.int .i64 0))(c1:w.cell? ⟨g,o+1,none⟩=some (.int .i64 0)):
 Calls Tryz.prog 215 #[.pointer (some ⟨b,0,none⟩),.slice (some ⟨g,o,none⟩) 1 cn] w λe w'=>e=.returned (.tuple #[(0:Int),false])/\Keeps zA w w':=by
 have hT:∀t:Nat,t<8->((zDM 0 [ev0] (T0,O0)).1.getD t (0,0)).1≠2:=by decide
 have HS:Hid (∀W,Keeps zA w W->∀t:Nat,t<8->Calls Tryz.prog 252 #[.pointer (some ⟨b,0,none⟩),.int .i64 t] W λe w'=>(∃s,s≠2/\e=.returned (.int .i64 s))/\Keeps zA W w'):=λW hk t ht=>(zJu (h.keeps hk (λ_ _ h=>h)) t ht).mono λe w' ⟨h1,h2⟩=>⟨⟨_,hT t ht,h1⟩,h2⟩
 have y0:=zL c0;have y1:=zL c1;have k0:=zF w;clear h hT c0 c1;go_enter Tryz.func215,Tryz.ntmps215
 go_wp2_with fail
 refine yY 2 ?_
 rw[yQ];go_upto_region 4 with fail
 obtain⟨b1,w1,e1,e2,R1,K1,_⟩:=newRow w [(0:Int),(0:Int)] 138;try rw[e1]
 try rw[e2]
 have y:=R1.all2;have k1:=zF w1;have HK1:=yA K1;clear e1 e2 R1 K1 y0 y1 k0;go_upto_region 6 with(go_at_call 251;refine(zSL _ b).mono ?_;rintro e w2 ⟨rfl,g2⟩;have HK2:Hid (Keeps zA w w2):=HK1.out.zC g2;clear g2 y k1)
 go_wp2_with fail
 rw[yQ];go_wp2_with fail
 go_loopw [21] (λiv wr=>∃i:Nat,i<=8/\iv=.int .i64 i/\Hid (Keeps zA w wr)) (λiv _=>8-(intOf iv).toNat)
 case atStart=>exact⟨0,by omega,rfl,HK2.out⟩
 case round =>
  obtain⟨i,hi,rfl,HK⟩:=hrel;by_cases hlt:i<8
  ·have i2:(i:Int)<8:=by omega
   go_upto_region 11 with(go_at_call 252;refine(HS.out _ HK.out i hlt).mono ?_;rintro e w3 ⟨⟨s,hs,rfl⟩,g3⟩;have hsb:(s==2)=false:=(by simpa using hs);have HK3:Hid (Keeps zA w w3):=HK.out.zC g3;clear g3 hs)
   exact⟨⟨i+1,by omega,by go_num,HK3.out⟩,by simp[intOf];omega⟩
  ·obtain rfl:i=8:=by omega
   go_wp2_with fail
   go_ret2
   exact⟨rfl,HK.out⟩
theorem zO5(w:World)(la:Option Addr)(lc:Nat)(h:zl w (.slice la 1 lc) 1 (evC ev0))(hlc:1<=lc)(na:Option Addr)(cn:Nat)(hn:zl w (.slice na 1 cn) 1 [.int .i64 0,.int .i64 0]):
 Calls Tryz.prog 182 #[.slice la 1 lc,.slice na 1 cn] w λe w'=>∃g,e=.returned (.tuple #[.slice (some ⟨g,0,none⟩) 0 0,(0:Int)])/\Keeps zA w w':=by
 have H:=yA h;obtain⟨g,o,rfl,d⟩:=zD1 h;have HD:=yA d
 obtain⟨gn,on,rfl,HN⟩:∃gn on,na=some ⟨gn,on,none⟩/\Hid (w.cell? ⟨gn,on,none⟩=some (.int .i64 0)/\w.cell? ⟨gn,on+1,none⟩=some (.int .i64 0)):=by
  obtain⟨ad,cap,e,hs⟩:=hn;cases e;obtain⟨gn,on,e,hc⟩:=hs (by decide);have h0:=hc 0 (.int .i64 0) rfl;rw[uQ] at h0;exact⟨gn,on,e,h0,hc 1 (.int .i64 0) rfl⟩
 have hmf:∀(fn:Fn)(first cap:Array Value)(w:World),(Instr.makeFunc fn first cap).run Tryz.prog w=.ok (.func fn first cap) w:=λ_ _ _ _=>rfl
 clear h d hn;go_enter Tryz.func182,Tryz.ntmps182
 go_upto_region 1 with fail
 obtain⟨b2,w1,e1,e2,R1,K1,_⟩:=newRow w [.slice (some ⟨g,o,none⟩) 1 lc] 31;try rw[e1]
 try rw[e2]
 have HR1:=yA R1;have HK1:=yA K1;have y:=R1.all1;have k1:=zF w1;clear e1 e2 R1 K1;go_upto_region 4 with(go_at_call 212;refine(zRY _ _ lc (H.out.keeps HK1.out (λ_ _ h=>h)) hlc).mono ?_;rintro e w2 ⟨rfl,g2⟩;have G2:=yA g2;clear g2 y k1)
 have HK2:Hid (Keeps zA w w2):=HK1.out.zC G2.out;have HR2:=yA (HR1.out.keeps G2.out (λh=>h));have y:=HR2.out.all1;have k2:=zF w2;go_upto_region 7 with(go_at_call 198;refine(zHI _ _ [ev0] (by simpa using H.out.keeps HK2.out (λ_ _ h=>h)) (by simp) zNa).mono ?_;rintro e w3 ⟨bl,rfl,hl,g3⟩;have HL:=yA hl;have G3:=yA g3;clear hl g3 y k2)
 have HK3:Hid (Keeps zA w w3):=HK2.out.zC G3.out;have HR3:=yA (HR2.out.keeps G3.out (λh=>h));have y:=HR3.out.all1;have k3:=zF w3;go_upto_region 8 with fail
 obtain⟨b4,w4,e1,e2,R4,K4,_⟩:=newRow w3 [.slice none 0 0] 85;try rw[e1]
 try rw[e2]
 have HR4:=yA R4;have HK34:=yA K4;have HK4:Hid (Keeps zA w w4):=HK3.out.zC K4;have y4:=(HR3.out.keeps K4 (λh=>h)).all1;have d4:=λ(W:World)(q:Keeps zA w4 W)=>HD.out W (HK4.out.zC q)
 have k4:=zF w4;clear e1 e2 R4 K4 y k3;go_wp2_with fail
 refine yY 2 ?_
 rw[yQ];go_upto_region 12 with fail
 obtain⟨b5,w5,e1,e2,R5,K5,_⟩:=newRow w4 [(0:Int),(9:Int),(0:Int),(0:Int),(0:Int)] 67;try rw[e1]
 try rw[e2]
 have HR5:=yA R5;have HK45:=yA K5;have HK5:Hid (Keeps zA w w5):=HK4.out.zC K5;have y5:=R5.zOa;have k5:=zF w5;clear e1 e2 R5 K5 y4 d4 k4;go_wp2_with fail
 rw[yQ];go_wp2_with fail
 refine yY 1 ?_
 rw[yQ];have HL5:Hid (zB7 w2.heap.size w5 bl 1 (zDM 0 [ev0] (T0,O0)).1 (zDM 0 [ev0] (T0,O0)).2):=(HL.out.keeps HK34.out (λ_ _ h=>h)).keeps HK45.out (λ_ _ h=>h);have z0:=HK5.out.cell (λh=>h) HN.out.1;have z1:=HK5.out.cell (λh=>h) HN.out.2;go_upto_region 27 with(go_at_call 215;refine(zQm w2.heap.size bl _ gn on cn HL5.out z0 z1).mono ?_;rintro e w6 ⟨rfl,g6⟩;have G6:=yA g6;clear g6 y5 k5 z0 z1)
 have y6:=(HR4.out.keeps (HK45.out.zC G6.out) (λh=>h)).all1;have k6:=zF w6;go_wp2_with (go_at_call 183;refine(zNK _ none none 0 0).mono ?_;rintro e w7 ⟨gm,rfl,g7⟩;have G7:=yA g7;clear g7 y6 k6)
 go_ret2
 exact⟨gm,rfl,(HK5.out.zC G6.out).zC G7.out⟩
theorem zND:(Tryz.prog.info? 22).map (λi=>(i.zero,i.size,i.bytes))=some (some (.slice none 0 0),1,24):=by kernel_rfl
theorem zIu:(Tryz.prog.info? 32).map (λi=>(i.zero,i.size,i.bytes))=some (some (.slice none 0 0),1,24):=by kernel_rfl
theorem zPD(w:World)(bx g cp:Nat)(h:w.cell? ⟨g,0,none⟩=some (.int .u64 0)):Calls Tryz.prog 115 #[(.pointer (some ⟨bx,0,none⟩)),.slice (some ⟨g,0,none⟩) 1 cp] w λe w'=>e=.returned (.tuple #[])/\w=w':=by
 go_enter Tryz.func115,Tryz.ntmps115
 go_wp2_with fail
 refine yY 2 ?_
 rw[yQ];go_wp2_with fail
 rw[yQ];go_wp2_with fail
 go_returns
 exact⟨rfl,rfl⟩
theorem zQB(w:World)(bx:Nat)(lv:Value)(b1 b2 b3 b4:Option Addr)(q3 q4:Nat)(en:Int)(h:zl w (.slice b3 1 q3) 1 [.int .i64 3]):Calls Tryz.prog 124 #[(.pointer (some ⟨bx,0,none⟩)),lv,.agg #[.slice b1 0 0,.slice b2 0 0,.slice b3 1 q3,.slice b4 1 q4],.int .u64 en] w λe w'=>e=.returned (.tuple #[])/\Keeps zA w w':=by
 obtain⟨ad,cap,e,hs⟩:=h;cases e;obtain⟨g,o,rfl,hc⟩:=hs (by decide);have d:∀W,Keeps zA w W->W.cell? ⟨g,o,none⟩=some (.int .i64 3):=zL (hc 0 _ rfl)
 clear hs hc;go_enter Tryz.func124,Tryz.ntmps124
 go_upto_region 1 with fail
 obtain⟨b6,w1,e1,e2,R1,K1,_⟩:=newRow w [.slice b1 0 0,.slice b2 0 0,.slice (some ⟨g,o,none⟩) 1 q3,.slice b4 1 q4] 34;rw[e1,e2];have HK1:=yA K1;have d1:=λ(W:World)(q:Keeps zA w1 W)=>d W (K1.zC q)
 have y:=R1.zBF;have k1:=zF w1;clear e1 e2 R1 K1 d;go_wp2_with fail
 refine yY 2 ?_
 rw[yQ];go_wp2_with fail
 rw[yQ];go_wp2_with fail
 go_returns
 exact⟨rfl,HK1.out⟩
theorem zRW{ca:Option Addr}{cc gt ot tc gs bx:Nat}{nx:Value}{fn:Fn}{an a1 a2 a3 a4:Int}{w:World}(hx:zB w bx (XC ca cc gt ot tc gs bx nx fn an 0 a1 a2 a3 a4 (.slice none 0 0) (.slice none 0 0)))(pa:Option Addr)(pn pc gl cl:Nat)(hl:zB w gl [(0:Int),(9:Int),(0:Int),(0:Int),(0:Int)])(hcl:1<=cl)(hgl:gl≠bx)(b1 b2 b3 b4:Option Addr)(q3 q4:Nat)(h4:zl w (.slice b4 1 q4) 1 [.int .i64 0,.int .i64 0])(hb4:∀k,(Value.slice b4 1 q4).ownBlock=some k->k≠bx):
 Calls Tryz.prog 123 #[(.pointer (some ⟨bx,0,none⟩)),.slice pa pn pc,.slice (some ⟨gl,0,none⟩) 1 cl,.agg #[.slice b1 0 0,.slice b2 0 0,.slice b3 1 q3,.slice b4 1 q4]] w λe w'=>e=.returned (.tuple #[])/\∃ex fg,zB w' bx (XC ca cc gt ot tc gs bx nx fn an 1 a1 a2 a3 a4 ex (.slice (some ⟨fg,0,none⟩) 0 0))/\Keeps (λq=>q=bx) w w':=by
 obtain⟨i0,hi0,hz0,hz1,hz2⟩:=info_parts zND;have HX:=yA hx;have HL:=yA hl;have H4:=yA h4;have HB4:Hid (1<=cl/\gl≠bx/\∀k,(Value.slice b4 1 q4).ownBlock=some k->k≠bx):=⟨hcl,hgl,hb4⟩;clear hx hl h4 hcl hgl hb4;go_enter Tryz.func123,Tryz.ntmps123
 go_upto_region 1 with fail
 obtain⟨b7,w1,e1,e2,R1,K1,_⟩:=newRow w [.slice b1 0 0,.slice b2 0 0,.slice b3 1 q3,.slice b4 1 q4] 34;rw[e1,e2];have HK1:=yA K1;have HN7:Hid (bx≠b7):=by have h1:=HX.out.lt (by simp[XC]);have h2:=e1.symm;show bx≠b7;omega
 have HR1:=yA R1;have HX1:=yA (HX.out.keeps K1 (λh=>h));have y:=HX1.out.cell (k:=7) rfl;have f:=HX1.out.free (k:=7) (by simp[XC]);have k1:=zF w1;clear e1 e2 R1 K1;go_upto_region 2 with fail
 have ra:zB (w1.setCell ⟨bx,7,none⟩ (.int .i64 1)) bx (XC ca cc gt ot tc gs bx nx fn an 1 a1 a2 a3 a4 (.slice none 0 0) (.slice none 0 0)):=HX1.out.set 7 (by simp[XC]) (.int .i64 1);have ka:Keeps (λq=>q=bx) w1 (w1.setCell ⟨bx,7,none⟩ (.int .i64 1)):=(yB (λq=>q=bx) w1).setCell (p:=⟨bx,7,none⟩) (λ_=>rfl) _;generalize (w1.setCell ⟨bx,7,none⟩ (.int .i64 1))=w2 at ra ka ⊢;have HX2:=yA ra;have HK2:=yA ka;clear ra ka y f k1;have y:=HX2.out.cellW (k:=12) rfl;have k2:=zF w2;go_upto_region 3 with(at_builtin;obtain⟨g,w3,e1,e2,R3,K3,_⟩:=newRow w2 [.slice pa pn pc] 22;rw[e1,e2];have HR3:=yA R3;have HK3:=yA K3;clear e1 e2 R3 K3;refine zI _ (by rfl) _ _ 84 (by rfl) 0 22 i0 _ 1 24 Tryz.underlying84 hi0 hz0 hz1 hz2 rfl (by decide) (.slice none 0 0) 0 [] (by rfl) (World.ownsRow_nil _ _ _ _) (.slice (some ⟨g,0,none⟩) 1 1) 1 [.slice pa pn pc] (by rfl) (xE HR3.out) rfl (by simp[Value.oneCell']) (by unfold maxLen;omega) (by omega) (yF _) ?_;intro ad cap w4 hout;have HK4:Hid (Keeps zA w2 w4):=xD hout HK3.out (λq e _=>by exact J170 _);have zr:=HX2.out.keeps HK4.out (λh=>h);have zc:=zr.cell (k:=12) rfl;have zf:=zr.free (k:=12) (by simp[XC]);have HX4:=yA zr;clear hout zr y k2)
 have rb:zB (w4.setCell ⟨bx,12,none⟩ (.slice ad 1 cap)) bx (XC ca cc gt ot tc gs bx nx fn an 1 a1 a2 a3 a4 (.slice ad 1 cap) (.slice none 0 0)):=HX4.out.set 12 (by simp[XC]) (.slice ad 1 cap);have kb:Keeps (λq=>q=bx) w4 (w4.setCell ⟨bx,12,none⟩ (.slice ad 1 cap)):=(yB (λq=>q=bx) w4).setCell (p:=⟨bx,12,none⟩) (λ_=>rfl) _;generalize (w4.setCell ⟨bx,12,none⟩ (.slice ad 1 cap))=w5 at rb kb ⊢;have HX5:=yA rb;have HK15:Hid (Keeps (λq=>q=bx) w1 w5):=(HK2.out.trans (HK4.out.mono (λ_ _ h=>h.elim)) (λq _ h=>h)).trans kb (λq _ h=>h);clear rb kb zc zf;have HR5:=yA (HR1.out.keeps HK15.out (λe=>HN7.out e.symm));have HL5:=yA ((HL.out.keeps HK1.out (λh=>h)).keeps HK15.out HB4.out.2.1);have H45:=yA ((H4.out.zG HK1.out).keeps HK15.out (λk e=>HB4.out.2.2 k e));have y:=HR5.out.zBF;have k5:=zF w5;go_upto_region 4 with(go_at_call 182;refine(zO5 w5 _ cl (xE HL5.out) HB4.out.1 b4 q4 H45.out).mono ?_;rintro e w6 ⟨fg,rfl,g6⟩;have HK6:=yA g6;clear g6 y k5)
 have HX6:=yA (HX5.out.keeps HK6.out (λh=>h));have y:=HX6.out.cellW (k:=13) rfl;have k6:=zF w6;go_upto_region 5 with(go_at_call 183;refine(zNK w6 none (some ⟨fg,0,none⟩) 0 0).mono ?_;rintro e w7 ⟨fh,rfl,g7⟩;have HK7:=yA g7;have zr:=HX6.out.keeps g7 (λh=>h);have zc:=zr.cell (k:=13) rfl;have zf:=zr.free (k:=13) (by simp[XC]);have HX7:=yA zr;clear g7 zr y k6)
 have rc:zB (w7.setCell ⟨bx,13,none⟩ (.slice (some ⟨fh,0,none⟩) 0 0)) bx (XC ca cc gt ot tc gs bx nx fn an 1 a1 a2 a3 a4 (.slice ad 1 cap) (.slice (some ⟨fh,0,none⟩) 0 0)):=HX7.out.set 13 (by simp[XC]) (.slice (some ⟨fh,0,none⟩) 0 0);have kc:Keeps (λq=>q=bx) w7 (w7.setCell ⟨bx,13,none⟩ (.slice (some ⟨fh,0,none⟩) 0 0)):=(yB (λq=>q=bx) w7).setCell (p:=⟨bx,13,none⟩) (λ_=>rfl) _;generalize (w7.setCell ⟨bx,13,none⟩ (.slice (some ⟨fh,0,none⟩) 0 0))=w8 at rc kc ⊢;have HX8:=yA rc;have HK18:Hid (Keeps (λq=>q=bx) w1 w8):=(HK15.out.trans ((HK6.out.zC HK7.out).mono (λ_ _ h=>h.elim)) (λq _ h=>h)).trans kc (λq _ h=>h);clear rc kc zc zf;have y:=HX8.out.cellW (k:=7) rfl;have k8:=zF w8;go_wp2_with fail
 go_returns
 exact⟨rfl,_,fh,HX8.out,(HK1.out.mono (λ_ _ h=>h.elim)).trans HK18.out (λq _ h=>h)⟩
theorem zIR{q:Nat}(h:(Value.slice none 0 0).ownBlock=some q):False:=by simp[Value.ownBlock] at h
theorem zBQ{g n c q:Nat}(h:(Value.slice (some ⟨g,0,none⟩) n c).ownBlock=some q):q=g:=by simp[Value.ownBlock] at h;exact h.symm
theorem zQ8:zD9 [] 0 1=(true,[⟨0,1,0,-1⟩]):=by rfl
theorem zQI:zD9 [⟨0,1,0,0⟩] 0 0=(true,[⟨0,1,0,0⟩,⟨0,0,0,-1⟩]):=by rfl
theorem zSF{ca:Option Addr}{cc gt ot tc gs bx B:Nat}{ex fo v:Value}{fn:Fn}{an a0 a1 a2 a3 a4:Int}{w:World}{b gc gi gf:Nat}{c1 oa ra:Option Addr}{c2 oc rc kc ki kf:Nat}(hx:zB w bx (XC ca cc gt ot tc gs bx (.slice none 0 0) fn an a0 a1 a2 a3 a4 ex fo))(hs:zQ w gs v ([]:List Nd))(hm:VmC w b 2 c1 oa ra c2 oc rc gc gi gf kc ki kf)(hT:zAq w)(hlo:B<=gs/\B<=bx/\gs≠bx/\(∀k,v.ownBlock=some k->B<=k/\k≠bx)):
 Calls Tryz.prog 75 #[(.pointer (some ⟨bx,0,none⟩)),.int .u64 0,(.pointer (some ⟨b,0,none⟩)),.slice none 0 0] w λe w'=>e=.returned (.tuple #[])/\∃(v6:Value)(gn cn:Nat)(u:Option Addr × Nat),zB w' bx (XC ca cc gt ot tc gs bx (.slice (some ⟨gn,0,none⟩) 1 cn) fn an a0 a1 a2 a3 a4 ex fo)/\zQ w' gs v6 ([⟨0,1,0,-1⟩]:List Nd)/\w'.ownsRow 0 32 1 (.slice (some ⟨gn,0,none⟩) 1 cn) 1 [.slice u.1 1 u.2]/\(B<=gn/\gn≠bx/\gn≠gs/\v6.ownBlock≠some gn)/\(∀k,v6.ownBlock=some k->B<=k/\k≠bx)/\Keeps (λq=>B<=q) w w':=by
 obtain⟨i0,hi0,hz0,hz1,hz2⟩:=info_parts zIu;have HX:=yA hx;have HS:=yA hs;have HM:=yA hm;have HT:=yA hT;have HLO:=yA hlo;have HP:=yA (zE9 w gs v ([]:List Nd) hs (J180 _) (by intro x hx;simp at hx));have y:=hx.cellW (k:=3) rfl;have k0:=zF w;clear hx hs hm hT hlo;go_enter Tryz.func75,Tryz.ntmps75
 go_upto_region 1 with(first
  | (go_at_call 79;refine HP.out.mono ?_;rintro e w1 ⟨vp,rfl,h1,h2,_⟩;have HK1:Hid (Keeps zA w w1):=kP h2 _;have hsr:=zBm.src h1;clear h1 h2 y k0;obtain⟨pa,pc,rfl,hp⟩:=hsr;clear hp)
  | (go_at_call 120;refine(zNS (HM.out.zG HK1.out)).mono ?_;rintro e w2 ⟨ea,ec,rfl,h1,h2⟩;have HE2:=yA h1;have HK2:=yA (HK1.out.zC h2);clear h1 h2)
  | (go_at_call 119;refine(zSS w2 ea ec HE2.out).mono ?_;rintro e w3 ⟨rfl,rfl⟩)
  | (go_at_call 121;refine(zN7 (st:=2) (ko:=9) (HM.out.zG HK2.out) (by decide)).mono ?_;rintro e w4 ⟨b1,b2,b3,q3,b4,q4,rfl,h3,h4,hk,ho⟩;have HK4:=yA (HK2.out.zC hk);have H3:=yA h3;have H4:=yA h4;have HO4:Hid (∀q,(Value.slice b3 1 q3).ownBlock=some q\/(Value.slice b4 1 q4).ownBlock=some q->w.heap.size<=q):=λq e=>yX HK2.out.size (ho q e);clear h3 h4 hk ho))
 obtain⟨bt,w5,e1,e2,R5,K5,_⟩:=newRow w4 [.slice b1 0 0,.slice b2 0 0,.slice b3 1 q3,.slice b4 1 q4] 34;rw[e1,e2];have HK5:Hid (Keeps zA w w5):=HK4.out.zC K5;have HB5:Hid (w.heap.size<=bt):=by have h1:=HK4.out.size;have h2:=e1.symm;show w.heap.size<=bt;omega
 have HR5:=yA R5;have H35:=yA (H3.out.zG K5);have H45:=yA (H4.out.zG K5);have HX5:=yA (HX.out.keeps HK5.out (λh=>h));have HS5:=yA (HS.out.keeps HK5.out (λ_ _ h=>h))
 have HOP:Hid (Calls Tryz.prog 122 #[(.pointer (some ⟨gs,0,none⟩)),.int .u64 0,.int .u64 1] w5 (zAi w5 gs v (.bool true) ([⟨0,1,0,-1⟩]:List Nd))):=by
  have:=zIe w5 gs v ([]:List Nd) 0 1 HS5.out (J180 _) (λj hj=>HK5.out.cell (λh=>h) (HT.out j hj)) (by decide) (by decide)
  rw[zQ8] at this;exact this
 have HSZ:Hid (gs<w.heap.size/\bx<w.heap.size/\∀k,v.ownBlock=some k->k<w.heap.size):=⟨yR w _ HS.out.cell0,HX.out.lt (by simp[XC]),λk e=>zM HS.out.own e⟩;have y:=HX5.out.cellW (k:=3) rfl;have k5:=zF w5;clear e1 e2 R5 K5;go_upto_region 2 with(go_at_call 122;refine HOP.out.mono ?_;rintro e w6 ⟨v6,rfl,s6,k6,o6⟩;have HS6:=yA s6;have HK6:=yA k6;have HO6:Hid (∀k,v6.ownBlock=some k->v.ownBlock=some k\/w5.heap.size<=k):=o6;clear s6 k6 o6 y k5)
 have HX6:=yA (HX5.out.keeps HK6.out (λe=>by exact J176 _));have HNW:Hid (∀q,w.heap.size<=q->¬zNy gs v q):=λq hq e=>by rcases e with e|e;have:=HSZ.out.1;omega;have:=HSZ.out.2.2 q e;omega
 have HR6:=yA (HR5.out.keeps HK6.out (HNW.out bt HB5.out));have H36:=yA (H35.out.keeps HK6.out (λq e=>HNW.out q (HO4.out q (.inl e))));have H46:=yA (H45.out.keeps HK6.out (λq e=>HNW.out q (HO4.out q (.inr e))))
 have HV6:Hid (∀k,v6.ownBlock=some k->B<=k/\k≠bx):=λk e=>by
  exact J154 _
 have HN6:Hid (w6.ownsRow 0 32 1 (.slice none 0 0) 0 []):=World.ownsRow_nil _ _ _ _;have y:=HX6.out.cellW (k:=4) rfl;have z:=HR6.out.zBF;have k6:=zF w6;refine zB5 8 0 (by kernel_rfl) [some ((.pointer (some ⟨bx,0,none⟩))),some ((.pointer (some ⟨bx,0,none⟩))),some ((.pointer (some ⟨bx,0,none⟩))),some ((.pointer (some ⟨bx,4,none⟩))),some ((.slice none 0 0)),some ((.pointer (some ⟨bt,3,none⟩))),some (.slice b4 1 q4),none] rfl (λj v W=>∃g,v=.slice (some ⟨g,0,none⟩) 1 1/\zB W g [.slice b4 1 q4]) (λj v W W' h hk=>by exact J181 _) _ rfl (λ_ _ _ _ h=>h) _ rfl (λ_ _ _=>by exact J171 _) ?_ ?_
 ·exact J37 _
 ·intro vs W hR hFF
  have HRW:Keeps zA w6 W:=((zF w6).drew).zC hR;obtain⟨g8,e7,r7⟩:=(hFF 7 (by decide):∃g,vs 7=.slice (some ⟨g,0,none⟩) 1 1/\zB W g [.slice b4 1 q4]);have e0:vs 0=_:=hFF 0 (by decide);have e4:vs 4=_:=hFF 4 (by decide);simp only[zJ,tz,Option.bind,Act.put];rw[e0,e4,e7];have HRG:=yA r7;have HKW:=yA HRW;have HXW:=yA (HX6.out.keeps HRW (λh=>h));have HNO:=yA (zD HN6.out HRW (λ_ _ h=>h));clear hFF e0 e4 e7 r7 hR HRW y z k6;go_upto_region 3 with(at_builtin;refine zI _ (by rfl) _ _ 83 (by rfl) 0 32 i0 _ 1 24 Tryz.underlying83 hi0 hz0 hz1 hz2 rfl (by decide) (.slice none 0 0) 0 [] (by rfl) HNO.out (.slice (some ⟨g8,0,none⟩) 1 1) 1 [.slice b4 1 q4] (by rfl) (xE HRG.out) rfl (by simp[Value.oneCell']) (by unfold maxLen;omega) (by omega) (yF _) ?_;intro ad cap w7 hout;have HO7:=yA hout;have zr:=HXW.out.keeps (xD hout (yB (λq=>Value.ownBlock (.slice none 0 0)=some q) _) (λq e _=>e)) (λe=>zIR e);have zc:=zr.cell (k:=4) rfl;have zf:=zr.free (k:=4) (by simp[XC]);have HX7:=yA zr;clear hout zr)
  have HK7:Hid (Keeps (λq=>Value.ownBlock (.slice none 0 0)=some q) W w7):=xD HO7.out (yB (λq=>Value.ownBlock (.slice none 0 0)=some q) _) (λq e _=>e);have ra:zB (w7.setCell ⟨bx,4,none⟩ (.slice ad 1 cap)) bx (XC ca cc gt ot tc gs bx (.slice ad 1 cap) fn an a0 a1 a2 a3 a4 ex fo):=HX7.out.set 4 (by simp[XC]) (.slice ad 1 cap);have ka:Keeps (λq=>q=bx) w7 (w7.setCell ⟨bx,4,none⟩ (.slice ad 1 cap)):=(yB (λq=>q=bx) w7).setCell (p:=⟨bx,4,none⟩) (λ_=>rfl) _;generalize (w7.setCell ⟨bx,4,none⟩ (.slice ad 1 cap))=w8 at ra ka ⊢;have HX8:=yA ra;have HK8:=yA ka;have HK06:Hid (Keeps (λq=>B<=q) w w6):=(HK5.out.mono (λ_ _ h=>h.elim)).trans HK6.out (λq _ e=>by rcases e with e|e;have:=HLO.out.1;omega;exact(HLO.out.2.2.2 q e).1);have HK08:Hid (Keeps (λq=>B<=q) w w8):=((HK06.out.trans HKW.out (λ_ _ h=>h.elim)).trans HK7.out (λq _ e=>(zIR e).elim)).trans HK8.out (λq _ e=>by exact J203 _);clear ra ka zc zf;have HS8:=yA (((HS6.out.keeps HKW.out (λ_ _ h=>h)).keeps HK7.out (λk e e2=>zIR e2)).keeps HK8.out (λk e e2=>by exact J234 _));go_wp2_with fail
  go_returns
  have ho:=HO7.out.1;rw[xA,uG] at ho
  obtain⟨gn,rfl⟩:∃gn,ad=some ⟨gn,0,none⟩:=by
   rcases ho.2 with⟨e,_⟩|⟨gn,cap',cur,e,_⟩
   ·simp at e
   ·simp only[xH] at e
    exact⟨gn,e.1⟩
  have hgn:W.heap.size<=gn:=by
   rcases HO7.out.2.2 gn (by simp[Value.ownBlock]) with h|h
   ·exact J65 _
   ·omega
  have h0:=HSZ.out;have h1:=HK5.out.size;have h2:=HK6.out.size;have h3:=HKW.out.size;have h4:=HLO.out;have h5:v6.ownBlock≠some gn:=λe=>by have:=zM HS6.out.own e;omega
  exact⟨rfl,v6,gn,cap,(b4,q4),HX8.out,HS8.out,zD ho HK8.out (λq e e2=>by have e':q=bx:=e2;have:=zBQ e;omega),⟨by omega,by omega,by omega,h5⟩,HV6.out,HK08.out⟩
theorem zSH{ca:Option Addr}{cc gt ot tc gs bx B:Nat}{v:Value}{fn:Fn}{an a1 a2 a3 a4:Int}{w:World}{b gc gi gf:Nat}{c1 oa ra:Option Addr}{c2 oc rc kc ki kf:Nat}{gn cn gl cl:Nat}{u:Value}(hx:zB w bx (XC ca cc gt ot tc gs bx (.slice (some ⟨gn,0,none⟩) 1 cn) fn an 0 a1 a2 a3 a4 (.slice none 0 0) (.slice none 0 0)))(hs:zQ w gs v ([⟨0,1,0,0⟩]:List Nd))(hm:VmC w b 3 c1 oa ra c2 oc rc gc gi gf kc ki kf)(hT:zAq w)(hlo:B<=gs/\B<=bx/\gs≠bx/\(∀k,v.ownBlock=some k->B<=k/\k≠bx))(hn:w.ownsRow 0 32 1 (.slice (some ⟨gn,0,none⟩) 1 cn) 1 [u])(hg:B<=gn/\gn≠bx/\gn≠gs/\v.ownBlock≠some gn)(hl:zB w gl [(0:Int),(9:Int),(0:Int),(0:Int),(0:Int)])(hcl:1<=cl)(hgl:gl≠bx/\gl≠gs/\gl≠gn/\v.ownBlock≠some gl):
 Calls Tryz.prog 75 #[(.pointer (some ⟨bx,0,none⟩)),.int .u64 0,(.pointer (some ⟨b,0,none⟩)),.slice (some ⟨gl,0,none⟩) 1 cl] w λe w'=>e=.returned (.tuple #[])/\∃v6 g2 cap ex fg,zB w' bx (XC ca cc gt ot tc gs bx (.slice (some ⟨g2,0,none⟩) 2 cap) fn an 1 a1 a2 a3 a4 ex (.slice (some ⟨fg,0,none⟩) 0 0))/\zQ w' gs v6 ([⟨0,1,0,0⟩,⟨0,0,0,-1⟩]:List Nd)/\2<=cap/\(∀k,v6.ownBlock=some k->B<=k/\k≠bx)/\Keeps (λq=>B<=q) w w':=by
 obtain⟨i0,hi0,hz0,hz1,hz2⟩:=info_parts zIu;have HX:=yA hx;have HS:=yA hs;have HM:=yA hm;have HT:=yA hT;have HLO:=yA hlo;have HN:=yA hn;have HG:=yA hg;have HL:=yA hl;have HCL:=yA hcl;have HGL:=yA hgl;have HP:=yA (zE9 w gs v ([⟨0,1,0,0⟩]:List Nd) hs (J180 _) (by intro x hx;simp at hx));have y:=hx.cellW (k:=3) rfl;have k0:=zF w;clear hx hs hm hT hlo hn hg hl hcl hgl;go_enter Tryz.func75,Tryz.ntmps75
 go_upto_region 1 with(first
  | (go_at_call 79;refine HP.out.mono ?_;rintro e w1 ⟨vp,rfl,h1,h2,_⟩;have HK1:Hid (Keeps zA w w1):=kP h2 _;have hsr:=zBm.src h1;clear h1 h2 y k0;obtain⟨pa,pc,rfl,hp⟩:=hsr;clear hp)
  | (go_at_call 120;refine(zNg (HM.out.zG HK1.out)).mono ?_;rintro e w2 ⟨rfl,h2⟩;have HK2:=yA (HK1.out.zC h2);clear h2)
  | (go_at_call 119;refine(zSV w2).mono ?_;rintro e w3 ⟨rfl,rfl⟩)
  | (go_at_call 121;refine(zN7 (st:=3) (ko:=0) (HM.out.zG HK2.out) (by decide)).mono ?_;rintro e w4 ⟨b1,b2,b3,q3,b4,q4,rfl,h3,h4,hk,ho⟩;have HK4:=yA (HK2.out.zC hk);have H3:=yA h3;have H4:=yA h4;have HO4:Hid (∀q,(Value.slice b3 1 q3).ownBlock=some q\/(Value.slice b4 1 q4).ownBlock=some q->w.heap.size<=q):=λq e=>yX HK2.out.size (ho q e);clear h3 h4 hk ho))
 obtain⟨bt,w5,e1,e2,R5,K5,_⟩:=newRow w4 [.slice b1 0 0,.slice b2 0 0,.slice b3 1 q3,.slice b4 1 q4] 34;rw[e1,e2];have HK5:Hid (Keeps zA w w5):=HK4.out.zC K5;have HB5:Hid (w.heap.size<=bt):=by have h1:=HK4.out.size;have h2:=e1.symm;show w.heap.size<=bt;omega
 have HR5:=yA R5;have H35:=yA (H3.out.zG K5);have H45:=yA (H4.out.zG K5);have HX5:=yA (HX.out.keeps HK5.out (λh=>h));have HS5:=yA (HS.out.keeps HK5.out (λ_ _ h=>h))
 have HOP:Hid (Calls Tryz.prog 122 #[(.pointer (some ⟨gs,0,none⟩)),.int .u64 0,.int .u64 0] w5 (zAi w5 gs v (.bool true) ([⟨0,1,0,0⟩,⟨0,0,0,-1⟩]:List Nd))):=by
  have:=zIe w5 gs v ([⟨0,1,0,0⟩]:List Nd) 0 0 HS5.out (J180 _) (λj hj=>HK5.out.cell (λh=>h) (HT.out j hj)) (by decide) (by decide)
  rw[zQI] at this;exact this
 have HSZ:Hid (gs<w.heap.size/\bx<w.heap.size/\∀k,v.ownBlock=some k->k<w.heap.size):=⟨yR w _ HS.out.cell0,HX.out.lt (by simp[XC]),λk e=>zM HS.out.own e⟩;have y:=HX5.out.cellW (k:=3) rfl;have k5:=zF w5;clear e1 e2 R5 K5;go_upto_region 2 with(go_at_call 122;refine HOP.out.mono ?_;rintro e w6 ⟨v6,rfl,s6,k6,o6⟩;have HS6:=yA s6;have HK6:=yA k6;have HO6:Hid (∀k,v6.ownBlock=some k->v.ownBlock=some k\/w5.heap.size<=k):=o6;clear s6 k6 o6 y k5)
 have HX6:=yA (HX5.out.keeps HK6.out (λe=>by exact J176 _));have HNW:Hid (∀q,w.heap.size<=q->¬zNy gs v q):=λq hq e=>by rcases e with e|e;have:=HSZ.out.1;omega;have:=HSZ.out.2.2 q e;omega
 have HR6:=yA (HR5.out.keeps HK6.out (HNW.out bt HB5.out));have H36:=yA (H35.out.keeps HK6.out (λq e=>HNW.out q (HO4.out q (.inl e))));have H46:=yA (H45.out.keeps HK6.out (λq e=>HNW.out q (HO4.out q (.inr e))))
 have HV6:Hid (∀k,v6.ownBlock=some k->B<=k/\k≠bx):=λk e=>by
  exact J154 _
 have HN6:=yA (zD (zD HN.out HK5.out (λ_ _ h=>h)) HK6.out (λq e e2=>by exact J243 _));have HL6:=yA ((HL.out.keeps HK5.out (λh=>h)).keeps HK6.out (λe=>by rcases e with e|e;exact HGL.out.2.1 e;exact HGL.out.2.2.2 e));have HGS:Hid (gn<w.heap.size/\gl<w.heap.size):=⟨zM HN.out rfl,HL.out.lt (by simp)⟩
 have HV6n:Hid (v6.ownBlock≠some gn):=λe=>by
  rcases HO6.out gn e with h|h
  ·exact HG.out.2.2.2 h
  ·have:=HGS.out.1
   have:=HK5.out.size
   omega
 have y:=HX6.out.cellW (k:=4) rfl;have z:=HR6.out.zBF;have k6:=zF w6;refine zB5 8 0 (by kernel_rfl) [some ((.pointer (some ⟨bx,0,none⟩))),some ((.pointer (some ⟨bx,0,none⟩))),some ((.pointer (some ⟨bx,0,none⟩))),some ((.pointer (some ⟨bx,4,none⟩))),some ((.slice (some ⟨gn,0,none⟩) 1 cn)),some ((.pointer (some ⟨bt,3,none⟩))),some (.slice b4 1 q4),none] rfl (λj v W=>∃g,v=.slice (some ⟨g,0,none⟩) 1 1/\zB W g [.slice b4 1 q4]) (λj v W W' h hk=>by exact J181 _) _ rfl (λ_ _ _ _ h=>h) _ rfl (λ_ _ _=>by exact J171 _) ?_ ?_
 ·exact J37 _
 ·intro vs W hR hFF
  have HRW:Keeps zA w6 W:=((zF w6).drew).zC hR;obtain⟨g8,e7,r7⟩:=(hFF 7 (by decide):∃g,vs 7=.slice (some ⟨g,0,none⟩) 1 1/\zB W g [.slice b4 1 q4]);have e0:vs 0=_:=hFF 0 (by decide);have e4:vs 4=_:=hFF 4 (by decide);simp only[zJ,tz,Option.bind,Act.put];rw[e0,e4,e7];have HRG:=yA r7;have HKW:=yA HRW;have HXW:=yA (HX6.out.keeps HRW (λh=>h));have HNO:=yA (zD HN6.out HRW (λ_ _ h=>h));clear hFF e0 e4 e7 r7 hR HRW y z k6;go_upto_region 3 with(at_builtin;refine zI _ (by rfl) _ _ 83 (by rfl) 0 32 i0 _ 1 24 Tryz.underlying83 hi0 hz0 hz1 hz2 rfl (by decide) (.slice (some ⟨gn,0,none⟩) 1 cn) 1 [u] (by rfl) HNO.out (.slice (some ⟨g8,0,none⟩) 1 1) 1 [.slice b4 1 q4] (by rfl) (xE HRG.out) rfl (by simp[Value.oneCell']) (by unfold maxLen;omega) (by omega) (yF _) ?_;intro ad cap w7 hout;have HO7:=yA hout;have zr:=HXW.out.keeps (xD hout (yB (λq=>Value.ownBlock (.slice (some ⟨gn,0,none⟩) 1 cn)=some q) _) (λq e _=>e)) (λe=>HG.out.2.1 (zBQ e).symm);have zc:=zr.cell (k:=4) rfl;have zf:=zr.free (k:=4) (by simp[XC]);have HX7:=yA zr;clear hout zr)
  have HK7:Hid (Keeps (λq=>Value.ownBlock (.slice (some ⟨gn,0,none⟩) 1 cn)=some q) W w7):=xD HO7.out (yB (λq=>Value.ownBlock (.slice (some ⟨gn,0,none⟩) 1 cn)=some q) _) (λq e _=>e);have ra:zB (w7.setCell ⟨bx,4,none⟩ (.slice ad 2 cap)) bx (XC ca cc gt ot tc gs bx (.slice ad 2 cap) fn an 0 a1 a2 a3 a4 (.slice none 0 0) (.slice none 0 0)):=HX7.out.set 4 (by simp[XC]) (.slice ad 2 cap);have ka:Keeps (λq=>q=bx) w7 (w7.setCell ⟨bx,4,none⟩ (.slice ad 2 cap)):=(yB (λq=>q=bx) w7).setCell (p:=⟨bx,4,none⟩) (λ_=>rfl) _;generalize (w7.setCell ⟨bx,4,none⟩ (.slice ad 2 cap))=w8 at ra ka ⊢;have HX8:=yA ra;have HK8:=yA ka;have HK06:Hid (Keeps (λq=>B<=q) w w6):=(HK5.out.mono (λ_ _ h=>h.elim)).trans HK6.out (λq _ e=>by rcases e with e|e;have:=HLO.out.1;omega;exact(HLO.out.2.2.2 q e).1);have HK08:Hid (Keeps (λq=>B<=q) w w8):=((HK06.out.trans HKW.out (λ_ _ h=>h.elim)).trans HK7.out (λq _ e=>by rw[zBQ e];exact HG.out.1)).trans HK8.out (λq _ e=>by exact J203 _);clear ra ka zc zf;have HS8:=yA (((HS6.out.keeps HKW.out (λ_ _ h=>h)).keeps HK7.out (λk e e2=>by rw[zBQ e2] at e;rcases e with e|e;exact HG.out.2.2.1 e;exact HV6n.out e)).keeps HK8.out (λk e e2=>by exact J234 _));have HL8:=yA (((HL6.out.keeps HKW.out (λh=>h)).keeps HK7.out (λe=>HGL.out.2.2.1 (zBQ e))).keeps HK8.out (λe=>HGL.out.1 e));have HBN:Hid (∀q,w.heap.size<=q->q≠gn/\q≠bx):=λq hq=>⟨by have:=HGS.out.1;omega,by have:=HSZ.out.2.1;omega⟩
  have HR8:=yA (((HR6.out.keeps HKW.out (λh=>h)).keeps HK7.out (λe=>(HBN.out _ HB5.out).1 (zBQ e))).keeps HK8.out (λe=>(HBN.out _ HB5.out).2 e));have H38:=yA (((H36.out.zG HKW.out).keeps HK7.out (λq e e2=>(HBN.out _ (HO4.out _ (.inl e))).1 (zBQ e2))).keeps HK8.out (λq e e2=>(HBN.out _ (HO4.out _ (.inl e))).2 e2));have H48:=yA (((H46.out.zG HKW.out).keeps HK7.out (λq e e2=>(HBN.out _ (HO4.out _ (.inr e))).1 (zBQ e2))).keeps HK8.out (λq e e2=>(HBN.out _ (HO4.out _ (.inr e))).2 e2));have HDN:=yA (zRW HX8.out pa 1 pc gl cl HL8.out HCL.out HGL.out.1 b1 b2 b3 b4 q3 q4 H48.out (λk e=>(HBN.out k (HO4.out k (.inr e))).2));have y:=HR8.out.zBF;have k8:=zF w8;go_upto_region 7 with(go_at_call 123;refine HDN.out.mono ?_;rintro e w9 ⟨rfl,ex,fg,hx9,hk9⟩;have HX9:=yA hx9;have HK9:=yA hk9;clear hx9 hk9 y k8)
  have HR9:=yA (HR8.out.keeps HK9.out (λe=>(HBN.out _ HB5.out).2 e));have H39:=yA (H38.out.keeps HK9.out (λq e e2=>(HBN.out _ (HO4.out _ (.inl e))).2 e2));have y:=HR9.out.zBF;have k9:=zF w9;go_wp2_with (go_at_call 124;refine(zQB w9 bx _ b1 b2 b3 b4 q3 q4 0 H39.out).mono ?_;rintro e wA ⟨rfl,gA⟩;have GA:=yA gA;clear gA y k9)
  go_returns
  obtain⟨g2,hcap,rfl⟩:∃g2,2<=cap/\ad=some ⟨g2,0,none⟩:=by
   rcases HO7.out.1.2 with⟨e,_⟩|⟨g2,cap',cur,e,_,_,h1,_⟩
   ·simp at e
   ·simp only[xH] at e
    exact⟨g2,by omega,e.1⟩
  refine⟨rfl,v6,g2,cap,ex,fg,HX9.out.keeps GA.out (λh=>h),(HS8.out.keeps HK9.out (λk e e2=>?_)).keeps GA.out (λ_ _ h=>h),hcap,HV6.out,(HK08.out.trans HK9.out (λq _ e=>?_)).trans GA.out (λ_ _ h=>h.elim)⟩
  ·have e':k=bx:=e2
   subst e';rcases e with e|e
   ·exact HLO.out.2.2.1 e.symm
   ·exact(HV6.out _ e).2 rfl
  ·have e':q=bx:=e
   have:=HLO.out.2.1
   omega
