/- Layer D: texts joined. -/
import Derived.Test.YtoapgjjepiopbaaGreatDoorD05
set_option linter.all false
set_option maxHeartbeats 1000000
set_option maxRecDepth 8000
namespace Go.Proofs.YtoapgjjepiopbaaGreatDoor
open Go.RowKit
abbrev uA:=@Go.Proofs.Tryz.underlying295
abbrev xG:=@Go.Proofs.Tryz.underlying3
abbrev xE:=@zB.src
theorem J9(P:Prop) (h:P:=by
 clear hx;go_enter Tryz.func137,Tryz.ntmps137
 go_wp2_with fail
 go_ret
 exact⟨by rw[E0.out];first|rfl|(simp;omega),(yB _ _).alloc _⟩):P:=h
theorem J21(P:Prop) (h:P:=by
 subst htn;have h1:=xB.1 hs i (xT.2 hi);simp only[kD,yV] at h1;rcases h1 with h1|h1
 ·exact absurd h1 hip
 obtain⟨j,hj,hj2⟩:=List.any_eq_true.1 h1;simp only[yS,yV] at hj2;obtain⟨oj,hoj,e,he,hb,hon⟩:=Region.waitsFor_spec hj2.2;have hjle:j<=t:=by have:=xT.1 hj;omega
 by_cases hjt:j=t
 ·subst hjt
  have:oj=ot:=yi (hoj.symm.trans hot)
  subst this;have h2:=hall e he hb;rw[hon,getD_both hun] at h2;cases h2
 ·cases hl:listed.getD j false with
  | true =>
    have h2:=inv.closed j oj hoj hl e he hb;rw[hon,getD_both hun] at h2;cases h2
  | false =>
    have hjs:j<listed.size:=by rw[inv.size];omega
    exact ih (t-j) (by omega) j rfl hj2.1.2 (by omega) (getD_in hjs hl) t (yT _) hr):P:=h
theorem J28(P:Prop) (h:P:=by
 have E0:Hid (res=false):=by show _=_;rw[hx];simp[*] <;> omega
 clear hx;go_wp2_with (go_at_call 133;refine(HI.out _).mono ?_;rintro e w1 ⟨rfl,g1⟩;have r:=R1.out.keeps g1 (λh=>h);obtain⟨c0,c1,c2,c3⟩:=r.four;have G1:=yA g1;clear g1 r)
 go_ret
 exact⟨by rw[E0.out];first|rfl|(simp;omega),K1.out.zC G1.out⟩):P:=h
theorem J65(P:Prop)(h:P:=by simp[Value.ownBlock] at h):P:=h
theorem J71(P:Prop)(h:P:=by simp[Array.getElem_setIfInBounds,hpk,zo,hk,List.getElem_append]):P:=h
theorem J76(P:Prop) (h:P:=by
 subst hkp;have:=hup
 simp only[Array.getD,h1,dif_pos] at this;rw[show listed[k]=false from this];first|exact(Array.getElem_setIfInBounds_self _).symm|(rw[Array.getElem_setIfInBounds];simp)):P:=h
theorem J84(P:Prop) (h:P:=by
 go_enter Tryz.func190,Tryz.ntmps190
 go_wp2_with (go_at_call 133;refine(HI.out _).mono ?_;rintro e w1 ⟨rfl,g1⟩;have G1:=yA g1;clear g1)
 go_ret
 exact⟨rfl,G1.out⟩):P:=h
theorem J130(P:Prop) (h:P:=by
 cases e:listed.getD i true with
 | true=>rfl
 | false=>exact absurd ⟨i,hi,hip,e⟩ hno):P:=h
theorem J142(P:Prop) (h:P:=by
 have E0:Hid (zAv k num nm n=false):=by show _=_;rw[hx];simp[*] <;> omega
 exact J9 _):P:=h
theorem J148(P:Prop) (h:P:=by
 have E0:Hid (zAv 1 num nm n=false):=by show _=_;rw[hx];simp[*] <;> omega
 exact J9 _):P:=h
theorem J152(P:Prop) (h:P:=by
 have E0:Hid (zAv 3 num nm n=false):=by show _=_;rw[hx];simp[*] <;> omega
 exact J9 _):P:=h
theorem J153(P:Prop) (h:P:=by
 have E0:Hid (zAv 4 num nm n=false):=by show _=_;rw[hx];simp[*] <;> omega
 exact J9 _):P:=h
theorem J183(P:Prop)(h:P:=by rw[beq_eq_false_iff_ne];omega):P:=h
theorem J204(P:Prop)(h:P:=by rw[E0.out];first|rfl|(simp;omega)):P:=h
theorem J226(P:Prop)(h:P:=by(cases ze nm <;> simp)):P:=h
theorem J229(P:Prop)(h:P:=by simp[results,Tryz.results188,go_sem,hrow.cell (k:=0) rfl,hrow.cell (k:=1) rfl,hrow.cell (k:=2) rfl]):P:=h
theorem J235(P:Prop)(h:P:=by have e':b1=w1.heap.size:=e;omega):P:=h
theorem zHP:(Tryz.prog.info? 291).map (λi=>(i.zero,i.size,i.bytes))=some (some (.agg #[(0:Int),.string { data:=#[] },(0:Int),(0:Int)]),4,40):=by kernel_rfl
theorem zNY(w:World):Calls Tryz.prog 188 #[.string { data:=#[] }] w λe w'=>(∃ad c,e=.returned (.tuple #[.slice ad 1 c,.agg #[(0:Int),(0:Int),.string { data:=#[] }]]))/\Keeps zA w w':=by
 obtain⟨j0,hj0,hz0,hz1,hz2⟩:=info_parts zHP;go_enter Tryz.func188,Tryz.ntmps188
 go_upto_region 1 with fail
 obtain⟨b3,hb3⟩:=eX w.heap.size;have hr3:zB (w.alloc (.cells #[(0:Int),(0:Int),.string { data:=#[] }] 287)) b3 [.int .i64 0,.int .i64 0,.string { data:=#[] }]:=J186 _;have hk1:Keeps zA w (w.alloc (.cells #[(0:Int),(0:Int),.string { data:=#[] }] 287)):=(yB _ _).alloc _;have HB:Hid (w.heap.size<=b3):=by show _<=_;omega
 rw[<-hb3];generalize w.alloc (.cells #[(0:Int),(0:Int),.string { data:=#[] }] 287)=w1 at hr3 hk1 ⊢;have R3:=yA hr3;have K1:=yA hk1;clear hr3 hk1 hb3;go_upto_region 2 with(go_at_call 224;refine(zOy _).mono ?_;rintro e w2 ⟨⟨ad0,n0,c0,rfl⟩,g1⟩;have G1:=yA g1;clear g1)
 obtain⟨b5,hb5⟩:=eX w2.heap.size;have r5:zB (w2.alloc (.cells #[(0:Int),(0:Int),.string { data:=#[] }] 287)) b5 [.int .i64 0,.int .i64 0,.string { data:=#[] }]:=J205 _;have k3:Keeps zA w1 (w2.alloc (.cells #[(0:Int),(0:Int),.string { data:=#[] }] 287)):=G1.out.alloc _;rw[<-hb5];generalize w2.alloc (.cells #[(0:Int),(0:Int),.string { data:=#[] }] 287)=w3 at r5 k3 ⊢;obtain⟨d0,d1,d2⟩:=r5.three;have K3:=yA k3;clear r5 k3 hb5 G1;go_upto_region 5 with fail
 clear d0 d1 d2;go_upto_region 6 with(go_at_call 225;refine(zIx _).mono ?_;rintro e w4 ⟨rfl,g1⟩;have G1:=yA g1;clear g1)
 refine yY 1 ?_
 rw[yQ];go_upto_region 14 with fail
 go_upto_region 99 with(at_builtin;refine zI _ (by rfl) _ _ 285 (by rfl) 0 291 j0 _ 4 40 Tryz.underlying285 hj0 hz0 hz1 hz2 rfl (by decide) (Value.slice none 0 0) 0 ([]) (by rfl) (World.ownsRow_nil _ _ _ _) (.slice (some ⟨w4.heap.size,0,none⟩) 1 1) 1 [.int .i64 5,.string { data:=#[] },.int .i64 0,.int .i64 0] (by rfl) (xE (yK (yG w4 _))) rfl (J172 _) (by unfold maxLen;omega) (by omega) (yF _) ?_;intro ad c w5 ha;have k5:=xD ha ((yB zA w4).alloc _) (λq e _=>by exact J170 _);have K5:=yA k5;have K14:Hid (Keeps zA w1 w5):=K3.out.zC (G1.out.zC k5);clear ha k5;have r3:=R3.out.keeps K14.out (λh=>h);obtain⟨a0,a1,a2⟩:=r3.three;have f0:=r3.free (k:=0) (by simp);have f1:=r3.free (k:=1) (by simp);have f2:=r3.free (k:=2) (by simp);have R3E:=yA r3;clear r3)
 have hks:Keeps (λq=>q=b3) w5 (((w5.setCell ⟨b3,0,none⟩ (.int .i64 0)).setCell ⟨b3,1,none⟩ (.int .i64 0)).setCell ⟨b3,2,none⟩ (.string { data:=#[] })):=(((yB (λq=>q=b3) w5).setCell (p:=⟨b3,0,none⟩) (λ_=>rfl) _).setCell (p:=⟨b3,1,none⟩) (λ_=>rfl) _).setCell (p:=⟨b3,2,none⟩) (λ_=>rfl) _;have hrow:zB (((w5.setCell ⟨b3,0,none⟩ (.int .i64 0)).setCell ⟨b3,1,none⟩ (.int .i64 0)).setCell ⟨b3,2,none⟩ (.string { data:=#[] })) b3 [.int .i64 0,.int .i64 0,.string { data:=#[] }]:=((R3E.out.set 0 (by simp) _).set 1 (by simp) _).set 2 (by simp) _;generalize ((w5.setCell ⟨b3,0,none⟩ (.int .i64 0)).setCell ⟨b3,1,none⟩ (.int .i64 0)).setCell ⟨b3,2,none⟩ (.string { data:=#[] })=wE at hrow hks ⊢;refine xK (v:=.tuple #[.slice ad 1 c,.agg #[(0:Int),(0:Int),.string { data:=#[] }]]) (J229 _) rfl ?_
 exact⟨⟨_,_,rfl⟩,(K1.out.zC K14.out).trans hks (λq hq e=>by have e':q=b3:=e;have:=HB.out;omega)⟩
theorem zOD(w:World):Calls Tryz.prog 188 #[.string { data:=#[120] }] w λe w'=>(∃ad c,e=.returned (.tuple #[.slice ad 2 c,.agg #[(0:Int),(0:Int),.string { data:=#[] }]])/\w'.ownsRow 0 291 4 (.slice ad 2 c) 2 ([.int .i64 1,.string { data:=#[120] },.int .i64 0,.int .i64 0]++[.int .i64 5,.string { data:=#[] },.int .i64 0,.int .i64 1]))/\Keeps zA w w':=by
 obtain⟨j0,hj0,hz0,hz1,hz2⟩:=info_parts zHP;go_enter Tryz.func188,Tryz.ntmps188
 go_upto_region 1 with fail
 obtain⟨b3,hb3⟩:=eX w.heap.size;have hr3:zB (w.alloc (.cells #[(0:Int),(0:Int),.string { data:=#[] }] 287)) b3 [.int .i64 0,.int .i64 0,.string { data:=#[] }]:=J186 _;have hk1:Keeps zA w (w.alloc (.cells #[(0:Int),(0:Int),.string { data:=#[] }] 287)):=(yB _ _).alloc _;have HB:Hid (w.heap.size<=b3):=by show _<=_;omega
 rw[<-hb3];generalize w.alloc (.cells #[(0:Int),(0:Int),.string { data:=#[] }] 287)=w1 at hr3 hk1 ⊢;have R3:=yA hr3;have K1:=yA hk1;clear hr3 hk1 hb3;go_upto_region 2 with(go_at_call 224;refine(zPm _).mono ?_;rintro e w2 ⟨⟨ad0,n0,c0,rfl⟩,g1⟩;have G1:=yA g1;clear g1)
 obtain⟨b5,hb5⟩:=eX w2.heap.size;have r5:zB (w2.alloc (.cells #[(0:Int),(0:Int),.string { data:=#[] }] 287)) b5 [.int .i64 0,.int .i64 0,.string { data:=#[] }]:=J205 _;have k3:Keeps zA w1 (w2.alloc (.cells #[(0:Int),(0:Int),.string { data:=#[] }] 287)):=G1.out.alloc _;rw[<-hb5];generalize w2.alloc (.cells #[(0:Int),(0:Int),.string { data:=#[] }] 287)=w3 at r5 k3 ⊢;obtain⟨d0,d1,d2⟩:=r5.three;have K3:=yA k3;clear r5 k3 hb5 G1;go_upto_region 5 with fail
 clear d0 d1 d2;go_upto_region 6 with(go_at_call 225;refine(zNF _).mono ?_;rintro e w4 ⟨rfl,g1⟩;have G1:=yA g1;clear g1)
 refine yY 2 ?_
 rw[yQ];go_upto_region 8 with(go_at_call 226;refine(zPf _).mono ?_;rintro e w5 ⟨rfl,g1⟩;have G2:=yA g1;clear g1)
 obtain⟨b8,hb8⟩:=eX w5.heap.size;have r8:zB (w5.alloc (.cells #[(1:Int),.string { data:=#[120] },(0:Int),(0:Int)] 291)) b8 [.int .i64 1,.string { data:=#[120] },.int .i64 0,.int .i64 0]:=by rw[hb8];exact yK (yG w5 _)
 have k6:Keeps zA w1 (w5.alloc (.cells #[(1:Int),.string { data:=#[120] },(0:Int),(0:Int)] 291)):=(K3.out.zC (G1.out.zC G2.out)).alloc _;have hl8:w1.heap.size<=b8:=by rw[hb8];exact(K3.out.zC (G1.out.zC G2.out)).size
 rw[<-hb8];generalize w5.alloc (.cells #[(1:Int),.string { data:=#[120] },(0:Int),(0:Int)] 291)=w6 at r8 k6 ⊢;have R8:=yA r8;have K6:=yA k6;have HL8:=yA hl8;obtain⟨d0,d1,d2,d3⟩:=r8.four;have f3:=r8.free (k:=3) (by simp);clear r8 k6 hb8 hl8 G1 G2 K3;go_upto_region 11 with fail
 have r8:zB (w6.setCell ⟨b8,3,none⟩ (.int .i64 0)) b8 [.int .i64 1,.string { data:=#[120] },.int .i64 0,.int .i64 0]:=R8.out.set 3 (by simp) _;have k7:Keeps zA w1 (w6.setCell ⟨b8,3,none⟩ (.int .i64 0)):=K6.out.trans ((yB (λq=>q=b8) w6).setCell (p:=⟨b8,3,none⟩) (λ_=>rfl) _) (λq hq e=>by have e':q=b8:=e;have:=HL8.out;omega);generalize w6.setCell ⟨b8,3,none⟩ (.int .i64 0)=w7 at r8 k7 ⊢;clear d0 d1 d2 d3 f3;obtain⟨d0,d1,d2,d3⟩:=r8.four;have R8':=yA r8;have K7:=yA k7;clear r8 k7;go_upto_region 12 with(at_builtin;refine zI _ (by rfl) _ _ 285 (by rfl) 0 291 j0 _ 4 40 Tryz.underlying285 hj0 hz0 hz1 hz2 rfl (by decide) (Value.slice none 0 0) 0 ([]) (by rfl) (World.ownsRow_nil _ _ _ _) (.slice (some ⟨w7.heap.size,0,none⟩) 1 1) 1 [.int .i64 1,.string { data:=#[120] },.int .i64 0,.int .i64 0] (by rfl) (xE (yK (yG w7 _))) rfl (J172 _) (by unfold maxLen;omega) (by omega) (yF _) ?_;intro ad1 c1 w8 ha;have k8:=xD ha ((yB zA w7).alloc _) (λq e _=>by exact J170 _);have K8:=yA k8;have H8:=yA ha.1;have HN8:=yA ha.2.2;clear ha k8)
 have r8:=R8'.out.keeps K8.out (λh=>h);clear d0 d1 d2 d3;obtain⟨d0,d1,d2,d3⟩:=r8.four;clear r8;go_wp2_with (go_at_call 225;refine(zIx _).mono ?_;rintro e w9 ⟨rfl,g1⟩;have G1:=yA g1;clear g1)
 rw[yQ];go_upto_region 14 with fail
 have H9:Hid (w9.ownsRow 0 291 4 (.slice ad1 1 c1) 1 [.int .i64 1,.string { data:=#[120] },.int .i64 0,.int .i64 0]):=zD H8.out G1.out (λ_ _ h=>h)
 have HNB:Hid (∀kb,(Value.slice ad1 1 c1).ownBlock=some kb->w1.heap.size<=kb):=λkb e=>by
  rcases HN8.out kb e with h|h
  ·exact J65 _
  ·have h2:kb=(w7.alloc (.cells #[(1:Int),.string { data:=#[120] },(0:Int),(0:Int)] 291)).heap.size:=h
   have:=K7.out.size
   rw[h2];simp;omega
 clear d0 d1 d2 d3;go_upto_region 99 with(at_builtin;refine zI _ (by rfl) _ _ 285 (by rfl) 0 291 j0 _ 4 40 Tryz.underlying285 hj0 hz0 hz1 hz2 rfl (by decide) (Value.slice ad1 1 c1) 1 ([.int .i64 1,.string { data:=#[120] },.int .i64 0,.int .i64 0]) (by rfl) (zD H9.out ((yB zA w9).alloc _) (λ_ _ h=>h)) (.slice (some ⟨w9.heap.size,0,none⟩) 1 1) 1 [.int .i64 5,.string { data:=#[] },.int .i64 0,.int .i64 1] (by rfl) (xE (yK (yG w9 _))) rfl (J172 _) (by unfold maxLen;omega) (by omega) (yF _) ?_;intro ad c w10 ha;have K14:Hid (Keeps zA w1 w10):=xD ha ((K7.out.zC (K8.out.zC G1.out)).alloc _) (λq e hq=>by have:=HNB.out q e;omega);have HO:=yA ha.1;have HOB:=yA ha.2.2;clear ha;have r3:=R3.out.keeps K14.out (λh=>h);obtain⟨a0,a1,a2⟩:=r3.three;have f0:=r3.free (k:=0) (by simp);have f1:=r3.free (k:=1) (by simp);have f2:=r3.free (k:=2) (by simp);have R3E:=yA r3;clear r3)
 have hks:Keeps (λq=>q=b3) w10 (((w10.setCell ⟨b3,0,none⟩ (.int .i64 0)).setCell ⟨b3,1,none⟩ (.int .i64 0)).setCell ⟨b3,2,none⟩ (.string { data:=#[] })):=(((yB (λq=>q=b3) w10).setCell (p:=⟨b3,0,none⟩) (λ_=>rfl) _).setCell (p:=⟨b3,1,none⟩) (λ_=>rfl) _).setCell (p:=⟨b3,2,none⟩) (λ_=>rfl) _;have hrow:zB (((w10.setCell ⟨b3,0,none⟩ (.int .i64 0)).setCell ⟨b3,1,none⟩ (.int .i64 0)).setCell ⟨b3,2,none⟩ (.string { data:=#[] })) b3 [.int .i64 0,.int .i64 0,.string { data:=#[] }]:=((R3E.out.set 0 (by simp) _).set 1 (by simp) _).set 2 (by simp) _;generalize ((w10.setCell ⟨b3,0,none⟩ (.int .i64 0)).setCell ⟨b3,1,none⟩ (.int .i64 0)).setCell ⟨b3,2,none⟩ (.string { data:=#[] })=wE at hrow hks ⊢;refine xK (v:=.tuple #[.slice ad 2 c,.agg #[(0:Int),(0:Int),.string { data:=#[] }]]) (J229 _) rfl ?_
 refine⟨⟨_,_,rfl,zD HO.out hks (λkb e h=>?_)⟩,(K1.out.zC K14.out).trans hks (λq hq e=>by have e':q=b3:=e;have:=HB.out;omega)⟩
 have h':kb=b3:=h;subst h';have hb3:kb<w1.heap.size:=R3.out.lt (by simp);rcases HOB.out kb e with h2|h2
 ·have:=HNB.out kb h2;omega
 ·have h3:kb=(w9.alloc (.cells #[(5:Int),.string { data:=#[] },(0:Int),(1:Int)] 291)).heap.size:=h2
  have h4:=(K7.out.zC (K8.out.zC G1.out)).size;rw[h3] at hb3;simp at hb3;omega
theorem zMf(w:World):Calls Tryz.prog 133 #[.string { data:=#[] }] w λe w'=>e=.returned false/\Keeps zA w w':=by
 go_enter Tryz.func133,Tryz.ntmps133
 go_wp2_with (go_at_call 188;refine(zNY _).mono ?_;rintro e w2 ⟨⟨ad,c,rfl⟩,g1⟩;have G1:=yA g1;clear g1)
 go_ret
 exact⟨rfl,G1.out.alloc _⟩
theorem zNN(w:World):Calls Tryz.prog 133 #[.string { data:=#[120] }] w λe w'=>e=.returned true/\Keeps zA w w':=by
 go_enter Tryz.func133,Tryz.ntmps133
 go_upto_region 4 with(go_at_call 188;refine(zOD _).mono ?_;rintro e w2 ⟨⟨ad,c,rfl,ho⟩,g1⟩;have G1:=yA g1;have HO:=yA ho;clear g1 ho)
 obtain⟨g,cap,hv,_,_⟩:=HO.out.form (by decide);have hv2:ad=some ⟨g,0,none⟩/\c=cap:=by simpa using hv
 obtain⟨rfl,rfl⟩:=hv2;have hr:=uB HO.out;obtain⟨b4,hb4⟩:=eX w2.heap.size;have r4:zB (w2.alloc (.cells #[(0:Int),(0:Int),.string { data:=#[] }] 287)) b4 [.int .i64 0,.int .i64 0,.string { data:=#[] }]:=by rw[hb4];exact yK (yG w2 _)
 have k3:Keeps zA w (w2.alloc (.cells #[(0:Int),(0:Int),.string { data:=#[] }] 287)):=G1.out.alloc _;have hr3:=hr.alloc (.cells #[(0:Int),(0:Int),.string { data:=#[] }] 287);rw[<-hb4];generalize w2.alloc (.cells #[(0:Int),(0:Int),.string { data:=#[] }] 287)=w3 at r4 k3 hr3 ⊢;obtain⟨d0,d1,d2⟩:=r4.three;have c0:=hr3.cell (k:=0) (v:=.int .i64 1) rfl;have c1:=hr3.cell (k:=1) (v:=.string { data:=#[120] }) rfl;have K3:=yA k3;clear hr hr3 r4 k3 hb4 hv HO G1;go_wp2_with fail
 go_ret
 exact⟨rfl,K3.out⟩
theorem zBn(s:ByteArray)(hs:s=xNm\/s=zw)(w:World):Calls Tryz.prog 133 #[s] w λe w'=>e=.returned (.bool (zHB s))/\Keeps zA w w':=by
 rcases hs with rfl|rfl
 ·exact zNN w
 ·exact zMf w
theorem zNG(s:ByteArray)(hs:s=xNm\/s=zw)(must:Bool)(w:World):Calls Tryz.prog 190 #[s,must] w λe w'=>e=.returned (.bool (zCV s must))/\Keeps zA w w':=by
 have HI:=yA (zBn s hs);obtain⟨q,hq⟩:=eX (zHB s);have hm:zCV s must=(must&&q || !must&&ze s):=by rw[hq];rfl
 rw[<-hq] at HI;rw[hm];clear hm hq;cases must
 ·cases hn:ze s
  ·have h1:=zBC hn
   have h2:=zA2 hn;go_enter Tryz.func190,Tryz.ntmps190
   exact J31 _
  ·have h1:=zBB hn
   go_enter Tryz.func190,Tryz.ntmps190
   exact J31 _
 ·cases q
  ·exact J84 _
  ·exact J84 _
end Go.Proofs.YtoapgjjepiopbaaGreatDoor
namespace Go.Proofs.YtoapgjjepiopbaaGreatDoor
open Go.RowKit Go.WideMaps Go.Maps
def flA(f:Fl):Value:=.agg #[f.reg,f.name,f.ex,f.count,f.thn,f.els]
def flD(f:Fl):DataW Unit:=.agg [.lit (.bool f.reg),.lit (.bool f.name),.lit (.bool f.ex),.lit (.bool f.count),.lit (.bool f.thn),.lit (.bool f.els)]
def zAx:Value->Option (DataW Unit × List MemPlace)
 | .agg cs=>match cs.toList with
   | [.bool a,.bool b,.bool c,.bool d,.bool e,.bool f]=>some (.agg [.lit (.bool a),.lit (.bool b),.lit (.bool c),.lit (.bool d),.lit (.bool e),.lit (.bool f)],[])
   | _=>none
 | _=>none
theorem zLn(f:Fl):zAx (flA f)=some (flD f,[]):=rfl
theorem zKN{v:Value}{f:Fl}{ps:List MemPlace}(h:zAx v=some (flD f,ps)):v=flA f:=by
 unfold zAx at h;split at h
 ·rename_i cs
  split at h
  ·rename_i a b c d e g hl
   simp only[flD,yN,xZ,DataW.agg.injEq,List.cons.injEq,DataW.lit.injEq,Lit.bool.injEq,and_true] at h;obtain⟨⟨rfl,rfl,rfl,rfl,rfl,rfl⟩,_⟩:=h;obtain⟨l⟩:=cs;simp only at hl;subst hl;rfl
  ·cases h
 ·cases h
theorem zDY:Keyed Tryz.prog 3:=int_keyed xG
theorem zCU(k:Int)(h:-9223372036854775808<=k/\k<9223372036854775808):keyOf Tryz.prog 3 (.int .i64 k)=some (.int .i64 k):=
 keyOf_int_mk xG (by simp[Lit.wf,IntKind.min,IntKind.max,IntKind.signed,IntKind.bits];omega)
def shD:Nat->DataW Unit
 | 0=>.map []
 | n+1=>(shD n).put (.int .i64 (n+1)) (flD (fields (n+1)))
theorem zEo(k:Int)(hk:¬(1<=k/\k<=11)):∀n,n<=11->Maps.has (shD n) (.int .i64 k)=false
 | 0,_=>rfl
 | n+1,hn=>by
   show Maps.has ((shD n).put _ _) _=false
   rw[Maps.has_put_other (by intro e;simp only[Lit.int.injEq,yh] at e;omega)];exact zEo k hk n (by omega)
theorem zFh(k:Int)(hk:¬(1<=k/\k<=11))(z:DataW Unit):∀n,n<=11->(shD n).atKey (.int .i64 k) z=z
 | 0,_=>rfl
 | n+1,hn=>by
   show((shD n).put _ _).atKey _ _=z
   rw[Maps.atKey_put_other (by intro e;simp only[Lit.int.injEq,yh] at e;omega)];exact zFh k hk z n (by omega)
theorem zFM:∀n,Maps.IsMap (shD n)
 | 0=>⟨_,rfl⟩
 | n+1=>by
   obtain⟨es,e⟩:=zFM n;show Maps.IsMap ((shD n).put _ _)
   rw[e];exact⟨_,rfl⟩
theorem isKey(k:Int):WideAt.IsKeyLit (.int .i64 k):=by
 unfold WideAt.IsKeyLit;trivial
theorem zM8(j:Nat)(hj:1<=j)(z:DataW Unit):∀n,j<=n->n<=11->Maps.has (shD n) (.int .i64 j)=true/\(shD n).atKey (.int .i64 j) z=flD (fields j)
 | 0,h,_=>by omega
 | n+1,h,hn=>by
   by_cases e:j=n+1
   ·subst e
    show Maps.has ((shD n).put (.int .i64 (n+1)) _) (.int .i64 (n+1))=true/\((shD n).put (.int .i64 (n+1)) (flD (fields (n+1)))).atKey (.int .i64 (n+1)) z=flD (fields (n+1))
    exact⟨Maps.has_put_same (zFM n) (isKey _) _,Maps.atKey_put_same (zFM n) (isKey _) _ _⟩
   ·have h2:=zM8 j hj z n (by omega) (by omega)
    have hne:Lit.int .i64 (j:Int) ≠ .int .i64 ((n:Int)+1):=by intro e2;simp only[Lit.int.injEq,yh] at e2;omega
    show Maps.has ((shD n).put (.int .i64 (n+1)) _) _=true/\((shD n).put (.int .i64 (n+1)) _).atKey _ z=_
    rw[Maps.has_put_other hne,Maps.atKey_put_other hne];exact h2
theorem zKp(k:Int):Maps.has (shD 11) (.int .i64 k)=decide (1<=k/\k<=11)/\(shD 11).atKey (.int .i64 k) (flD ⟨false,false,false,false,false,false⟩)=flD (fields k):=by
 by_cases hk:1<=k/\k<=11
 ·obtain⟨j,rfl⟩:∃j:Nat,k=j:=⟨k.toNat,by omega⟩
  rw[uC hk];exact zM8 j (by omega) _ 11 (by omega) (by omega)
 ·rw[uK hk,zDt hk]
  exact⟨zEo k hk 11 (by omega),zFh k hk _ 11 (by omega)⟩
theorem zJ6(w:World):Calls Tryz.prog 189 #[] w λe w'=>∃b,e=.returned (.map (some b))/\w'.ownsMap Tryz.prog 3 zAx b 11 (shD 11)/\Keeps zA w w':=by
 have hmm:=@run_makeMap Tryz.prog;go_enter Tryz.func189,Tryz.ntmps189
 go_upto_region 2 with fail
 obtain⟨b1,hb1⟩:=eX w.heap.size;have hr1:zB (w.alloc (.cells #[false,true,false,false,false,false] 293)) b1 [.bool false,.bool true,.bool false,.bool false,.bool false,.bool false]:=J169 _;have hk1:Keeps zA w (w.alloc (.cells #[false,true,false,false,false,false] 293)):=(yB _ _).alloc _;rw[<-hb1];generalize w.alloc (.cells #[false,true,false,false,false,false] 293)=w1 at hr1 hk1 ⊢;have R1:=yA hr1;have K1:=yA hk1;have hlt:b1<w1.heap.size:=hr1.lt (by simp);clear hr1 hk1 hb1;have h0:(w1.alloc (.map #[] 0)).ownsMap Tryz.prog 3 zAx w1.heap.size 0 (shD 0):=World.ownsMap_made _ _ _ _;have k0:Keeps (λq=>q=w1.heap.size) w1 (w1.alloc (.map #[] 0)):=((yB _ _).alloc _);obtain⟨W1,e1,h1,g1⟩:=h0.update zDY uA (by unfold maxLen;omega) (zCU 1 (by omega)) (show zAx (.agg #[true,false,true,false,false,false])=some (flD (fields 1),[]) from rfl);have k1:Keeps (λq=>q=w1.heap.size) w1 W1:=k0.grown g1 (λk e _=>by cases e;rfl);clear g1;obtain⟨W2,e2,h2,g2⟩:=h1.update zDY uA (by unfold maxLen;omega) (zCU 2 (by omega)) (show zAx (.agg #[true,true,false,false,false,false])=some (flD (fields 2),[]) from rfl);have k2:Keeps (λq=>q=w1.heap.size) w1 W2:=k1.grown g2 (λk e _=>by cases e;rfl);clear g2;obtain⟨W3,e3,h3,g3⟩:=h2.update zDY uA (by unfold maxLen;omega) (zCU 3 (by omega)) (show zAx (.agg #[false,true,true,false,false,false])=some (flD (fields 3),[]) from rfl);have k3:Keeps (λq=>q=w1.heap.size) w1 W3:=k2.grown g3 (λk e _=>by cases e;rfl);clear g3;obtain⟨W4,e4,h4,g4⟩:=h3.update zDY uA (by unfold maxLen;omega) (zCU 4 (by omega)) (show zAx (.agg #[true,true,true,false,false,false])=some (flD (fields 4),[]) from rfl);have k4:Keeps (λq=>q=w1.heap.size) w1 W4:=k3.grown g4 (λk e _=>by cases e;rfl)
 clear g4;have r4:=R1.out.keeps k4 (λe=>by exact J235 _);have c40:=r4.cell (k:=0) (v:=.bool false) rfl;have c41:=r4.cell (k:=1) (v:=.bool true) rfl;have c42:=r4.cell (k:=2) (v:=.bool false) rfl;have c43:=r4.cell (k:=3) (v:=.bool false) rfl;have c44:=r4.cell (k:=4) (v:=.bool false) rfl;have c45:=r4.cell (k:=5) (v:=.bool false) rfl;clear r4;obtain⟨W5,e5,h5,g5⟩:=h4.update zDY uA (by unfold maxLen;omega) (zCU 5 (by omega)) (show zAx (.agg #[false,true,false,false,false,false])=some (flD (fields 5),[]) from rfl);have k5:Keeps (λq=>q=w1.heap.size) w1 W5:=k4.grown g5 (λk e _=>by cases e;rfl);clear g5;have r5:=R1.out.keeps k5 (λe=>by exact J235 _);have c50:=r5.cell (k:=0) (v:=.bool false) rfl;have c51:=r5.cell (k:=1) (v:=.bool true) rfl;have c52:=r5.cell (k:=2) (v:=.bool false) rfl;have c53:=r5.cell (k:=3) (v:=.bool false) rfl;have c54:=r5.cell (k:=4) (v:=.bool false) rfl;have c55:=r5.cell (k:=5) (v:=.bool false) rfl;clear r5;obtain⟨W6,e6,h6,g6⟩:=h5.update zDY uA (by unfold maxLen;omega) (zCU 6 (by omega)) (show zAx (.agg #[false,true,false,false,false,false])=some (flD (fields 6),[]) from rfl);have k6:Keeps (λq=>q=w1.heap.size) w1 W6:=k5.grown g6 (λk e _=>by cases e;rfl);clear g6;have r6:=R1.out.keeps k6 (λe=>by exact J235 _);have c60:=r6.cell (k:=0) (v:=.bool false) rfl;have c61:=r6.cell (k:=1) (v:=.bool true) rfl;have c62:=r6.cell (k:=2) (v:=.bool false) rfl;have c63:=r6.cell (k:=3) (v:=.bool false) rfl;have c64:=r6.cell (k:=4) (v:=.bool false) rfl;have c65:=r6.cell (k:=5) (v:=.bool false) rfl;clear r6;obtain⟨W7,e7,h7,g7⟩:=h6.update zDY uA (by unfold maxLen;omega) (zCU 7 (by omega)) (show zAx (.agg #[false,true,false,false,false,false])=some (flD (fields 7),[]) from rfl);have k7:Keeps (λq=>q=w1.heap.size) w1 W7:=k6.grown g7 (λk e _=>by cases e;rfl);clear g7;have r7:=R1.out.keeps k7 (λe=>by exact J235 _)
 have c70:=r7.cell (k:=0) (v:=.bool false) rfl;have c71:=r7.cell (k:=1) (v:=.bool true) rfl;have c72:=r7.cell (k:=2) (v:=.bool false) rfl;have c73:=r7.cell (k:=3) (v:=.bool false) rfl;have c74:=r7.cell (k:=4) (v:=.bool false) rfl;have c75:=r7.cell (k:=5) (v:=.bool false) rfl;clear r7;obtain⟨W8,e8,h8,g8⟩:=h7.update zDY uA (by unfold maxLen;omega) (zCU 8 (by omega)) (show zAx (.agg #[false,true,false,false,false,false])=some (flD (fields 8),[]) from rfl);have k8:Keeps (λq=>q=w1.heap.size) w1 W8:=k7.grown g8 (λk e _=>by cases e;rfl);clear g8;obtain⟨W9,e9,h9,g9⟩:=h8.update zDY uA (by unfold maxLen;omega) (zCU 9 (by omega)) (show zAx (.agg #[false,false,true,false,false,false])=some (flD (fields 9),[]) from rfl);have k9:Keeps (λq=>q=w1.heap.size) w1 W9:=k8.grown g9 (λk e _=>by cases e;rfl);clear g9;obtain⟨W10,e10,h10,g10⟩:=h9.update zDY uA (by unfold maxLen;omega) (zCU 10 (by omega)) (show zAx (.agg #[false,false,true,false,true,true])=some (flD (fields 10),[]) from rfl);have k10:Keeps (λq=>q=w1.heap.size) w1 W10:=k9.grown g10 (λk e _=>by cases e;rfl);clear g10;obtain⟨W11,e11,h11,g11⟩:=h10.update zDY uA (by unfold maxLen;omega) (zCU 11 (by omega)) (show zAx (.agg #[false,false,false,true,true,false])=some (flD (fields 11),[]) from rfl);have k11:Keeps (λq=>q=w1.heap.size) w1 W11:=k10.grown g11 (λk e _=>by cases e;rfl);clear g11;have HE:Hid (W11.ownsMap Tryz.prog 3 zAx w1.heap.size 11 (shD 11)):=h11;have KE:Hid (Keeps zA w W11):=K1.out.trans (k11.mono (S:=λq=>w1.heap.size<=q) (λq _ e=>by have e':q=w1.heap.size:=e;omega)) (λq hq e=>by have:=K1.out.size;omega);clear h0 h1 h2 h3 h4 h5 h6 h7 h8 h9 h10 h11 k0 k1 k2 k3 k4 k5 k6 k7 k8 k9 k10 k11;go_wp2_with fail
 go_ret
 exact⟨_,rfl,HE.out,KE.out⟩
end Go.Proofs.YtoapgjjepiopbaaGreatDoor
namespace Go.Proofs.YtoapgjjepiopbaaGreatDoor
open Go.RowKit
theorem zFO{k num:Int}{nm:ByteArray}{n:Nat}(h1:¬k=1)(h2:¬k=2):
 zAv k num nm n=(decide (3<=k)&&decide (k<=17)&&n==(if k=3\/k=4 then 1 else 2)&&num==0&&ze nm):=by
 unfold zAv;rw[if_neg h1,if_neg h2]
theorem zMp(num:Int)(nm:ByteArray)(n:Nat)(w:World)(ad:Option Addr)(cap:Nat):
 Calls Tryz.prog 137 #[.agg #[(1:Int),num,nm,.slice ad n cap]] w λe w'=>e=.returned (.bool (zAv 1 num nm n))/\Keeps zA w w':=by
 have hx:zAv 1 num nm n=(decide (0<=num)&&decide (num<=2147483647)&&ze nm&&n==0):=rfl;rcases (show num<0\/0<=num by omega) with h0|h0
 ·exact J148 _
 rcases (show 2147483647<num\/num<=2147483647 by omega) with h1|h1
 ·exact J148 _
 rcases (show ze nm=false\/ze nm=true by exact J226 _) with h2|h2
 ·have s1:=zBC h2
  have s2:=zA2 h2;exact J148 _
 have s1:=zBB h2;rcases (show¬n=0\/n=0 by omega) with h3|h3
 ·have h3i:¬(n:Int)=0:=by omega
  have h3b:((n:Int)==0)=false:=by simpa using h3
  exact J148 _
 subst h3;have E0:Hid (zAv 1 num nm 0=true):=by show _=_;rw[hx];simp[*] <;> omega
 clear hx;go_enter Tryz.func137,Tryz.ntmps137
 go_wp2_with fail
 go_ret
 exact⟨by exact J204 _,(yB _ _).alloc _⟩
theorem zOC(num:Int)(nm:ByteArray)(n:Nat)(w:World)(ad:Option Addr)(cap:Nat)(hnm:nm=xNm\/nm=zw):
 Calls Tryz.prog 137 #[.agg #[(2:Int),num,nm,.slice ad n cap]] w λe w'=>e=.returned (.bool (zAv 2 num nm n))/\Keeps zA w w':=by
 have HI:=yA (zBn nm hnm);obtain⟨q,hq⟩:=eX (zHB nm);have hx:zAv 2 num nm n=(q&&num==0&&n==0):=by rw[hq];rfl
 rw[<-hq] at HI;clear hq hnm;obtain⟨res,hres⟩:=eX (zAv 2 num nm n);rw[<-hres];rw[<-hres] at hx;clear hres;go_enter Tryz.func137,Tryz.ntmps137
 go_upto_region 1 with fail
 obtain⟨b1,hb1⟩:=eX w.heap.size;have hr1:zB (w.alloc (.cells #[(2:Int),num,nm,.slice ad n cap] 144)) b1 [.int .i64 2,.int .i64 num,.string nm,.slice ad n cap]:=J169 _;have hk1:Keeps zA w (w.alloc (.cells #[(2:Int),num,nm,.slice ad n cap] 144)):=(yB _ _).alloc _;rw[<-hb1];generalize w.alloc (.cells #[(2:Int),num,nm,.slice ad n cap] 144)=w0 at hr1 hk1 ⊢;obtain⟨c0,c1,c2,c3⟩:=hr1.four;have R1:=yA hr1;have K1:=yA hk1;clear hr1 hk1 hb1;rcases (show q=false\/q=true by(cases q <;> simp)) with h0|h0
 ·subst h0
  exact J28 _
 subst h0;rcases (show¬num=0\/num=0 by omega) with h1|h1
 ·have h1b:(num==0)=false:=by simpa using h1
  exact J28 _
 rcases (show¬n=0\/n=0 by omega) with h2|h2
 ·have h2i:¬(n:Int)=0:=by omega
  have h2b:((n:Int)==0)=false:=by simpa using h2
  exact J28 _
 have E0:Hid (res=true):=by show _=_;rw[hx];simp[*] <;> omega
 clear hx;go_wp2_with (go_at_call 133;refine(HI.out _).mono ?_;rintro e w1 ⟨rfl,g1⟩;have r:=R1.out.keeps g1 (λh=>h);obtain⟨c0,c1,c2,c3⟩:=r.four;have G1:=yA g1;clear g1 r)
 go_ret
 exact⟨by exact J204 _,K1.out.zC G1.out⟩
theorem zOI(num:Int)(nm:ByteArray)(n:Nat)(w:World)(ad:Option Addr)(cap:Nat):
 Calls Tryz.prog 137 #[.agg #[(3:Int),num,nm,.slice ad n cap]] w λe w'=>e=.returned (.bool (zAv 3 num nm n))/\Keeps zA w w':=by
 have hx:zAv 3 num nm n=(n==1&&num==0&&ze nm):=by rw[zFO (by decide) (by decide)];simp
 rcases (show¬n=1\/n=1 by omega) with h0|h0
 ·have h0i:¬(n:Int)=1:=by omega
  have h0b:((n:Int)==1)=false:=J183 _;exact J152 _
 have h0i:(n:Int)=1:=by omega
 rcases (show¬num=0\/num=0 by omega) with h1|h1
 ·have h1b:(num==0)=false:=by simpa using h1
  exact J152 _
 rcases (show ze nm=false\/ze nm=true by exact J226 _) with h2|h2
 ·have s1:=zBC h2
  have s2:=zA2 h2;exact J152 _
 have s1:=zBB h2;have E0:Hid (zAv 3 num nm n=true):=by show _=_;rw[hx];simp[*] <;> omega
 clear hx;go_enter Tryz.func137,Tryz.ntmps137
 go_wp2_with fail
 go_ret
 exact⟨by exact J204 _,(yB _ _).alloc _⟩
theorem zNH(num:Int)(nm:ByteArray)(n:Nat)(w:World)(ad:Option Addr)(cap:Nat):
 Calls Tryz.prog 137 #[.agg #[(4:Int),num,nm,.slice ad n cap]] w λe w'=>e=.returned (.bool (zAv 4 num nm n))/\Keeps zA w w':=by
 have hx:zAv 4 num nm n=(n==1&&num==0&&ze nm):=by rw[zFO (by decide) (by decide)];simp
 rcases (show¬n=1\/n=1 by omega) with h0|h0
 ·have h0i:¬(n:Int)=1:=by omega
  have h0b:((n:Int)==1)=false:=J183 _;exact J153 _
 have h0i:(n:Int)=1:=by omega
 rcases (show¬num=0\/num=0 by omega) with h1|h1
 ·have h1b:(num==0)=false:=by simpa using h1
  exact J153 _
 rcases (show ze nm=false\/ze nm=true by exact J226 _) with h2|h2
 ·have s1:=zBC h2
  have s2:=zA2 h2;exact J153 _
 have s1:=zBB h2;have E0:Hid (zAv 4 num nm n=true):=by show _=_;rw[hx];simp[*] <;> omega
 clear hx;go_enter Tryz.func137,Tryz.ntmps137
 go_wp2_with fail
 go_ret
 exact⟨by exact J204 _,(yB _ _).alloc _⟩
theorem zMb(k:Int)(num:Int)(nm:ByteArray)(n:Nat)(w:World)(ad:Option Addr)(cap:Nat)(k1:¬k=1)(k2:¬k=2)(k3:¬k=3)(k4:¬k=4):
 Calls Tryz.prog 137 #[.agg #[k,num,nm,.slice ad n cap]] w λe w'=>e=.returned (.bool (zAv k num nm n))/\Keeps zA w w':=by
 have hx:zAv k num nm n=(decide (3<=k)&&decide (k<=17)&&n==2&&num==0&&ze nm):=by rw[zFO k1 k2];simp[k3,k4]
 have kb1:(k==1)=false:=by simpa using k1
 have kb2:(k==2)=false:=by simpa using k2
 have kb3:(k==3)=false:=by simpa using k3
 have kb4:(k==4)=false:=by simpa using k4
 rcases (show k<3\/3<=k by omega) with h0|h0
 ·exact J142 _
 rcases (show 17<k\/k<=17 by omega) with h1|h1
 ·exact J142 _
 rcases (show¬n=2\/n=2 by omega) with h2|h2
 ·have h2i:¬(n:Int)=2:=by omega
  have h2b:((n:Int)==2)=false:=J183 _;exact J142 _
 have h2i:(n:Int)=2:=by omega
 rcases (show¬num=0\/num=0 by omega) with h3|h3
 ·have h3b:(num==0)=false:=by simpa using h3
  exact J142 _
 rcases (show ze nm=false\/ze nm=true by exact J226 _) with h4|h4
 ·have s1:=zBC h4
  have s2:=zA2 h4;exact J142 _
 have s1:=zBB h4;have E0:Hid (zAv k num nm n=true):=by show _=_;rw[hx];simp[*] <;> omega
 clear hx;go_enter Tryz.func137,Tryz.ntmps137
 go_wp2_with fail
 go_ret
 exact⟨by exact J204 _,(yB _ _).alloc _⟩
theorem zKf(x:Ex)(hnm:x.kind=2->x.nm=xNm\/x.nm=zw)(w:World)(ad:Option Addr)(cap:Nat):
 Calls Tryz.prog 137 #[exV x ad cap] w λe w'=>e=.returned (.bool (zAv x.kind x.num x.nm x.args.length))/\Keeps zA w w':=by
 obtain⟨k,num,nm,l⟩:=x;show Calls _ _ #[.agg #[k,num,nm,.slice ad l.length cap]] _ λe w'=>e=.returned (.bool (zAv k num nm l.length))/\Keeps zA w w'
 by_cases k1:k=1
 ·subst k1;exact zMp num nm _ w ad cap
 by_cases k2:k=2
 ·subst k2;exact zOC num nm _ w ad cap (hnm rfl)
 by_cases k3:k=3
 ·subst k3;exact zOI num nm _ w ad cap
 by_cases k4:k=4
 ·subst k4;exact zNH num nm _ w ad cap
 exact zMb k num nm _ w ad cap k1 k2 k3 k4
section
variable {P:Program}
def zM7(md:Region.Mode)(ops:Array Oper)(n p:Nat):Bool:=
 (List.range n).all λi=>decide (i=p) || (List.range (n+1)).any λj=>decide (i<j)&&decide (j≠p)&&Region.waitsFor md ops j i
theorem zJY{md:Region.Mode}{ops:Array Oper}{n p:Nat}{listed:Array Bool}(hs:zM7 md ops n p=true)(hc:Region.chainB md ops n=true)(hn:n<ops.size)(inv:HeadInv md ops n listed):
 ∀(d i:Nat),n-i=d->i≠p->i<n->listed.getD i true=false->∀t,n<=t->t∉Region.ready md ops listed:=by
 intro d
 induction d using Nat.strongRecOn with
 | _ d ih =>
   intro i hd hip hi hun t ht hr
   obtain⟨_,ot,hot,hall⟩:=uW.1 hr;have htlt:t<ops.size:=(Array.getElem?_eq_some_iff.1 hot).1;by_cases htn:t=n
   ·exact J21 _
   ·exact J24 _
def zDF(n g p:Nat):Array Bool:=(zo n g).setIfInBounds p false
def zKv(md:Region.Mode)(l:List Oper)(n p:Nat):Bool:=
 decide (n<l.length)&&decide (p<n)&&zM7 md l.toArray n p&&Region.chainB md l.toArray n&&zKu md l n&&((List.range (n+1)).all λm=>zCC l m)&&Region.seqB md l.toArray (l.length-n) n (zo n (l.length-n)) &&
  Region.free md l.toArray (zDF n (l.length-n) p) p&&(Region.ready md l.toArray (zDF n (l.length-n) p)).contains p&&Region.noSelect l.toArray
theorem zFT{id:Nat}{Q:Exit->Act->World->Prop}{a:Act}{w:World}{l:List Oper}(n p:Nat)(hm:P.follows .mixedOrders=true)(hB:zKv .any l n p=true)(op:Oper)(hop:l[p]?=some op)(hQ:∀c a w v,Q (.panic c) (a.put op.dst v) w->Q (.panic c) a w)
 (R:World->World->Prop) (hrefl:∀w,R w w) (htrans:∀a b c,R a b->R b c->R a c) (F:Nat->Value->World->Prop) (hst:∀j v W W',F j v W->R W W'->F j v W')
 (hstep:∀i o,i<n->l[i]?=some o->∀(vs:Nat->Value)(W:World)(Q':Exit->Act->World->Prop),R w.drew W->(∀j,(o.after.any λe=>Region.binds .any e&&decide (e.on=j))=true->F j (vs j) W) →
   (∀v W',R W W'->F i v W'->Q' .normal ((zJ l vs a n).put o.dst v) W')->wpList P l.toArray Q' [o] (zJ l vs a n) W)
 (hy:∀(vs:Nat->Value)(W:World),R w.drew W->(∀j,j<n->j≠p->F j (vs j) W)->∃v,Yields P l.toArray op v (zJ l vs a n)/\F p v W)
 (htail:∀(vs:Nat->Value)(W:World),R w.drew W->(∀j,j<n->F j (vs j) W)->wpList P l.toArray Q (l.drop n) (zJ l vs a n) W):(Code.region id l.toArray true).wp P Q a w:=by
 simp only[zKv,yS,yV,xB,xT] at hB;obtain⟨⟨⟨⟨⟨⟨⟨⟨⟨hn,hpn⟩,hs⟩,hc⟩,hback⟩,hdis⟩,hseq⟩,hfr⟩,hrd⟩,hsel⟩:=hB;have hop':l.toArray[p]?=some op:=by simpa using hop
 have key:∀(f:Nat)(listed:Array Bool)(vs:Nat->Value)(W:World),HeadInv .any l.toArray n listed->zBp listed n=f->R w.drew W->(∀j,j<n->listed.getD j true=true->F j (vs j) W) →
  wpAny P .any l.toArray Q (f+(l.length-n)) listed (zJ l vs a n) W:=by
  intro f
  induction f with
  | zero =>
    intro listed vs W inv hcnt hR hF
    have hall:=zCE n hcnt
    have he:listed=zo n (l.length-n):=by
     exact J10 _
    have h1:=htail vs W hR (λj hj=>hF j hj (hall j hj));have hdl:(l.drop n).length=l.length-n:=by simp
    have:=wpAny_of_seq (P:=P) (md:=.any) (ops:=l.toArray) (Q':=Q) (l.drop n) n listed (zJ l vs a n) W (λj=>by simp[kV]) (by rw[hdl,he];exact hseq) h1
    rw[hdl] at this;rw[xA];exact this
  | succ f ih =>
    intro listed vs W inv hcnt hR hF
    by_cases hall:∀i,i<n->i≠p->listed.getD i true=true
    ·have hup:listed.getD p true=false:=by
      cases e:listed.getD p true with
      | false=>rfl
      | true =>
        obtain⟨i,h1,h2,_⟩:=zBN n (by omega:zBp listed n≠0);by_cases ei:i=p
        ·rw[ei,e] at h2;cases h2
        ·rw[hall i h1 ei] at h2;cases h2
     have he:listed=zDF n (l.length-n) p:=by
      apply Array.ext
      ·rw[inv.size];simp[zDF,zo];omega
      ·intro k h1 h2
       unfold zDF;have hkl:k<l.toArray.size:=by rw[<-inv.size];exact h1
       by_cases hkp:k=p
       ·exact J76 _
       ·by_cases hk:k<n
        ·have:=hall k hk hkp
         simp only[Array.getD,h1,dif_pos] at this;rw[show listed[k]=true from this];have hpk:¬p=k:=λe=>hkp e.symm
         exact J71 _
        ·have:=inv.tail k (by omega) hkl
         simp only[Array.getD,h1,dif_pos] at this;rw[show listed[k]=false from this];have hpk:¬p=k:=λe=>hkp e.symm
         exact J71 _
     have hrp:p∈Region.ready .any l.toArray listed:=by rw[he];simpa using hrd
     obtain⟨v,hyv,hFp⟩:=hy vs W hR (λj hj hjp=>hF j hj (hall j hj hjp))
     have h1:wpAny P .any l.toArray Q (f+(l.length-n)) (listed.setIfInBounds p true) ((zJ l vs a n).put op.dst v) W:=by
      have hd:op.dst=(l[p]?).bind (·.dst):=by rw[hop];rfl
      rw[hd,zBO v n vs hpn (hdis n (by omega)) (λm hm=>hdis m (by omega))];refine ih _ _ _ (inv.set hrp hpn) ?_ hR (λj hj hl=>?_)
      ·have:=zCT hup n
       rw[if_pos hpn] at this;omega
      ·by_cases e:j=p
       ·subst e;rw[if_pos rfl];exact hFp
       ·rw[if_neg e];exact hF j hj (hall j hj e)
     have h2:=wpAny_first (P:=P) (ops:=l.toArray) (Q:=Q) (md:=.any) hop' (Region.noSelect_spec hsel) (λc a w=>hQ c a w v) (f+(l.length-n)) listed (zJ l vs a n) W (by rw[he];exact Region.free_spec hop' hfr) hrp hyv h1;rw[show f+1+(l.length-n)=(f+(l.length-n))+1 by omega];exact h2
    have hex:∃i,i<n/\i≠p/\listed.getD i true=false:=uP λhno=>hall λi hi hip=>by
     exact J130 _
    obtain⟨iu,hiu,hiup,hiuu⟩:=hex;obtain⟨i0,hi0,hu0,hb0⟩:=zBN n (by omega:zBp listed n≠0)
    have hr0:i0∈Region.ready .any l.toArray listed:=by
     exact J13 _
    rw[show f+1+(l.length-n)=(f+(l.length-n))+1 by omega];refine⟨λh0=>by exact J198 _,λi hi=>?_⟩
    have hin:i<n:=by
     rcases xR i n with h|h
     ·exact h
     ·exact absurd hi (zJY hs hc (by simpa using hn) inv _ iu rfl hiup hiu hiuu i h)
    have hun:=(uW.1 hi).1;obtain⟨_,o,ho,hafter⟩:=uW.1 hi;have ho':l[i]?=some o:=by simpa using ho
    refine zB0 ho (hstep i o hin ho' vs W _ hR (λj hj=>?_) (λv W' hR' hF'=>?_))
    ·exact J11 _
    ·exact J33 _
 refine wp_region_any hm ?_
 have inv0:HeadInv .any l.toArray n (Array.replicate l.toArray.size false):=
  ⟨by simp,λj oj _ hl=>(J200 _),λt _ ht=>getD_in (by simpa using ht) (vH _ _)⟩
 have hcn:∀m,m<=l.length->zBp (Array.replicate l.toArray.size false) m=m:=by
  exact J26 _
 have:=key n (Array.replicate l.toArray.size false) (slotsOf l a) w.drew inv0 (hcn n (by omega)) (hrefl _) (λj hj hl=>by
  have h1:j<l.length:=by omega
  have:(Array.replicate l.toArray.size false).getD j true=false:=by simp[h1]
  rw[this] at hl;cases hl)
 rw[zBx l a n,show n+(l.length-n)=l.toArray.size by simp;omega] at this;exact this
end
