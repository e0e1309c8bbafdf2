/- Layer N: texts joined. -/
import Derived.Test.YtoapgjjepiopbaaGreatDoorN49
set_option linter.all false
set_option maxHeartbeats 4000000
set_option maxRecDepth 8000
namespace Go.Proofs.YtoapgjjepiopbaaGreatDoor
open Go.RowKit
theorem J31 (P:Prop) (h:P:=by
 rcases HO1.out k e with h | h
 ·exact HLO.out.2.2.2 k h
 ·have h1:=HSZ.out
  have h4:=HLO.out.1;exact ⟨by omega,by omega⟩):P:=h
theorem J42 (P:Prop) (h:P:=by
 go_wp2_with (go_at_call 111;refine HBK.out.mono ?_;rintro e w2 ⟨rfl,hp⟩;have HP:=Lib.hid hp;clear hp)
 go_returns
 obtain ⟨v6,h1,h2,h3,h4⟩:=HP.out;exact ⟨rfl,v6,h1,h2,h3,(HK1.out.mono (fun q _ e=>by rcases e with e | e;have:=HLO.out.1;show B <= q;omega;exact (HLO.out.2.2.2 q e).1)).trans h4 (fun _ _ h=>h)⟩):P:=h
theorem J177 (P:Prop) (h:P:=by have e':k=bx:=e2;subst e';rcases e with e | e;exact HLO.out.2.2.1 e.symm;exact (HV1.out _ e).2 rfl):P:=h
theorem J214 (P:Prop) (h:P:=by rcases e with e | e;have:=HLO.out.1;show B <= q;omega;exact (HLO.out.2.2.2 q e).1):P:=h
theorem zNg:takeN [⟨0,1,0,-1⟩]=(0,true,[⟨0,1,0,0⟩]):=by rfl
theorem VmC.apart {b gc gi gf:Nat} {c1 oa ra:Option Addr} {c2 oc rc kc ki kf:Nat} {st:Int} {w:World} (h:VmC w b st c1 oa ra c2 oc rc gc gi gf kc ki kf) {ca:Option Addr} {cc gt ot tc gs bx:Nat} {nx ex fo:Value} {fn:Fn} {an a0 a1 a2 a3 a4:Int} (hx:zC w bx (XC ca cc gt ot tc gs bx nx fn an a0 a1 a2 a3 a4 ex fo)):b ≠ bx /\ gc ≠ bx /\ gi ≠ bx /\ gf ≠ bx:=by
 have x0:=hx.cell (k:=0) rfl;have x1:=hx.cell (k:=1) rfl;refine ⟨fun e=>?_,fun e=>?_,fun e=>?_,fun e=>?_⟩ <;> subst e
 ·have:=h.row.cell (k:=1) rfl
  rw [this] at x1;simp at x1
 ·have:=h.code.cell (k:=0) rfl
  rw [this] at x0;simp at x0
 ·have:=h.ins.cell (k:=0) rfl
  rw [this] at x0;simp at x0
 ·have:=h.fr.cell (k:=0) rfl
  rw [this] at x0;simp at x0
theorem zNQ {ca:Option Addr} {cc gt ot tc gI gs bx B:Nat} {ex fo v:Value} {an a0 a1 a2 a3 a4:Int} {w:World} (hx:zC w bx (XC ca cc gt ot tc gs bx (.slice none 0 0) (.func 34) an a0 a1 a2 a3 a4 ex fo)) (hs:zP w gs v []) (hi:zC1 w gt ot gI) (hT:zAV w) (hlo:B <= gs /\ B <= bx /\ gs ≠ bx /\ (∀ k,v.ownBlock=some k -> B <= k /\ k ≠ bx)) (him:gt < B /\ gI < B /\ 3 < B) :
 Calls Tryz.prog 34 #[(.pointer (some ⟨bx,0,none⟩))] w fun e w'=>e=.returned (.tuple #[]) /\ ∃ (v6:Value) (gn cn:Nat) (u:Option Addr × Nat),zC w' bx (XC ca cc gt ot tc gs bx (.slice (some ⟨gn,0,none⟩) 1 cn) (.func 73) an a0 a1 a2 a3 a4 ex fo) /\ zP w' gs v6 ([⟨0,1,0,-1⟩]:List Nd) /\ w'.ownsRow 0 32 1 (.slice (some ⟨gn,0,none⟩) 1 cn) 1 [.slice u.1 1 u.2] /\ (B <= gn /\ gn ≠ bx /\ gn ≠ gs /\ v6.ownBlock ≠ some gn) /\ (∀ k,v6.ownBlock=some k -> B <= k /\ k ≠ bx) /\ Keeps (fun q=>B <= q) w w':=by
 have HX:=Lib.hid hx;have HS:=Lib.hid hs;have HI:=Lib.hid hi;have HT:=Lib.hid hT;have HLO:=Lib.hid hlo;have HIM:=Lib.hid him;have y:=hx.cell (k:=5) rfl;have f:=hx.free (k:=5) (by simp [XC]);clear hx hs hi hT hlo him;have hmf:∀ (fn:Fn) (first cap:Array Value) (w:World),(Instr.makeFunc fn first cap).run Tryz.prog w=.ok (.func fn first cap) w:=fun _ _ _ _=>rfl
 go_enter Tryz.func34,Tryz.ntmps34
 go_upto_region 1 with fail
 have ra:zC (w.setCell ⟨bx,5,none⟩ (.func (.func 73) #[(.pointer (some ⟨bx,0,none⟩))] #[])) bx (XC ca cc gt ot tc gs bx (.slice none 0 0) (.func 73) an a0 a1 a2 a3 a4 ex fo):=HX.out.set 5 (by simp [XC]) (.func (.func 73) #[(.pointer (some ⟨bx,0,none⟩))] #[]);have ka:Keeps (fun q=>q=bx) w (w.setCell ⟨bx,5,none⟩ (.func (.func 73) #[(.pointer (some ⟨bx,0,none⟩))] #[])):=(Keeps.refl (fun q=>q=bx) w).setCell (p:=⟨bx,5,none⟩) (fun _=>rfl) _;generalize (w.setCell ⟨bx,5,none⟩ (.func (.func 73) #[(.pointer (some ⟨bx,0,none⟩))] #[]))=w1 at ra ka ⊢;have HX1:=Lib.hid ra;have HK1:=Lib.hid ka;clear ra ka y f;have HB:Hid (∀ q,q < B -> ¬ q=bx):=fun q h e=>by have:=HLO.out.2.1;omega
 have HI1:=Lib.hid (HI.out.keeps HK1.out (HB.out _ HIM.out.1) (HB.out _ HIM.out.2.1));have HS1:=Lib.hid (HS.out.keeps HK1.out (fun k e e2=>by have e':k=bx:=e2;subst e';rcases e with e | e;exact HLO.out.2.2.1 e.symm;exact (HLO.out.2.2.2 _ e).2 rfl));have HT1:Hid (zAV w1):=fun j hj=>HK1.out.cell (HB.out _ HIM.out.2.2) (HT.out j hj)
 go_upto_region 2 with (go_at_call 74;refine (zOn HX1.out HI1.out HS1.out).mono ?_;rintro e w2 ⟨b,c1,oa,ra,c2,oc,rc,gc,gi,gf,kc,ki,kf,rfl,g1,g2⟩;have HM2:=Lib.hid g1;have HK2:=Lib.hid g2;clear g1 g2)
 have HA:=Lib.hid (zPU (B:=B) (HX1.out.keeps HK2.out (fun h=>h)) (HS1.out.keeps HK2.out (fun _ _ h=>h)) HM2.out (fun j hj=>HK2.out.cell (fun h=>h) (HT1.out j hj)) HLO.out);go_wp2_with (go_at_call 75;refine HA.out.mono ?_;rintro e w3 ⟨rfl,hp⟩;have HP:=Lib.hid hp;clear hp)
 go_returns
 obtain ⟨v6,gn,cn,u,h1,h2,h3,h4,h5,h6⟩:=HP.out;exact ⟨rfl,v6,gn,cn,u,h1,h2,h3,h4,h5,((HK1.out.mono (fun q _ e=>by have e':q=bx:=e;have:=HLO.out.2.1;show B <= q;omega)).trans HK2.out (fun _ _ h=>h.elim)).trans h6 (fun _ _ h=>h)⟩
theorem zOY {ca:Option Addr} {cc gt ot tc gI gs bx B:Nat} {v:Value} {fn:Fn} {an a1 a2:Int} {w:World} {gn cn:Nat} {u:Option Addr × Nat} (hx:zC w bx (XC ca cc gt ot tc gs bx (.slice (some ⟨gn,0,none⟩) 1 cn) fn an 0 a1 a2 0 0 (.slice none 0 0) (.slice none 0 0))) (hs:zP w gs v ([⟨0,1,0,-1⟩]:List Nd)) (hi:zC1 w gt ot gI) (hT:zAV w) (hlo:B <= gs /\ B <= bx /\ gs ≠ bx /\ (∀ k,v.ownBlock=some k -> B <= k /\ k ≠ bx)) (him:gt < B /\ gI < B /\ 3 < B) (hn:w.ownsRow 0 32 1 (.slice (some ⟨gn,0,none⟩) 1 cn) 1 [.slice u.1 1 u.2]) (hg:B <= gn /\ gn ≠ bx /\ gn ≠ gs /\ v.ownBlock ≠ some gn) :
 Calls Tryz.prog 73 #[(.pointer (some ⟨bx,0,none⟩))] w fun e w'=>e=.returned (.tuple #[]) /\ ∃ v6 g2 cap ex fg,zC w' bx (XC ca cc gt ot tc gs bx (.slice (some ⟨g2,0,none⟩) 2 cap) fn an 1 a1 a2 1 1 ex (.slice (some ⟨fg,0,none⟩) 0 0)) /\ zP w' gs v6 ([⟨0,1,0,0⟩,⟨0,0,0,-1⟩]:List Nd) /\ 2 <= cap /\ (∀ k,v6.ownBlock=some k -> B <= k /\ k ≠ bx) /\ Keeps (fun q=>B <= q) w w':=by
 have HX:=Lib.hid hx;have HS:=Lib.hid hs;have HI:=Lib.hid hi;have HT:=Lib.hid hT;have HLO:=Lib.hid hlo;have HIM:=Lib.hid him;have HN:=Lib.hid hn;have HG:=Lib.hid hg
 have HTK:Hid (Calls Tryz.prog 110 #[(.pointer (some ⟨gs,0,none⟩))] w (zAR w gs v (.tuple #[.int .i64 0, .bool true]) ([⟨0,1,0,0⟩]:List Nd))):=by
  have:=zFB w gs v ([⟨0,1,0,-1⟩]:List Nd) hs (J168 _) hT
  rw [zNg] at this;exact this
 have HSZ:Hid (gs < w.heap.size /\ bx < w.heap.size /\ gn < w.heap.size):=⟨World.block_lt_of_cell? w _ hs.cell0,hx.lt (by simp [XC]),zS hn rfl⟩;have y:=hx.cellW (k:=3) rfl;have k0:=zH w;clear hx hs hi hT hlo him hn hg;go_enter Tryz.func73,Tryz.ntmps73
 go_upto_region 1 with (go_at_call 110;refine HTK.out.mono ?_;rintro e w1 ⟨v1,rfl,s1,k1,o1⟩;have HS1:=Lib.hid s1;have HK1:=Lib.hid k1;have HO1:Hid (∀ k,v1.ownBlock=some k -> v.ownBlock=some k \/ w.heap.size <= k):=o1;clear s1 k1 o1 y k0)
 have HB:Hid (∀ q,q < B -> ¬ zLY gs v q):=fun q h e=>by rcases e with e | e;have:=HLO.out.1;omega;have:=(HLO.out.2.2.2 q e).1;omega
 have HX1:=Lib.hid (HX.out.keeps HK1.out (fun e=>by exact J160 _));have HI1:=Lib.hid (HI.out.keeps HK1.out (HB.out _ HIM.out.1) (HB.out _ HIM.out.2.1));have HT1:Hid (zAV w1):=fun j hj=>HK1.out.cell (HB.out _ HIM.out.2.2) (HT.out j hj)
 have HN1:=Lib.hid (zF HN.out HK1.out (fun q e e2=>by exact J213 _))
 have HV1:Hid ((∀ k,v1.ownBlock=some k -> B <= k /\ k ≠ bx) /\ v1.ownBlock ≠ some gn /\ ∀ k,v1.ownBlock=some k -> k < w1.heap.size):=by
  refine ⟨fun k e=>?_,fun e=>?_,fun k e=>zS HS1.out.own e⟩
  ·exact J31 _
  ·rcases HO1.out gn e with h | h
   ·exact HG.out.2.2.2 h
   ·have:=HSZ.out.2.2
    omega
 have y:=HX1.out.cellW (k:=3) rfl;have k1:=zH w1;go_upto_region 4 with (go_at_call 112;refine (zB7 w1 gs v1 ([⟨0,1,0,0⟩]:List Nd) HS1.out).mono ?_;rintro e w' ⟨rfl,rfl⟩)
 go_upto_region 5 with (go_at_call 113;refine (zKH w1 gs v1 ([⟨0,1,0,0⟩]:List Nd) 0 HS1.out (J168 _)).mono ?_;rintro e w2 ⟨e2,h2⟩;have HK2:Hid (Keeps zA w1 w2):=Keeps.zBv h2 _;have e2:e=.returned (.tuple #[.agg #[.int .u64 0, .int .u64 1, .int .u64 0, .int .i64 0], .bool true]):=e2;subst e2;clear h2 y k1)
 obtain ⟨b5,w3,e1,e2,R3,K3,_⟩:=newRow w2 [.int .u64 0, .int .u64 1, .int .u64 0, .int .i64 0] 211;rw [e1,e2];have HK3:Hid (Keeps zA w1 w3):=HK2.out.zB K3;have HB5:Hid (b5 ≠ bx):=by have h1:=HSZ.out.2.1;have h2:=HK2.out.size;have h3:=HK1.out.size;have h4:=e1.symm;show b5 ≠ bx;omega
 have HR3:=Lib.hid R3;clear e1 e2 R3 K3;have HPL:=Lib.hid (zOa (HX1.out.keeps HK3.out (fun h=>h)) (HI1.out.zD HK3.out) (HS1.out.keeps HK3.out (fun _ _ h=>h)));go_upto_region 6 with (go_at_call 74;refine HPL.out.mono ?_;rintro e w4 ⟨b,c1,oa,ra,c2,oc,rc,gc,gi,gf,kc,ki,kf,gl,cl,rfl,g1,g2,g3,g4,g5⟩;have HM4:=Lib.hid g1;have HL4:=Lib.hid g2;have HCL:=Lib.hid g3;have HGL:Hid (w1.heap.size <= gl):=Nat.le_trans HK3.out.size g4;have HK4:=Lib.hid (HK3.out.zB g5);have HR4:=Lib.hid (HR3.out.keeps g5 (fun h=>h));clear g1 g2 g3 g4 g5)
 have HX4:=Lib.hid (HX1.out.keeps HK4.out (fun h=>h))
 have HGX:Hid (gl ≠ bx /\ gl ≠ gs /\ gl ≠ gn /\ v1.ownBlock ≠ some gl):=by
  have h1:=HSZ.out;have h2:=HK1.out.size;have h3:=HGL.out;exact ⟨by omega,by omega,by omega,fun e=>by have:=HV1.out.2.2 gl e;omega⟩
 have y:=HX4.out.cell (k:=10) rfl;have f:=HX4.out.free (k:=10) (by simp [XC]);go_upto_region 7 with fail
 have ra:zC (w4.setCell ⟨bx,10,none⟩ (.int .i64 1)) bx (XC ca cc gt ot tc gs bx (.slice (some ⟨gn,0,none⟩) 1 cn) fn an 0 a1 a2 1 0 (.slice none 0 0) (.slice none 0 0)):=HX4.out.set 10 (by simp [XC]) (.int .i64 1);have ka:Keeps (fun q=>q=bx) w4 (w4.setCell ⟨bx,10,none⟩ (.int .i64 1)):=(Keeps.refl (fun q=>q=bx) w4).setCell (p:=⟨bx,10,none⟩) (fun _=>rfl) _;generalize (w4.setCell ⟨bx,10,none⟩ (.int .i64 1))=w5 at ra ka ⊢;have HX5:=Lib.hid ra;have HK5:=Lib.hid ka;clear ra ka y f;have y:=HX5.out.cell (k:=11) rfl;have f:=HX5.out.free (k:=11) (by simp [XC]);go_upto_region 8 with fail
 have hmx:max (0:Int) 1=1:=rfl;rw [hmx];have ra:zC (w5.setCell ⟨bx,11,none⟩ (.int .i64 1)) bx (XC ca cc gt ot tc gs bx (.slice (some ⟨gn,0,none⟩) 1 cn) fn an 0 a1 a2 1 1 (.slice none 0 0) (.slice none 0 0)):=HX5.out.set 11 (by simp [XC]) (.int .i64 1);have ka:Keeps (fun q=>q=bx) w5 (w5.setCell ⟨bx,11,none⟩ (.int .i64 1)):=(Keeps.refl (fun q=>q=bx) w5).setCell (p:=⟨bx,11,none⟩) (fun _=>rfl) _;generalize (w5.setCell ⟨bx,11,none⟩ (.int .i64 1))=w6 at ra ka ⊢;have HX6:=Lib.hid ra;have HK6:Hid (Keeps (fun q=>q=bx) w4 w6):=HK5.out.trans ka (fun _ _ h=>h);clear ra ka y f hmx;have HL6:=Lib.hid (HL4.out.keeps HK6.out HGX.out.1);go_upto_region 9 with (go_at_call 114;refine (zOP w6 _ cl (zC.src HL6.out) HCL.out).mono ?_;rintro e w7 ⟨gd,rfl,g1,g2⟩;have HD7:=Lib.hid g1;have HK7:=Lib.hid g2;clear g1 g2)
 go_upto_region 10 with (go_at_call 115;refine (zM9 w7 bx gd 1 HD7.out).mono ?_;rintro e w' ⟨rfl,rfl⟩)
 have HK47:Hid (Keeps (fun q=>q=bx) w4 w7):=HK6.out.trans HK7.out (fun _ _ h=>h.elim);have HBX:Hid (∀ q,q < B -> ¬ q=bx):=fun q h e=>by have:=HLO.out.2.1;omega
 have HX7:=Lib.hid (HX6.out.keeps HK7.out (fun h=>h));have HL7:=Lib.hid (HL6.out.keeps HK7.out (fun h=>h));have HR7:=Lib.hid (HR4.out.keeps HK47.out HB5.out);have HN7:=Lib.hid (zF (zF HN1.out HK4.out (fun _ _ h=>h)) HK47.out (fun q e e2=>by rw [zAp e] at e2;exact HG.out.2.1 e2));have HS7:=Lib.hid ((HS1.out.keeps HK4.out (fun _ _ h=>h)).keeps HK47.out (fun k e e2=>by have e':k=bx:=e2;subst e';rcases e with e | e;exact HLO.out.2.2.1 e.symm;exact (HV1.out.1 _ e).2 rfl))
 have HM7:Hid (VmC w7 b 3 c1 oa ra c2 oc rc gc gi gf kc ki kf):=by
  obtain ⟨h1,h2,h3,h4⟩:=HM4.out.apart HX4.out;exact HM4.out.keeps HK47.out h1 h2 h3 h4
 have HT7:Hid (zAV w7):=fun j hj=>HK47.out.cell (HBX.out _ HIM.out.2.2) (HK4.out.cell (fun h=>h) (HT1.out j hj))
 have y:∀ W,Keeps zA w7 W -> W.cell? ⟨bx,4,none⟩=some (.slice (some ⟨gn,0,none⟩) 1 cn) /\ W.cell? ⟨gn,0,none⟩=some (.slice u.1 1 u.2) /\ W.cell? ⟨b5,0,none⟩=some (.int .u64 0):=fun W q=>⟨HX7.out.cellW rfl W q,(zC.zAM HN7.out).cellW rfl W q,HR7.out.cellW rfl W q⟩
 have z:=HL7.out.five;have k7:=zH w7;refine zAs 19 (by kernel_rfl) [some ((.pointer (some ⟨bx,0,none⟩))),some ((.pointer (some ⟨b5,0,none⟩))),some (.int .u64 0),some ((.pointer (some ⟨bx,0,none⟩))),some ((.pointer (some ⟨bx,0,none⟩))),some ((.pointer (some ⟨bx,4,none⟩))),some (.slice (some ⟨gn,0,none⟩) 1 cn),some (.int .i64 0),some ((.pointer (some ⟨gn,0,none⟩))),some (.slice u.1 1 u.2),some (.slice (some ⟨gl,0,none⟩) 1 cl),some (.slice (some ⟨gl,0,none⟩) 1 cl),some (.int .i64 1),some (.int .i64 0),some ((.pointer (some ⟨gl,0,none⟩))),some (.agg #[.int .i64 0, .int .i64 9, .int .i64 0, .int .i64 0, .int .i64 0]),some (.int .u64 0),some ((.pointer (some ⟨b,0,none⟩))),some (.slice (some ⟨gl,0,none⟩) 1 cl)] rfl (fun _ _ _=>False) (fun _ _ _ _ h _=>h) ?_ ?_
 ·refine ⟨?_,?_,?_,?_,?_,?_,?_,?_,?_,?_,?_,?_,?_,?_,?_,?_,?_,?_,?_,trivial⟩ <;> (intro vs gs W Q' hR hd hK;have HRW:Keeps zA w7 W:=((zH w7).drew).zB hR;simp only [zA1,zAg,zBQ,zJ,tz,Option.bind,Act.put] at hd hK ⊢;try simp only [hd] at hK ⊢)
  all_goals try (try clear hd;go_wp2_with (go_at_call 116;refine (zMR u.1 1 u.2 W).mono ?_;rintro e W1 ⟨rfl,g1⟩);first | exact hK _ _ (Keeps.refl _ _) rfl | exact hK _ _ (Keeps.zBv g1 _) rfl)
 ·intro vs W hR hFF
  have HRW:Keeps zA w7 W:=((zH w7).drew).zB hR;have e0:vs 0=_:=hFF 0 (by decide);have e16:vs 16=_:=hFF 16 (by decide);have e17:vs 17=_:=hFF 17 (by decide);have e18:vs 18=_:=hFF 18 (by decide);simp only [zJ,tz,Option.bind,Act.put];rw [e0,e16,e17,e18];have HA:=Lib.hid (zPY (B:=B) (HX7.out.keeps HRW (fun h=>h)) (HS7.out.keeps HRW (fun _ _ h=>h)) (HM7.out.zD HRW) (fun j hj=>HRW.cell (fun h=>h) (HT7.out j hj)) ⟨HLO.out.1,HLO.out.2.1,HLO.out.2.2.1,HV1.out.1⟩ (zF HN7.out HRW (fun _ _ h=>h)) ⟨HG.out.1,HG.out.2.1,HG.out.2.2.1,HV1.out.2.1⟩ (HL7.out.keeps HRW (fun h=>h)) HCL.out HGX.out);have HKW:=Lib.hid HRW;clear hFF e0 e16 e17 e18 hR HRW y z k7;go_wp2_with (go_at_call 75;refine HA.out.mono ?_;rintro e w8 ⟨rfl,hp⟩;have HP:=Lib.hid hp;clear hp)
  go_returns
  obtain ⟨v6,g2,cap,ex,fg,h1,h2,h3,h4,h5⟩:=HP.out;refine ⟨rfl,v6,g2,cap,ex,fg,h1,h2,h3,h4,((((HK1.out.mono (fun q _ e=>?_)).trans HK4.out (fun _ _ h=>h.elim)).trans HK47.out (fun q _ e=>?_)).trans HKW.out (fun _ _ h=>h.elim)).trans h5 (fun _ _ h=>h)⟩
  ·rcases e with e | e
   ·have:=HLO.out.1;omega
   ·exact (HLO.out.2.2.2 q e).1
  ·have e':q=bx:=e
   have:=HLO.out.2.1
   omega
theorem zNP:takeN [⟨0,1,0,0⟩,⟨0,0,0,-1⟩]=(0,false,[⟨0,1,0,0⟩,⟨0,0,0,-1⟩]):=by rfl
theorem zNk:takeN [⟨1,1,1,-1⟩]=(0,false,[⟨1,1,1,-1⟩]):=by rfl
theorem zMs:zCO [⟨0,1,0,0⟩,⟨0,0,0,-1⟩]=(true,[⟨1,1,1,-1⟩]):=by rfl
theorem zMz:zCO [⟨1,1,1,-1⟩]=(true,[]):=by rfl
theorem zON {ca:Option Addr} {cc gt ot tc gs bx B g2 cap fg:Nat} {ex v:Value} {fn:Fn} {an a0 a1 a2 a3 a4:Int} {w:World} (hx:zC w bx (XC ca cc gt ot tc gs bx (.slice (some ⟨g2,0,none⟩) 2 cap) fn an a0 a1 a2 a3 a4 ex (.slice (some ⟨fg,0,none⟩) 0 0))) (hs:zP w gs v ([⟨0,1,0,0⟩,⟨0,0,0,-1⟩]:List Nd)) (hlo:B <= gs /\ B <= bx /\ gs ≠ bx /\ (∀ k,v.ownBlock=some k -> B <= k /\ k ≠ bx)) (hcap:2 <= cap):Calls Tryz.prog 111 #[(.pointer (some ⟨bx,0,none⟩))] w fun e w'=>e=.returned (.tuple #[]) /\ ∃ v6,zC w' bx (XC ca cc gt ot tc gs bx (.slice (some ⟨g2,0,none⟩) 1 cap) fn an a0 a1 a2 a3 a4 ex (.slice (some ⟨fg,0,none⟩) 0 0)) /\ zP w' gs v6 ([⟨1,1,1,-1⟩]:List Nd) /\ (∀ k,v6.ownBlock=some k -> B <= k /\ k ≠ bx) /\ Keeps (fun q=>B <= q) w w':=by
 have HX:=Lib.hid hx;have HS:=Lib.hid hs;have HLO:=Lib.hid hlo
 have HCL:Hid (Calls Tryz.prog 165 #[(.pointer (some ⟨gs,0,none⟩))] w (zAR w gs v (.bool true) ([⟨1,1,1,-1⟩]:List Nd))):=by
  have:=zF0 w gs v ([⟨0,1,0,0⟩,⟨0,0,0,-1⟩]:List Nd) hs (J168 _)
  rw [zMs] at this;exact this
 have y:=hx.cellW (k:=3) rfl;have k0:=zH w;have HSZ:Hid (gs < w.heap.size /\ bx < w.heap.size):=⟨World.block_lt_of_cell? w _ hs.cell0,hx.lt (by simp [XC])⟩;clear hx hs hlo;go_enter Tryz.func111,Tryz.ntmps111
 go_upto_region 1 with (go_at_call 165;refine HCL.out.mono ?_;rintro e w1 ⟨v1,rfl,s1,k1,o1⟩;have HS1:=Lib.hid s1;have HK1:=Lib.hid k1;have HO1:Hid (∀ k,v1.ownBlock=some k -> v.ownBlock=some k \/ w.heap.size <= k):=o1;clear s1 k1 o1 y k0)
 have HX1:=Lib.hid (HX.out.keeps HK1.out (fun e=>by exact J160 _))
 have HV1:Hid (∀ k,v1.ownBlock=some k -> B <= k /\ k ≠ bx):=fun k e=>by
  exact J31 _
 have y:∀ W,Keeps zA w1 W -> W.cell? ⟨bx,3,none⟩=some ((.pointer (some ⟨gs,0,none⟩))) /\ W.cell? ⟨bx,4,none⟩=some (.slice (some ⟨g2,0,none⟩) 2 cap):=fun W q=>⟨HX1.out.cellW rfl W q,HX1.out.cellW rfl W q⟩
 have k1:=zH w1;refine zAs 11 (by kernel_rfl) [some ((.pointer (some ⟨bx,0,none⟩))),some ((.pointer (some ⟨bx,0,none⟩))),some ((.pointer (some ⟨bx,0,none⟩))),some ((.pointer (some ⟨bx,4,none⟩))),some (.slice (some ⟨g2,0,none⟩) 2 cap),some ((.pointer (some ⟨bx,0,none⟩))),some ((.pointer (some ⟨bx,0,none⟩))),some ((.pointer (some ⟨bx,3,none⟩))),some ((.pointer (some ⟨gs,0,none⟩))),some (.int .i64 1),some (.slice (some ⟨g2,0,none⟩) 1 cap)] rfl (fun _ _ _=>False) (fun _ _ _ _ h _=>h) ?_ ?_
 ·refine ⟨?_,?_,?_,?_,?_,?_,?_,?_,?_,?_,?_,trivial⟩ <;> (intro vs gs W Q' hR hd hK;have HRW:Keeps zA w1 W:=((zH w1).drew).zB hR;simp only [zA1,zAg,zBQ,zJ,tz,Option.bind,Act.put] at hd hK ⊢;try simp only [hd] at hK ⊢)
  all_goals try (try clear hd;go_wp2_with (go_at_call 112;refine (zB7 W _ v1 ([⟨1,1,1,-1⟩]:List Nd) (HS1.out.keeps HRW (fun _ _ h=>h))).mono ?_;rintro e w' ⟨rfl,rfl⟩);first | exact hK _ _ (Keeps.refl _ _) rfl)
 ·intro vs W hR hFF
  have HRW:Keeps zA w1 W:=((zH w1).drew).zB hR;have e0:vs 0=_:=hFF 0 (by decide);have e10:vs 10=_:=hFF 10 (by decide);simp only [zJ,tz,Option.bind,Act.put];rw [e0,e10];have HKW:=Lib.hid HRW;have HXW:=Lib.hid (HX1.out.keeps HRW (fun h=>h));have HSW:=Lib.hid (HS1.out.keeps HRW (fun _ _ h=>h));have y4:=HXW.out.cell (k:=4) rfl;have f4:=HXW.out.free (k:=4) (by simp [XC]);clear hFF e0 e10 hR HRW y k1;go_upto_region 3 with fail
  have ra:zC (W.setCell ⟨bx,4,none⟩ (.slice (some ⟨g2,0,none⟩) 1 cap)) bx (XC ca cc gt ot tc gs bx (.slice (some ⟨g2,0,none⟩) 1 cap) fn an a0 a1 a2 a3 a4 ex (.slice (some ⟨fg,0,none⟩) 0 0)):=HXW.out.set 4 (by simp [XC]) (.slice (some ⟨g2,0,none⟩) 1 cap);have ka:Keeps (fun q=>q=bx) W (W.setCell ⟨bx,4,none⟩ (.slice (some ⟨g2,0,none⟩) 1 cap)):=(Keeps.refl (fun q=>q=bx) W).setCell (p:=⟨bx,4,none⟩) (fun _=>rfl) _;generalize (W.setCell ⟨bx,4,none⟩ (.slice (some ⟨g2,0,none⟩) 1 cap))=w2 at ra ka ⊢;have HX2:=Lib.hid ra;have HK2:=Lib.hid ka;clear ra ka y4 f4;have HS2:=Lib.hid (HSW.out.keeps HK2.out (fun k e e2=>by exact J177 _));have HK02:Hid (Keeps (fun q=>B <= q) w w2):=((HK1.out.mono (fun q _ e=>by exact J214 _)).trans HKW.out (fun _ _ h=>h.elim)).trans HK2.out (fun q _ e=>by exact J181 _);have y:∀ W,Keeps zA w2 W -> W.cell? ⟨bx,3,none⟩=some ((.pointer (some ⟨gs,0,none⟩))) /\ W.cell? ⟨bx,13,none⟩=some (.slice (some ⟨fg,0,none⟩) 0 0):=fun W q=>⟨HX2.out.cellW rfl W q,HX2.out.cellW rfl W q⟩
  have k2:=zH w2;go_wp2_with (go_at_call 112;refine (zB7 w2 gs v1 ([⟨1,1,1,-1⟩]:List Nd) HS2.out).mono ?_;rintro e w' ⟨rfl,rfl⟩)
  go_returns
  exact ⟨rfl,v1,HX2.out,HS2.out,HV1.out,HK02.out⟩
theorem zOb {ca:Option Addr} {cc gt ot tc gs bx B g2 cap fg:Nat} {ex v:Value} {fn:Fn} {an a0 a1 a2 a3 a4:Int} {w:World} (hx:zC w bx (XC ca cc gt ot tc gs bx (.slice (some ⟨g2,0,none⟩) 2 cap) fn an a0 a1 a2 a3 a4 ex (.slice (some ⟨fg,0,none⟩) 0 0))) (hs:zP w gs v ([⟨0,1,0,0⟩,⟨0,0,0,-1⟩]:List Nd)) (hT:zAV w) (hlo:B <= gs /\ B <= bx /\ gs ≠ bx /\ (∀ k,v.ownBlock=some k -> B <= k /\ k ≠ bx)) (hcap:2 <= cap):Calls Tryz.prog 73 #[(.pointer (some ⟨bx,0,none⟩))] w fun e w'=>e=.returned (.tuple #[]) /\ ∃ v6,zC w' bx (XC ca cc gt ot tc gs bx (.slice (some ⟨g2,0,none⟩) 1 cap) fn an a0 a1 a2 a3 a4 ex (.slice (some ⟨fg,0,none⟩) 0 0)) /\ zP w' gs v6 ([⟨1,1,1,-1⟩]:List Nd) /\ (∀ k,v6.ownBlock=some k -> B <= k /\ k ≠ bx) /\ Keeps (fun q=>B <= q) w w':=by
 have HX:=Lib.hid hx;have HLO:=Lib.hid hlo
 have HTK:Hid (Calls Tryz.prog 110 #[(.pointer (some ⟨gs,0,none⟩))] w (zAR w gs v (.tuple #[.int .i64 0, .bool false]) ([⟨0,1,0,0⟩,⟨0,0,0,-1⟩]:List Nd))):=by
  have:=zFB w gs v ([⟨0,1,0,0⟩,⟨0,0,0,-1⟩]:List Nd) hs (J168 _) hT
  rw [zNP] at this;exact this
 have y:=hx.cellW (k:=3) rfl;have k0:=zH w;have HSZ:Hid (gs < w.heap.size /\ bx < w.heap.size):=⟨World.block_lt_of_cell? w _ hs.cell0,hx.lt (by simp [XC])⟩;clear hx hs hT hlo;go_enter Tryz.func73,Tryz.ntmps73
 go_upto_region 2 with (go_at_call 110;refine HTK.out.mono ?_;rintro e w1 ⟨v1,rfl,s1,k1,o1⟩;have HS1:=Lib.hid s1;have HK1:=Lib.hid k1;have HO1:Hid (∀ k,v1.ownBlock=some k -> v.ownBlock=some k \/ w.heap.size <= k):=o1;clear s1 k1 o1 y k0)
 have HX1:=Lib.hid (HX.out.keeps HK1.out (fun e=>by exact J160 _))
 have HV1:Hid (∀ k,v1.ownBlock=some k -> B <= k /\ k ≠ bx):=fun k e=>by
  exact J31 _
 have HBK:=Lib.hid (zON HX1.out HS1.out ⟨HLO.out.1,HLO.out.2.1,HLO.out.2.2.1,HV1.out⟩ hcap);exact J42 _
theorem zNZ {ca:Option Addr} {cc gt ot tc gs bx B g2 cap fg:Nat} {ex v:Value} {fn:Fn} {an a0 a1 a2 a3 a4:Int} {w:World} (hx:zC w bx (XC ca cc gt ot tc gs bx (.slice (some ⟨g2,0,none⟩) 1 cap) fn an a0 a1 a2 a3 a4 ex (.slice (some ⟨fg,0,none⟩) 0 0))) (hs:zP w gs v ([⟨1,1,1,-1⟩]:List Nd)) (hlo:B <= gs /\ B <= bx /\ gs ≠ bx /\ (∀ k,v.ownBlock=some k -> B <= k /\ k ≠ bx)) (hcap:2 <= cap):Calls Tryz.prog 111 #[(.pointer (some ⟨bx,0,none⟩))] w fun e w'=>e=.returned (.tuple #[]) /\ ∃ v6,zC w' bx (XC ca cc gt ot tc gs bx (.slice (some ⟨g2,0,none⟩) 0 cap) fn 2 a0 a1 a2 a3 a4 ex (.slice (some ⟨fg,0,none⟩) 0 0)) /\ zP w' gs v6 ([]:List Nd) /\ (∀ k,v6.ownBlock=some k -> B <= k /\ k ≠ bx) /\ Keeps (fun q=>B <= q) w w':=by
 have HX:=Lib.hid hx;have HS:=Lib.hid hs;have HLO:=Lib.hid hlo
 have HCL:Hid (Calls Tryz.prog 165 #[(.pointer (some ⟨gs,0,none⟩))] w (zAR w gs v (.bool true) ([]:List Nd))):=by
  have:=zF0 w gs v ([⟨1,1,1,-1⟩]:List Nd) hs (J168 _)
  rw [zMz] at this;exact this
 have y:=hx.cellW (k:=3) rfl;have k0:=zH w;have HSZ:Hid (gs < w.heap.size /\ bx < w.heap.size):=⟨World.block_lt_of_cell? w _ hs.cell0,hx.lt (by simp [XC])⟩;clear hx hs hlo;go_enter Tryz.func111,Tryz.ntmps111
 go_upto_region 1 with (go_at_call 165;refine HCL.out.mono ?_;rintro e w1 ⟨v1,rfl,s1,k1,o1⟩;have HS1:=Lib.hid s1;have HK1:=Lib.hid k1;have HO1:Hid (∀ k,v1.ownBlock=some k -> v.ownBlock=some k \/ w.heap.size <= k):=o1;clear s1 k1 o1 y k0)
 have HX1:=Lib.hid (HX.out.keeps HK1.out (fun e=>by exact J160 _))
 have HV1:Hid (∀ k,v1.ownBlock=some k -> B <= k /\ k ≠ bx):=fun k e=>by
  exact J31 _
 have y:∀ W,Keeps zA w1 W -> W.cell? ⟨bx,3,none⟩=some ((.pointer (some ⟨gs,0,none⟩))) /\ W.cell? ⟨bx,4,none⟩=some (.slice (some ⟨g2,0,none⟩) 1 cap):=fun W q=>⟨HX1.out.cellW rfl W q,HX1.out.cellW rfl W q⟩
 have k1:=zH w1;refine zAs 11 (by kernel_rfl) [some ((.pointer (some ⟨bx,0,none⟩))),some ((.pointer (some ⟨bx,0,none⟩))),some ((.pointer (some ⟨bx,0,none⟩))),some ((.pointer (some ⟨bx,4,none⟩))),some (.slice (some ⟨g2,0,none⟩) 1 cap),some ((.pointer (some ⟨bx,0,none⟩))),some ((.pointer (some ⟨bx,0,none⟩))),some ((.pointer (some ⟨bx,3,none⟩))),some ((.pointer (some ⟨gs,0,none⟩))),some (.int .i64 0),some (.slice (some ⟨g2,0,none⟩) 0 cap)] rfl (fun _ _ _=>False) (fun _ _ _ _ h _=>h) ?_ ?_
 ·refine ⟨?_,?_,?_,?_,?_,?_,?_,?_,?_,?_,?_,trivial⟩ <;> (intro vs gs W Q' hR hd hK;have HRW:Keeps zA w1 W:=((zH w1).drew).zB hR;simp only [zA1,zAg,zBQ,zJ,tz,Option.bind,Act.put] at hd hK ⊢;try simp only [hd] at hK ⊢)
  all_goals try (try clear hd;go_wp2_with (go_at_call 112;refine (zB7 W _ v1 ([]:List Nd) (HS1.out.keeps HRW (fun _ _ h=>h))).mono ?_;rintro e w' ⟨rfl,rfl⟩);first | exact hK _ _ (Keeps.refl _ _) rfl)
 ·intro vs W hR hFF
  have HRW:Keeps zA w1 W:=((zH w1).drew).zB hR;have e0:vs 0=_:=hFF 0 (by decide);have e10:vs 10=_:=hFF 10 (by decide);simp only [zJ,tz,Option.bind,Act.put];rw [e0,e10];have HKW:=Lib.hid HRW;have HXW:=Lib.hid (HX1.out.keeps HRW (fun h=>h));have HSW:=Lib.hid (HS1.out.keeps HRW (fun _ _ h=>h));have y4:=HXW.out.cell (k:=4) rfl;have f4:=HXW.out.free (k:=4) (by simp [XC]);clear hFF e0 e10 hR HRW y k1;go_upto_region 3 with fail
  have ra:zC (W.setCell ⟨bx,4,none⟩ (.slice (some ⟨g2,0,none⟩) 0 cap)) bx (XC ca cc gt ot tc gs bx (.slice (some ⟨g2,0,none⟩) 0 cap) fn an a0 a1 a2 a3 a4 ex (.slice (some ⟨fg,0,none⟩) 0 0)):=HXW.out.set 4 (by simp [XC]) (.slice (some ⟨g2,0,none⟩) 0 cap);have ka:Keeps (fun q=>q=bx) W (W.setCell ⟨bx,4,none⟩ (.slice (some ⟨g2,0,none⟩) 0 cap)):=(Keeps.refl (fun q=>q=bx) W).setCell (p:=⟨bx,4,none⟩) (fun _=>rfl) _;generalize (W.setCell ⟨bx,4,none⟩ (.slice (some ⟨g2,0,none⟩) 0 cap))=w2 at ra ka ⊢;have HX2:=Lib.hid ra;have HK2:=Lib.hid ka;clear ra ka y4 f4;have HS2:=Lib.hid (HSW.out.keeps HK2.out (fun k e e2=>by exact J177 _));have HK02:Hid (Keeps (fun q=>B <= q) w w2):=((HK1.out.mono (fun q _ e=>by exact J214 _)).trans HKW.out (fun _ _ h=>h.elim)).trans HK2.out (fun q _ e=>by exact J181 _);have y:∀ W,Keeps zA w2 W -> W.cell? ⟨bx,3,none⟩=some ((.pointer (some ⟨gs,0,none⟩))) /\ W.cell? ⟨bx,13,none⟩=some (.slice (some ⟨fg,0,none⟩) 0 0):=fun W q=>⟨HX2.out.cellW rfl W q,HX2.out.cellW rfl W q⟩
  have k2:=zH w2;have y6:=HX2.out.cell (k:=6) rfl;have f6:=HX2.out.free (k:=6) (by simp [XC]);go_wp2_with (go_at_call 112;refine (zB7 w2 gs v1 ([]:List Nd) HS2.out).mono ?_;rintro e w' ⟨rfl,rfl⟩)
  have rb:zC (w2.setCell ⟨bx,6,none⟩ (.int .i64 2)) bx (XC ca cc gt ot tc gs bx (.slice (some ⟨g2,0,none⟩) 0 cap) fn 2 a0 a1 a2 a3 a4 ex (.slice (some ⟨fg,0,none⟩) 0 0)):=HX2.out.set 6 (by simp [XC]) (.int .i64 2);have kb:Keeps (fun q=>q=bx) w2 (w2.setCell ⟨bx,6,none⟩ (.int .i64 2)):=(Keeps.refl (fun q=>q=bx) w2).setCell (p:=⟨bx,6,none⟩) (fun _=>rfl) _;generalize (w2.setCell ⟨bx,6,none⟩ (.int .i64 2))=w3 at rb kb ⊢;go_returns
  exact ⟨rfl,v1,rb,HS2.out.keeps kb (fun k e e2=>by exact J177 _),HV1.out,HK02.out.trans kb (fun q _ e=>by exact J181 _)⟩
theorem zOu {ca:Option Addr} {cc gt ot tc gs bx B g2 cap fg:Nat} {ex v:Value} {fn:Fn} {an a0 a1 a2 a3 a4:Int} {w:World} (hx:zC w bx (XC ca cc gt ot tc gs bx (.slice (some ⟨g2,0,none⟩) 1 cap) fn an a0 a1 a2 a3 a4 ex (.slice (some ⟨fg,0,none⟩) 0 0))) (hs:zP w gs v ([⟨1,1,1,-1⟩]:List Nd)) (hT:zAV w) (hlo:B <= gs /\ B <= bx /\ gs ≠ bx /\ (∀ k,v.ownBlock=some k -> B <= k /\ k ≠ bx)) (hcap:2 <= cap):Calls Tryz.prog 73 #[(.pointer (some ⟨bx,0,none⟩))] w fun e w'=>e=.returned (.tuple #[]) /\ ∃ v6,zC w' bx (XC ca cc gt ot tc gs bx (.slice (some ⟨g2,0,none⟩) 0 cap) fn 2 a0 a1 a2 a3 a4 ex (.slice (some ⟨fg,0,none⟩) 0 0)) /\ zP w' gs v6 ([]:List Nd) /\ (∀ k,v6.ownBlock=some k -> B <= k /\ k ≠ bx) /\ Keeps (fun q=>B <= q) w w':=by
 have HX:=Lib.hid hx;have HLO:=Lib.hid hlo
 have HTK:Hid (Calls Tryz.prog 110 #[(.pointer (some ⟨gs,0,none⟩))] w (zAR w gs v (.tuple #[.int .i64 0, .bool false]) ([⟨1,1,1,-1⟩]:List Nd))):=by
  have:=zFB w gs v ([⟨1,1,1,-1⟩]:List Nd) hs (J168 _) hT
  rw [zNk] at this;exact this
 have y:=hx.cellW (k:=3) rfl;have k0:=zH w;have HSZ:Hid (gs < w.heap.size /\ bx < w.heap.size):=⟨World.block_lt_of_cell? w _ hs.cell0,hx.lt (by simp [XC])⟩;clear hx hs hT hlo;go_enter Tryz.func73,Tryz.ntmps73
 go_upto_region 2 with (go_at_call 110;refine HTK.out.mono ?_;rintro e w1 ⟨v1,rfl,s1,k1,o1⟩;have HS1:=Lib.hid s1;have HK1:=Lib.hid k1;have HO1:Hid (∀ k,v1.ownBlock=some k -> v.ownBlock=some k \/ w.heap.size <= k):=o1;clear s1 k1 o1 y k0)
 have HX1:=Lib.hid (HX.out.keeps HK1.out (fun e=>by exact J160 _))
 have HV1:Hid (∀ k,v1.ownBlock=some k -> B <= k /\ k ≠ bx):=fun k e=>by
  exact J31 _
 have HBK:=Lib.hid (zNZ HX1.out HS1.out ⟨HLO.out.1,HLO.out.2.1,HLO.out.2.2.1,HV1.out⟩ hcap);exact J42 _
end Go.Proofs.YtoapgjjepiopbaaGreatDoor
