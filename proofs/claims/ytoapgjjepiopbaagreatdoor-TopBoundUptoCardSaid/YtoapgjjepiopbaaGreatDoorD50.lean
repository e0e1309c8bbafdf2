/- Layer D: texts joined. -/
import Derived.Test.YtoapgjjepiopbaaGreatDoorD49
set_option linter.all false
set_option maxHeartbeats 4000000
set_option maxRecDepth 8000
namespace Go.Proofs.YtoapgjjepiopbaaGreatDoor
open Go.RowKit
theorem J35(P:Prop) (h:P:=by
 rcases HO1.out k e with h|h
 ·exact HLO.out.2.2.2 k h
 ·have h1:=HSZ.out
  have h4:=HLO.out.1;exact⟨by omega,by omega⟩):P:=h
theorem J48(P:Prop) (h:P:=by
 go_wp2_with (go_at_call 111;refine HBK.out.mono ?_;rintro e w2 ⟨rfl,hp⟩;have HP:=yA hp;clear hp)
 go_returns
 obtain⟨v6,h1,h2,h3,h4⟩:=HP.out;exact⟨rfl,v6,h1,h2,h3,(HK1.out.mono (λq _ e=>by rcases e with e|e;have:=HLO.out.1;show B<=q;omega;exact(HLO.out.2.2.2 q e).1)).trans h4 (λ_ _ h=>h)⟩):P:=h
theorem J194(P:Prop)(h:P:=by have e':k=bx:=e2;subst e';rcases e with e|e;exact HLO.out.2.2.1 e.symm;exact(HV1.out _ e).2 rfl):P:=h
theorem J244(P:Prop)(h:P:=by rcases e with e|e;have:=HLO.out.1;show B<=q;omega;exact(HLO.out.2.2.2 q e).1):P:=h
theorem zP5:takeN [⟨0,1,0,-1⟩]=(0,true,[⟨0,1,0,0⟩]):=by rfl
theorem VmC.apart{b gc gi gf:Nat}{c1 oa ra:Option Addr}{c2 oc rc kc ki kf:Nat}{st:Int}{w:World}(h:VmC w b st c1 oa ra c2 oc rc gc gi gf kc ki kf){ca:Option Addr}{cc gt ot tc gs bx:Nat}{nx ex fo:Value}{fn:Fn}{an a0 a1 a2 a3 a4:Int}(hx:zB w bx (XC ca cc gt ot tc gs bx nx fn an a0 a1 a2 a3 a4 ex fo)):b≠bx/\gc≠bx/\gi≠bx/\gf≠bx:=by
 have x0:=hx.cell (k:=0) rfl;have x1:=hx.cell (k:=1) rfl;refine⟨λe=>?_,λe=>?_,λe=>?_,λe=>?_⟩ <;> subst e
 ·have:=h.row.cell (k:=1) rfl
  rw[this] at x1;simp at x1
 ·have:=h.code.cell (k:=0) rfl
  rw[this] at x0;simp at x0
 ·have:=h.ins.cell (k:=0) rfl
  rw[this] at x0;simp at x0
 ·have:=h.fr.cell (k:=0) rfl
  rw[this] at x0;simp at x0
theorem zQX{ca:Option Addr}{cc gt ot tc gI gs bx B:Nat}{ex fo v:Value}{an a0 a1 a2 a3 a4:Int}{w:World}(hx:zB w bx (XC ca cc gt ot tc gs bx (.slice none 0 0) (.func 34) an a0 a1 a2 a3 a4 ex fo))(hs:zQ w gs v [])(hi:zDb w gt ot gI)(hT:zAq w)(hlo:B<=gs/\B<=bx/\gs≠bx/\(∀k,v.ownBlock=some k->B<=k/\k≠bx))(him:gt<B/\gI<B/\3<B):
 Calls Tryz.prog 34 #[(.pointer (some ⟨bx,0,none⟩))] w λe w'=>e=.returned (.tuple #[])/\∃(v6:Value)(gn cn:Nat)(u:Option Addr × Nat),zB w' bx (XC ca cc gt ot tc gs bx (.slice (some ⟨gn,0,none⟩) 1 cn) (.func 73) an a0 a1 a2 a3 a4 ex fo)/\zQ w' gs v6 ([⟨0,1,0,-1⟩]:List Nd)/\w'.ownsRow 0 32 1 (.slice (some ⟨gn,0,none⟩) 1 cn) 1 [.slice u.1 1 u.2]/\(B<=gn/\gn≠bx/\gn≠gs/\v6.ownBlock≠some gn)/\(∀k,v6.ownBlock=some k->B<=k/\k≠bx)/\Keeps (λq=>B<=q) w w':=by
 have HX:=yA hx;have HS:=yA hs;have HI:=yA hi;have HT:=yA hT;have HLO:=yA hlo;have HIM:=yA him;have y:=hx.cell (k:=5) rfl;have f:=hx.free (k:=5) (by simp[XC]);clear hx hs hi hT hlo him;have hmf:∀(fn:Fn)(first cap:Array Value)(w:World),(Instr.makeFunc fn first cap).run Tryz.prog w=.ok (.func fn first cap) w:=λ_ _ _ _=>rfl
 go_enter Tryz.func34,Tryz.ntmps34
 go_upto_region 1 with fail
 have ra:zB (w.setCell ⟨bx,5,none⟩ (.func (.func 73) #[(.pointer (some ⟨bx,0,none⟩))] #[])) bx (XC ca cc gt ot tc gs bx (.slice none 0 0) (.func 73) an a0 a1 a2 a3 a4 ex fo):=HX.out.set 5 (by simp[XC]) (.func (.func 73) #[(.pointer (some ⟨bx,0,none⟩))] #[]);have ka:Keeps (λq=>q=bx) w (w.setCell ⟨bx,5,none⟩ (.func (.func 73) #[(.pointer (some ⟨bx,0,none⟩))] #[])):=(yB (λq=>q=bx) w).setCell (p:=⟨bx,5,none⟩) (λ_=>rfl) _;generalize (w.setCell ⟨bx,5,none⟩ (.func (.func 73) #[(.pointer (some ⟨bx,0,none⟩))] #[]))=w1 at ra ka ⊢;have HX1:=yA ra;have HK1:=yA ka;clear ra ka y f;have HB:Hid (∀q,q<B->¬q=bx):=λq h e=>by have:=HLO.out.2.1;omega
 have HI1:=yA (HI.out.keeps HK1.out (HB.out _ HIM.out.1) (HB.out _ HIM.out.2.1));have HS1:=yA (HS.out.keeps HK1.out (λk e e2=>by have e':k=bx:=e2;subst e';rcases e with e|e;exact HLO.out.2.2.1 e.symm;exact(HLO.out.2.2.2 _ e).2 rfl));have HT1:Hid (zAq w1):=λj hj=>HK1.out.cell (HB.out _ HIM.out.2.2) (HT.out j hj)
 go_upto_region 2 with(go_at_call 74;refine(zRx HX1.out HI1.out HS1.out).mono ?_;rintro e w2 ⟨b,c1,oa,ra,c2,oc,rc,gc,gi,gf,kc,ki,kf,rfl,g1,g2⟩;have HM2:=yA g1;have HK2:=yA g2;clear g1 g2)
 have HA:=yA (zSF (B:=B) (HX1.out.keeps HK2.out (λh=>h)) (HS1.out.keeps HK2.out (λ_ _ h=>h)) HM2.out (λj hj=>HK2.out.cell (λh=>h) (HT1.out j hj)) HLO.out);go_wp2_with (go_at_call 75;refine HA.out.mono ?_;rintro e w3 ⟨rfl,hp⟩;have HP:=yA hp;clear hp)
 go_returns
 obtain⟨v6,gn,cn,u,h1,h2,h3,h4,h5,h6⟩:=HP.out;exact⟨rfl,v6,gn,cn,u,h1,h2,h3,h4,h5,((HK1.out.mono (λq _ e=>by have e':q=bx:=e;have:=HLO.out.2.1;show B<=q;omega)).trans HK2.out (λ_ _ h=>h.elim)).trans h6 (λ_ _ h=>h)⟩
theorem zRs{ca:Option Addr}{cc gt ot tc gI gs bx B:Nat}{v:Value}{fn:Fn}{an a1 a2:Int}{w:World}{gn cn:Nat}{u:Option Addr × Nat}(hx:zB w bx (XC ca cc gt ot tc gs bx (.slice (some ⟨gn,0,none⟩) 1 cn) fn an 0 a1 a2 0 0 (.slice none 0 0) (.slice none 0 0)))(hs:zQ w gs v ([⟨0,1,0,-1⟩]:List Nd))(hi:zDb w gt ot gI)(hT:zAq w)(hlo:B<=gs/\B<=bx/\gs≠bx/\(∀k,v.ownBlock=some k->B<=k/\k≠bx))(him:gt<B/\gI<B/\3<B)(hn:w.ownsRow 0 32 1 (.slice (some ⟨gn,0,none⟩) 1 cn) 1 [.slice u.1 1 u.2])(hg:B<=gn/\gn≠bx/\gn≠gs/\v.ownBlock≠some gn):
 Calls Tryz.prog 73 #[(.pointer (some ⟨bx,0,none⟩))] w λe w'=>e=.returned (.tuple #[])/\∃v6 g2 cap ex fg,zB w' bx (XC ca cc gt ot tc gs bx (.slice (some ⟨g2,0,none⟩) 2 cap) fn an 1 a1 a2 1 1 ex (.slice (some ⟨fg,0,none⟩) 0 0))/\zQ w' gs v6 ([⟨0,1,0,0⟩,⟨0,0,0,-1⟩]:List Nd)/\2<=cap/\(∀k,v6.ownBlock=some k->B<=k/\k≠bx)/\Keeps (λq=>B<=q) w w':=by
 have HX:=yA hx;have HS:=yA hs;have HI:=yA hi;have HT:=yA hT;have HLO:=yA hlo;have HIM:=yA him;have HN:=yA hn;have HG:=yA hg
 have HTK:Hid (Calls Tryz.prog 110 #[(.pointer (some ⟨gs,0,none⟩))] w (zAi w gs v (.tuple #[(0:Int),true]) ([⟨0,1,0,0⟩]:List Nd))):=by
  have:=zGo w gs v ([⟨0,1,0,-1⟩]:List Nd) hs (J180 _) hT
  rw[zP5] at this;exact this
 have HSZ:Hid (gs<w.heap.size/\bx<w.heap.size/\gn<w.heap.size):=⟨yR w _ hs.cell0,hx.lt (by simp[XC]),zM hn rfl⟩;have y:=hx.cellW (k:=3) rfl;have k0:=zF w;clear hx hs hi hT hlo him hn hg;go_enter Tryz.func73,Tryz.ntmps73
 go_upto_region 1 with(go_at_call 110;refine HTK.out.mono ?_;rintro e w1 ⟨v1,rfl,s1,k1,o1⟩;have HS1:=yA s1;have HK1:=yA k1;have HO1:Hid (∀k,v1.ownBlock=some k->v.ownBlock=some k\/w.heap.size<=k):=o1;clear s1 k1 o1 y k0)
 have HB:Hid (∀q,q<B->¬zNy gs v q):=λq h e=>by rcases e with e|e;have:=HLO.out.1;omega;have:=(HLO.out.2.2.2 q e).1;omega
 have HX1:=yA (HX.out.keeps HK1.out (λe=>by exact J176 _));have HI1:=yA (HI.out.keeps HK1.out (HB.out _ HIM.out.1) (HB.out _ HIM.out.2.1));have HT1:Hid (zAq w1):=λj hj=>HK1.out.cell (HB.out _ HIM.out.2.2) (HT.out j hj)
 have HN1:=yA (zD HN.out HK1.out (λq e e2=>by exact J243 _))
 have HV1:Hid ((∀k,v1.ownBlock=some k->B<=k/\k≠bx)/\v1.ownBlock≠some gn/\∀k,v1.ownBlock=some k->k<w1.heap.size):=by
  refine⟨λk e=>?_,λe=>?_,λk e=>zM HS1.out.own e⟩
  ·exact J35 _
  ·rcases HO1.out gn e with h|h
   ·exact HG.out.2.2.2 h
   ·have:=HSZ.out.2.2
    omega
 have y:=HX1.out.cellW (k:=3) rfl;have k1:=zF w1;go_upto_region 4 with(go_at_call 112;refine(zCk w1 gs v1 ([⟨0,1,0,0⟩]:List Nd) HS1.out).mono ?_;rintro e w' ⟨rfl,rfl⟩)
 go_upto_region 5 with(go_at_call 113;refine(zM2 w1 gs v1 ([⟨0,1,0,0⟩]:List Nd) 0 HS1.out (J180 _)).mono ?_;rintro e w2 ⟨e2,h2⟩;have HK2:Hid (Keeps zA w1 w2):=kP h2 _;have e2:e=.returned (.tuple #[.agg #[.int .u64 0,.int .u64 1,.int .u64 0,(0:Int)],true]):=e2;subst e2;clear h2 y k1)
 obtain⟨b5,w3,e1,e2,R3,K3,_⟩:=newRow w2 [.int .u64 0,.int .u64 1,.int .u64 0,(0:Int)] 211;rw[e1,e2];have HK3:Hid (Keeps zA w1 w3):=HK2.out.zC K3;have HB5:Hid (b5≠bx):=by have h1:=HSZ.out.2.1;have h2:=HK2.out.size;have h3:=HK1.out.size;have h4:=e1.symm;show b5≠bx;omega
 have HR3:=yA R3;clear e1 e2 R3 K3;have HPL:=yA (zRo (HX1.out.keeps HK3.out (λh=>h)) (HI1.out.zG HK3.out) (HS1.out.keeps HK3.out (λ_ _ h=>h)));go_upto_region 6 with(go_at_call 74;refine HPL.out.mono ?_;rintro e w4 ⟨b,c1,oa,ra,c2,oc,rc,gc,gi,gf,kc,ki,kf,gl,cl,rfl,g1,g2,g3,g4,g5⟩;have HM4:=yA g1;have HL4:=yA g2;have HCL:=yA g3;have HGL:Hid (w1.heap.size<=gl):=yX HK3.out.size g4;have HK4:=yA (HK3.out.zC g5);have HR4:=yA (HR3.out.keeps g5 (λh=>h));clear g1 g2 g3 g4 g5)
 have HX4:=yA (HX1.out.keeps HK4.out (λh=>h))
 have HGX:Hid (gl≠bx/\gl≠gs/\gl≠gn/\v1.ownBlock≠some gl):=by
  have h1:=HSZ.out;have h2:=HK1.out.size;have h3:=HGL.out;exact⟨by omega,by omega,by omega,λe=>by have:=HV1.out.2.2 gl e;omega⟩
 have y:=HX4.out.cell (k:=10) rfl;have f:=HX4.out.free (k:=10) (by simp[XC]);go_upto_region 7 with fail
 have ra:zB (w4.setCell ⟨bx,10,none⟩ (.int .i64 1)) bx (XC ca cc gt ot tc gs bx (.slice (some ⟨gn,0,none⟩) 1 cn) fn an 0 a1 a2 1 0 (.slice none 0 0) (.slice none 0 0)):=HX4.out.set 10 (by simp[XC]) (.int .i64 1);have ka:Keeps (λq=>q=bx) w4 (w4.setCell ⟨bx,10,none⟩ (.int .i64 1)):=(yB (λq=>q=bx) w4).setCell (p:=⟨bx,10,none⟩) (λ_=>rfl) _;generalize (w4.setCell ⟨bx,10,none⟩ (.int .i64 1))=w5 at ra ka ⊢;have HX5:=yA ra;have HK5:=yA ka;clear ra ka y f;have y:=HX5.out.cell (k:=11) rfl;have f:=HX5.out.free (k:=11) (by simp[XC]);go_upto_region 8 with fail
 have hmx:max (0:Int) 1=1:=rfl;rw[hmx];have ra:zB (w5.setCell ⟨bx,11,none⟩ (.int .i64 1)) bx (XC ca cc gt ot tc gs bx (.slice (some ⟨gn,0,none⟩) 1 cn) fn an 0 a1 a2 1 1 (.slice none 0 0) (.slice none 0 0)):=HX5.out.set 11 (by simp[XC]) (.int .i64 1);have ka:Keeps (λq=>q=bx) w5 (w5.setCell ⟨bx,11,none⟩ (.int .i64 1)):=(yB (λq=>q=bx) w5).setCell (p:=⟨bx,11,none⟩) (λ_=>rfl) _;generalize (w5.setCell ⟨bx,11,none⟩ (.int .i64 1))=w6 at ra ka ⊢;have HX6:=yA ra;have HK6:Hid (Keeps (λq=>q=bx) w4 w6):=HK5.out.trans ka (λ_ _ h=>h);clear ra ka y f hmx;have HL6:=yA (HL4.out.keeps HK6.out HGX.out.1);go_upto_region 9 with(go_at_call 114;refine(zQC w6 _ cl (xE HL6.out) HCL.out).mono ?_;rintro e w7 ⟨gd,rfl,g1,g2⟩;have HD7:=yA g1;have HK7:=yA g2;clear g1 g2)
 go_upto_region 10 with(go_at_call 115;refine(zPD w7 bx gd 1 HD7.out).mono ?_;rintro e w' ⟨rfl,rfl⟩)
 have HK47:Hid (Keeps (λq=>q=bx) w4 w7):=HK6.out.trans HK7.out (λ_ _ h=>h.elim);have HBX:Hid (∀q,q<B->¬q=bx):=λq h e=>by have:=HLO.out.2.1;omega
 have HX7:=yA (HX6.out.keeps HK7.out (λh=>h));have HL7:=yA (HL6.out.keeps HK7.out (λh=>h));have HR7:=yA (HR4.out.keeps HK47.out HB5.out);have HN7:=yA (zD (zD HN1.out HK4.out (λ_ _ h=>h)) HK47.out (λq e e2=>by rw[zBQ e] at e2;exact HG.out.2.1 e2));have HS7:=yA ((HS1.out.keeps HK4.out (λ_ _ h=>h)).keeps HK47.out (λk e e2=>by have e':k=bx:=e2;subst e';rcases e with e|e;exact HLO.out.2.2.1 e.symm;exact(HV1.out.1 _ e).2 rfl))
 have HM7:Hid (VmC w7 b 3 c1 oa ra c2 oc rc gc gi gf kc ki kf):=by
  obtain⟨h1,h2,h3,h4⟩:=HM4.out.apart HX4.out;exact HM4.out.keeps HK47.out h1 h2 h3 h4
 have HT7:Hid (zAq w7):=λj hj=>HK47.out.cell (HBX.out _ HIM.out.2.2) (HK4.out.cell (λh=>h) (HT1.out j hj))
 have y:∀W,Keeps zA w7 W->W.cell? ⟨bx,4,none⟩=some (.slice (some ⟨gn,0,none⟩) 1 cn)/\W.cell? ⟨gn,0,none⟩=some (.slice u.1 1 u.2)/\W.cell? ⟨b5,0,none⟩=some (.int .u64 0):=λW q=>⟨HX7.out.cellW rfl W q,(uB HN7.out).cellW rfl W q,HR7.out.cellW rfl W q⟩
 have z:=HL7.out.five;have k7:=zF w7;refine zBG 19 (by kernel_rfl) [some ((.pointer (some ⟨bx,0,none⟩))),some ((.pointer (some ⟨b5,0,none⟩))),some (.int .u64 0),some ((.pointer (some ⟨bx,0,none⟩))),some ((.pointer (some ⟨bx,0,none⟩))),some ((.pointer (some ⟨bx,4,none⟩))),some (.slice (some ⟨gn,0,none⟩) 1 cn),some (.int .i64 0),some ((.pointer (some ⟨gn,0,none⟩))),some (.slice u.1 1 u.2),some (.slice (some ⟨gl,0,none⟩) 1 cl),some (.slice (some ⟨gl,0,none⟩) 1 cl),some (.int .i64 1),some (.int .i64 0),some ((.pointer (some ⟨gl,0,none⟩))),some (.agg #[(0:Int),(9:Int),(0:Int),(0:Int),(0:Int)]),some (.int .u64 0),some ((.pointer (some ⟨b,0,none⟩))),some (.slice (some ⟨gl,0,none⟩) 1 cl)] rfl (λ_ _ _=>False) (λ_ _ _ _ h _=>h) ?_ ?_
 ·refine⟨?_,?_,?_,?_,?_,?_,?_,?_,?_,?_,?_,?_,?_,?_,?_,?_,?_,?_,?_,trivial⟩ <;> (intro vs gs W Q' hR hd hK;have HRW:Keeps zA w7 W:=((zF w7).drew).zC hR;simp only[zBK,zAt,zBo,zJ,tz,Option.bind,Act.put] at hd hK ⊢;try simp only[hd] at hK ⊢)
  all_goals try(try clear hd;go_wp2_with (go_at_call 116;refine(zOc u.1 1 u.2 W).mono ?_;rintro e W1 ⟨rfl,g1⟩);first|exact hK _ _ (yB _ _) rfl|exact hK _ _ (kP g1 _) rfl)
 ·intro vs W hR hFF
  have HRW:Keeps zA w7 W:=((zF w7).drew).zC hR;have e0:vs 0=_:=hFF 0 (by decide);have e16:vs 16=_:=hFF 16 (by decide);have e17:vs 17=_:=hFF 17 (by decide);have e18:vs 18=_:=hFF 18 (by decide);simp only[zJ,tz,Option.bind,Act.put];rw[e0,e16,e17,e18];have HA:=yA (zSH (B:=B) (HX7.out.keeps HRW (λh=>h)) (HS7.out.keeps HRW (λ_ _ h=>h)) (HM7.out.zG HRW) (λj hj=>HRW.cell (λh=>h) (HT7.out j hj)) ⟨HLO.out.1,HLO.out.2.1,HLO.out.2.2.1,HV1.out.1⟩ (zD HN7.out HRW (λ_ _ h=>h)) ⟨HG.out.1,HG.out.2.1,HG.out.2.2.1,HV1.out.2.1⟩ (HL7.out.keeps HRW (λh=>h)) HCL.out HGX.out);have HKW:=yA HRW;clear hFF e0 e16 e17 e18 hR HRW y z k7;go_wp2_with (go_at_call 75;refine HA.out.mono ?_;rintro e w8 ⟨rfl,hp⟩;have HP:=yA hp;clear hp)
  go_returns
  obtain⟨v6,g2,cap,ex,fg,h1,h2,h3,h4,h5⟩:=HP.out;refine⟨rfl,v6,g2,cap,ex,fg,h1,h2,h3,h4,((((HK1.out.mono (λq _ e=>?_)).trans HK4.out (λ_ _ h=>h.elim)).trans HK47.out (λq _ e=>?_)).trans HKW.out (λ_ _ h=>h.elim)).trans h5 (λ_ _ h=>h)⟩
  ·rcases e with e|e
   ·have:=HLO.out.1;omega
   ·exact(HLO.out.2.2.2 q e).1
  ·have e':q=bx:=e
   have:=HLO.out.2.1
   omega
theorem zQV:takeN [⟨0,1,0,0⟩,⟨0,0,0,-1⟩]=(0,false,[⟨0,1,0,0⟩,⟨0,0,0,-1⟩]):=by rfl
theorem zQR:takeN [⟨1,1,1,-1⟩]=(0,false,[⟨1,1,1,-1⟩]):=by rfl
theorem zPT:zC6 [⟨0,1,0,0⟩,⟨0,0,0,-1⟩]=(true,[⟨1,1,1,-1⟩]):=by rfl
theorem zOx:zC6 [⟨1,1,1,-1⟩]=(true,[]):=by rfl
theorem zQ2{ca:Option Addr}{cc gt ot tc gs bx B g2 cap fg:Nat}{ex v:Value}{fn:Fn}{an a0 a1 a2 a3 a4:Int}{w:World}(hx:zB w bx (XC ca cc gt ot tc gs bx (.slice (some ⟨g2,0,none⟩) 2 cap) fn an a0 a1 a2 a3 a4 ex (.slice (some ⟨fg,0,none⟩) 0 0)))(hs:zQ w gs v ([⟨0,1,0,0⟩,⟨0,0,0,-1⟩]:List Nd))(hlo:B<=gs/\B<=bx/\gs≠bx/\(∀k,v.ownBlock=some k->B<=k/\k≠bx))(hcap:2<=cap):Calls Tryz.prog 111 #[(.pointer (some ⟨bx,0,none⟩))] w λe w'=>e=.returned (.tuple #[])/\∃v6,zB w' bx (XC ca cc gt ot tc gs bx (.slice (some ⟨g2,0,none⟩) 1 cap) fn an a0 a1 a2 a3 a4 ex (.slice (some ⟨fg,0,none⟩) 0 0))/\zQ w' gs v6 ([⟨1,1,1,-1⟩]:List Nd)/\(∀k,v6.ownBlock=some k->B<=k/\k≠bx)/\Keeps (λq=>B<=q) w w':=by
 have HX:=yA hx;have HS:=yA hs;have HLO:=yA hlo
 have HCL:Hid (Calls Tryz.prog 165 #[(.pointer (some ⟨gs,0,none⟩))] w (zAi w gs v (.bool true) ([⟨1,1,1,-1⟩]:List Nd))):=by
  have:=zHS w gs v ([⟨0,1,0,0⟩,⟨0,0,0,-1⟩]:List Nd) hs (J180 _)
  rw[zPT] at this;exact this
 have y:=hx.cellW (k:=3) rfl;have k0:=zF w;have HSZ:Hid (gs<w.heap.size/\bx<w.heap.size):=⟨yR w _ hs.cell0,hx.lt (by simp[XC])⟩;clear hx hs hlo;go_enter Tryz.func111,Tryz.ntmps111
 go_upto_region 1 with(go_at_call 165;refine HCL.out.mono ?_;rintro e w1 ⟨v1,rfl,s1,k1,o1⟩;have HS1:=yA s1;have HK1:=yA k1;have HO1:Hid (∀k,v1.ownBlock=some k->v.ownBlock=some k\/w.heap.size<=k):=o1;clear s1 k1 o1 y k0)
 have HX1:=yA (HX.out.keeps HK1.out (λe=>by exact J176 _))
 have HV1:Hid (∀k,v1.ownBlock=some k->B<=k/\k≠bx):=λk e=>by
  exact J35 _
 have y:∀W,Keeps zA w1 W->W.cell? ⟨bx,3,none⟩=some ((.pointer (some ⟨gs,0,none⟩)))/\W.cell? ⟨bx,4,none⟩=some (.slice (some ⟨g2,0,none⟩) 2 cap):=λW q=>⟨HX1.out.cellW rfl W q,HX1.out.cellW rfl W q⟩
 have k1:=zF w1;refine zBG 11 (by kernel_rfl) [some ((.pointer (some ⟨bx,0,none⟩))),some ((.pointer (some ⟨bx,0,none⟩))),some ((.pointer (some ⟨bx,0,none⟩))),some ((.pointer (some ⟨bx,4,none⟩))),some (.slice (some ⟨g2,0,none⟩) 2 cap),some ((.pointer (some ⟨bx,0,none⟩))),some ((.pointer (some ⟨bx,0,none⟩))),some ((.pointer (some ⟨bx,3,none⟩))),some ((.pointer (some ⟨gs,0,none⟩))),some (.int .i64 1),some (.slice (some ⟨g2,0,none⟩) 1 cap)] rfl (λ_ _ _=>False) (λ_ _ _ _ h _=>h) ?_ ?_
 ·refine⟨?_,?_,?_,?_,?_,?_,?_,?_,?_,?_,?_,trivial⟩ <;> (intro vs gs W Q' hR hd hK;have HRW:Keeps zA w1 W:=((zF w1).drew).zC hR;simp only[zBK,zAt,zBo,zJ,tz,Option.bind,Act.put] at hd hK ⊢;try simp only[hd] at hK ⊢)
  all_goals try(try clear hd;go_wp2_with (go_at_call 112;refine(zCk W _ v1 ([⟨1,1,1,-1⟩]:List Nd) (HS1.out.keeps HRW (λ_ _ h=>h))).mono ?_;rintro e w' ⟨rfl,rfl⟩);first|exact hK _ _ (yB _ _) rfl)
 ·intro vs W hR hFF
  have HRW:Keeps zA w1 W:=((zF w1).drew).zC hR;have e0:vs 0=_:=hFF 0 (by decide);have e10:vs 10=_:=hFF 10 (by decide);simp only[zJ,tz,Option.bind,Act.put];rw[e0,e10];have HKW:=yA HRW;have HXW:=yA (HX1.out.keeps HRW (λh=>h));have HSW:=yA (HS1.out.keeps HRW (λ_ _ h=>h));have y4:=HXW.out.cell (k:=4) rfl;have f4:=HXW.out.free (k:=4) (by simp[XC]);clear hFF e0 e10 hR HRW y k1;go_upto_region 3 with fail
  have ra:zB (W.setCell ⟨bx,4,none⟩ (.slice (some ⟨g2,0,none⟩) 1 cap)) bx (XC ca cc gt ot tc gs bx (.slice (some ⟨g2,0,none⟩) 1 cap) fn an a0 a1 a2 a3 a4 ex (.slice (some ⟨fg,0,none⟩) 0 0)):=HXW.out.set 4 (by simp[XC]) (.slice (some ⟨g2,0,none⟩) 1 cap);have ka:Keeps (λq=>q=bx) W (W.setCell ⟨bx,4,none⟩ (.slice (some ⟨g2,0,none⟩) 1 cap)):=(yB (λq=>q=bx) W).setCell (p:=⟨bx,4,none⟩) (λ_=>rfl) _;generalize (W.setCell ⟨bx,4,none⟩ (.slice (some ⟨g2,0,none⟩) 1 cap))=w2 at ra ka ⊢;have HX2:=yA ra;have HK2:=yA ka;clear ra ka y4 f4;have HS2:=yA (HSW.out.keeps HK2.out (λk e e2=>by exact J194 _));have HK02:Hid (Keeps (λq=>B<=q) w w2):=((HK1.out.mono (λq _ e=>by exact J244 _)).trans HKW.out (λ_ _ h=>h.elim)).trans HK2.out (λq _ e=>by exact J203 _);have y:∀W,Keeps zA w2 W->W.cell? ⟨bx,3,none⟩=some ((.pointer (some ⟨gs,0,none⟩)))/\W.cell? ⟨bx,13,none⟩=some (.slice (some ⟨fg,0,none⟩) 0 0):=λW q=>⟨HX2.out.cellW rfl W q,HX2.out.cellW rfl W q⟩
  have k2:=zF w2;go_wp2_with (go_at_call 112;refine(zCk w2 gs v1 ([⟨1,1,1,-1⟩]:List Nd) HS2.out).mono ?_;rintro e w' ⟨rfl,rfl⟩)
  go_returns
  exact⟨rfl,v1,HX2.out,HS2.out,HV1.out,HK02.out⟩
theorem zR2{ca:Option Addr}{cc gt ot tc gs bx B g2 cap fg:Nat}{ex v:Value}{fn:Fn}{an a0 a1 a2 a3 a4:Int}{w:World}(hx:zB w bx (XC ca cc gt ot tc gs bx (.slice (some ⟨g2,0,none⟩) 2 cap) fn an a0 a1 a2 a3 a4 ex (.slice (some ⟨fg,0,none⟩) 0 0)))(hs:zQ w gs v ([⟨0,1,0,0⟩,⟨0,0,0,-1⟩]:List Nd))(hT:zAq w)(hlo:B<=gs/\B<=bx/\gs≠bx/\(∀k,v.ownBlock=some k->B<=k/\k≠bx))(hcap:2<=cap):Calls Tryz.prog 73 #[(.pointer (some ⟨bx,0,none⟩))] w λe w'=>e=.returned (.tuple #[])/\∃v6,zB w' bx (XC ca cc gt ot tc gs bx (.slice (some ⟨g2,0,none⟩) 1 cap) fn an a0 a1 a2 a3 a4 ex (.slice (some ⟨fg,0,none⟩) 0 0))/\zQ w' gs v6 ([⟨1,1,1,-1⟩]:List Nd)/\(∀k,v6.ownBlock=some k->B<=k/\k≠bx)/\Keeps (λq=>B<=q) w w':=by
 have HX:=yA hx;have HLO:=yA hlo
 have HTK:Hid (Calls Tryz.prog 110 #[(.pointer (some ⟨gs,0,none⟩))] w (zAi w gs v (.tuple #[(0:Int),false]) ([⟨0,1,0,0⟩,⟨0,0,0,-1⟩]:List Nd))):=by
  have:=zGo w gs v ([⟨0,1,0,0⟩,⟨0,0,0,-1⟩]:List Nd) hs (J180 _) hT
  rw[zQV] at this;exact this
 have y:=hx.cellW (k:=3) rfl;have k0:=zF w;have HSZ:Hid (gs<w.heap.size/\bx<w.heap.size):=⟨yR w _ hs.cell0,hx.lt (by simp[XC])⟩;clear hx hs hT hlo;go_enter Tryz.func73,Tryz.ntmps73
 go_upto_region 2 with(go_at_call 110;refine HTK.out.mono ?_;rintro e w1 ⟨v1,rfl,s1,k1,o1⟩;have HS1:=yA s1;have HK1:=yA k1;have HO1:Hid (∀k,v1.ownBlock=some k->v.ownBlock=some k\/w.heap.size<=k):=o1;clear s1 k1 o1 y k0)
 have HX1:=yA (HX.out.keeps HK1.out (λe=>by exact J176 _))
 have HV1:Hid (∀k,v1.ownBlock=some k->B<=k/\k≠bx):=λk e=>by
  exact J35 _
 have HBK:=yA (zQ2 HX1.out HS1.out ⟨HLO.out.1,HLO.out.2.1,HLO.out.2.2.1,HV1.out⟩ hcap);exact J48 _
theorem zQE{ca:Option Addr}{cc gt ot tc gs bx B g2 cap fg:Nat}{ex v:Value}{fn:Fn}{an a0 a1 a2 a3 a4:Int}{w:World}(hx:zB w bx (XC ca cc gt ot tc gs bx (.slice (some ⟨g2,0,none⟩) 1 cap) fn an a0 a1 a2 a3 a4 ex (.slice (some ⟨fg,0,none⟩) 0 0)))(hs:zQ w gs v ([⟨1,1,1,-1⟩]:List Nd))(hlo:B<=gs/\B<=bx/\gs≠bx/\(∀k,v.ownBlock=some k->B<=k/\k≠bx))(hcap:2<=cap):Calls Tryz.prog 111 #[(.pointer (some ⟨bx,0,none⟩))] w λe w'=>e=.returned (.tuple #[])/\∃v6,zB w' bx (XC ca cc gt ot tc gs bx (.slice (some ⟨g2,0,none⟩) 0 cap) fn 2 a0 a1 a2 a3 a4 ex (.slice (some ⟨fg,0,none⟩) 0 0))/\zQ w' gs v6 ([]:List Nd)/\(∀k,v6.ownBlock=some k->B<=k/\k≠bx)/\Keeps (λq=>B<=q) w w':=by
 have HX:=yA hx;have HS:=yA hs;have HLO:=yA hlo
 have HCL:Hid (Calls Tryz.prog 165 #[(.pointer (some ⟨gs,0,none⟩))] w (zAi w gs v (.bool true) ([]:List Nd))):=by
  have:=zHS w gs v ([⟨1,1,1,-1⟩]:List Nd) hs (J180 _)
  rw[zOx] at this;exact this
 have y:=hx.cellW (k:=3) rfl;have k0:=zF w;have HSZ:Hid (gs<w.heap.size/\bx<w.heap.size):=⟨yR w _ hs.cell0,hx.lt (by simp[XC])⟩;clear hx hs hlo;go_enter Tryz.func111,Tryz.ntmps111
 go_upto_region 1 with(go_at_call 165;refine HCL.out.mono ?_;rintro e w1 ⟨v1,rfl,s1,k1,o1⟩;have HS1:=yA s1;have HK1:=yA k1;have HO1:Hid (∀k,v1.ownBlock=some k->v.ownBlock=some k\/w.heap.size<=k):=o1;clear s1 k1 o1 y k0)
 have HX1:=yA (HX.out.keeps HK1.out (λe=>by exact J176 _))
 have HV1:Hid (∀k,v1.ownBlock=some k->B<=k/\k≠bx):=λk e=>by
  exact J35 _
 have y:∀W,Keeps zA w1 W->W.cell? ⟨bx,3,none⟩=some ((.pointer (some ⟨gs,0,none⟩)))/\W.cell? ⟨bx,4,none⟩=some (.slice (some ⟨g2,0,none⟩) 1 cap):=λW q=>⟨HX1.out.cellW rfl W q,HX1.out.cellW rfl W q⟩
 have k1:=zF w1;refine zBG 11 (by kernel_rfl) [some ((.pointer (some ⟨bx,0,none⟩))),some ((.pointer (some ⟨bx,0,none⟩))),some ((.pointer (some ⟨bx,0,none⟩))),some ((.pointer (some ⟨bx,4,none⟩))),some (.slice (some ⟨g2,0,none⟩) 1 cap),some ((.pointer (some ⟨bx,0,none⟩))),some ((.pointer (some ⟨bx,0,none⟩))),some ((.pointer (some ⟨bx,3,none⟩))),some ((.pointer (some ⟨gs,0,none⟩))),some (.int .i64 0),some (.slice (some ⟨g2,0,none⟩) 0 cap)] rfl (λ_ _ _=>False) (λ_ _ _ _ h _=>h) ?_ ?_
 ·refine⟨?_,?_,?_,?_,?_,?_,?_,?_,?_,?_,?_,trivial⟩ <;> (intro vs gs W Q' hR hd hK;have HRW:Keeps zA w1 W:=((zF w1).drew).zC hR;simp only[zBK,zAt,zBo,zJ,tz,Option.bind,Act.put] at hd hK ⊢;try simp only[hd] at hK ⊢)
  all_goals try(try clear hd;go_wp2_with (go_at_call 112;refine(zCk W _ v1 ([]:List Nd) (HS1.out.keeps HRW (λ_ _ h=>h))).mono ?_;rintro e w' ⟨rfl,rfl⟩);first|exact hK _ _ (yB _ _) rfl)
 ·intro vs W hR hFF
  have HRW:Keeps zA w1 W:=((zF w1).drew).zC hR;have e0:vs 0=_:=hFF 0 (by decide);have e10:vs 10=_:=hFF 10 (by decide);simp only[zJ,tz,Option.bind,Act.put];rw[e0,e10];have HKW:=yA HRW;have HXW:=yA (HX1.out.keeps HRW (λh=>h));have HSW:=yA (HS1.out.keeps HRW (λ_ _ h=>h));have y4:=HXW.out.cell (k:=4) rfl;have f4:=HXW.out.free (k:=4) (by simp[XC]);clear hFF e0 e10 hR HRW y k1;go_upto_region 3 with fail
  have ra:zB (W.setCell ⟨bx,4,none⟩ (.slice (some ⟨g2,0,none⟩) 0 cap)) bx (XC ca cc gt ot tc gs bx (.slice (some ⟨g2,0,none⟩) 0 cap) fn an a0 a1 a2 a3 a4 ex (.slice (some ⟨fg,0,none⟩) 0 0)):=HXW.out.set 4 (by simp[XC]) (.slice (some ⟨g2,0,none⟩) 0 cap);have ka:Keeps (λq=>q=bx) W (W.setCell ⟨bx,4,none⟩ (.slice (some ⟨g2,0,none⟩) 0 cap)):=(yB (λq=>q=bx) W).setCell (p:=⟨bx,4,none⟩) (λ_=>rfl) _;generalize (W.setCell ⟨bx,4,none⟩ (.slice (some ⟨g2,0,none⟩) 0 cap))=w2 at ra ka ⊢;have HX2:=yA ra;have HK2:=yA ka;clear ra ka y4 f4;have HS2:=yA (HSW.out.keeps HK2.out (λk e e2=>by exact J194 _));have HK02:Hid (Keeps (λq=>B<=q) w w2):=((HK1.out.mono (λq _ e=>by exact J244 _)).trans HKW.out (λ_ _ h=>h.elim)).trans HK2.out (λq _ e=>by exact J203 _);have y:∀W,Keeps zA w2 W->W.cell? ⟨bx,3,none⟩=some ((.pointer (some ⟨gs,0,none⟩)))/\W.cell? ⟨bx,13,none⟩=some (.slice (some ⟨fg,0,none⟩) 0 0):=λW q=>⟨HX2.out.cellW rfl W q,HX2.out.cellW rfl W q⟩
  have k2:=zF w2;have y6:=HX2.out.cell (k:=6) rfl;have f6:=HX2.out.free (k:=6) (by simp[XC]);go_wp2_with (go_at_call 112;refine(zCk w2 gs v1 ([]:List Nd) HS2.out).mono ?_;rintro e w' ⟨rfl,rfl⟩)
  have rb:zB (w2.setCell ⟨bx,6,none⟩ (.int .i64 2)) bx (XC ca cc gt ot tc gs bx (.slice (some ⟨g2,0,none⟩) 0 cap) fn 2 a0 a1 a2 a3 a4 ex (.slice (some ⟨fg,0,none⟩) 0 0)):=HX2.out.set 6 (by simp[XC]) (.int .i64 2);have kb:Keeps (λq=>q=bx) w2 (w2.setCell ⟨bx,6,none⟩ (.int .i64 2)):=(yB (λq=>q=bx) w2).setCell (p:=⟨bx,6,none⟩) (λ_=>rfl) _;generalize (w2.setCell ⟨bx,6,none⟩ (.int .i64 2))=w3 at rb kb ⊢;go_returns
  exact⟨rfl,v1,rb,HS2.out.keeps kb (λk e e2=>by exact J194 _),HV1.out,HK02.out.trans kb (λq _ e=>by exact J203 _)⟩
theorem zRG{ca:Option Addr}{cc gt ot tc gs bx B g2 cap fg:Nat}{ex v:Value}{fn:Fn}{an a0 a1 a2 a3 a4:Int}{w:World}(hx:zB w bx (XC ca cc gt ot tc gs bx (.slice (some ⟨g2,0,none⟩) 1 cap) fn an a0 a1 a2 a3 a4 ex (.slice (some ⟨fg,0,none⟩) 0 0)))(hs:zQ w gs v ([⟨1,1,1,-1⟩]:List Nd))(hT:zAq w)(hlo:B<=gs/\B<=bx/\gs≠bx/\(∀k,v.ownBlock=some k->B<=k/\k≠bx))(hcap:2<=cap):Calls Tryz.prog 73 #[(.pointer (some ⟨bx,0,none⟩))] w λe w'=>e=.returned (.tuple #[])/\∃v6,zB w' bx (XC ca cc gt ot tc gs bx (.slice (some ⟨g2,0,none⟩) 0 cap) fn 2 a0 a1 a2 a3 a4 ex (.slice (some ⟨fg,0,none⟩) 0 0))/\zQ w' gs v6 ([]:List Nd)/\(∀k,v6.ownBlock=some k->B<=k/\k≠bx)/\Keeps (λq=>B<=q) w w':=by
 have HX:=yA hx;have HLO:=yA hlo
 have HTK:Hid (Calls Tryz.prog 110 #[(.pointer (some ⟨gs,0,none⟩))] w (zAi w gs v (.tuple #[(0:Int),false]) ([⟨1,1,1,-1⟩]:List Nd))):=by
  have:=zGo w gs v ([⟨1,1,1,-1⟩]:List Nd) hs (J180 _) hT
  rw[zQR] at this;exact this
 have y:=hx.cellW (k:=3) rfl;have k0:=zF w;have HSZ:Hid (gs<w.heap.size/\bx<w.heap.size):=⟨yR w _ hs.cell0,hx.lt (by simp[XC])⟩;clear hx hs hT hlo;go_enter Tryz.func73,Tryz.ntmps73
 go_upto_region 2 with(go_at_call 110;refine HTK.out.mono ?_;rintro e w1 ⟨v1,rfl,s1,k1,o1⟩;have HS1:=yA s1;have HK1:=yA k1;have HO1:Hid (∀k,v1.ownBlock=some k->v.ownBlock=some k\/w.heap.size<=k):=o1;clear s1 k1 o1 y k0)
 have HX1:=yA (HX.out.keeps HK1.out (λe=>by exact J176 _))
 have HV1:Hid (∀k,v1.ownBlock=some k->B<=k/\k≠bx):=λk e=>by
  exact J35 _
 have HBK:=yA (zQE HX1.out HS1.out ⟨HLO.out.1,HLO.out.2.1,HLO.out.2.2.1,HV1.out⟩ hcap);exact J48 _
