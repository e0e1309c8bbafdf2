/- Layer D: texts joined. -/
import Derived.Test.YtoapgjjepiopbaaGreatDoorD50
set_option linter.all false
set_option maxHeartbeats 4000000
set_option maxRecDepth 8000
namespace Go.Proofs.YtoapgjjepiopbaaGreatDoor
open Go.RowKit
theorem zSY{ca:Option Addr}{cc gt ot tc gI gs bx B:Nat}{v:Value}{w:World}(hx:zB w bx (XC ca cc gt ot tc gs bx (.slice none 0 0) (.func 34) 1 0 0 0 0 0 (.slice none 0 0) (.slice none 0 0)))(hs:zQ w gs v [])(hv:(∀k,v.ownBlock=some k->B<=k/\k≠bx))(hi:zDb w gt ot gI)(hT:zAq w)(hlo:B<=gs/\B<=bx/\gs≠bx)(him:gt<B/\gI<B/\3<B):
 Calls Tryz.prog 15 #[(.pointer (some ⟨bx,0,none⟩)),(9:Int)] w λe w'=>e=.returned (.tuple #[(2:Int),(0:Int)])/\∃g2 cap ex fg,zB w' bx (XC ca cc gt ot tc gs bx (.slice (some ⟨g2,0,none⟩) 0 cap) (.func 73) 2 1 0 0 1 1 ex (.slice (some ⟨fg,0,none⟩) 0 0))/\Keeps (λq=>B<=q) w w':=by
 have HI:=yA hi;have HT:=yA hT;have HLO:=yA hlo;have HIM:=yA him;have HB:Hid (∀q,q<B->¬B<=q):=λq h e=>by omega
 have HBE:=yA (zQX hx hs hi hT ⟨hlo.1,hlo.2.1,hlo.2.2,hv⟩ him);have y:∀W,Keeps zA w W->W.cell? ⟨bx,5,none⟩=some (.func (.func 34) #[(.pointer (some ⟨bx,0,none⟩))] #[])/\W.cell? ⟨bx,6,none⟩=some (.int .i64 1):=λW q=>⟨hx.cellW rfl W q,hx.cellW rfl W q⟩
 have k0:=zF w;clear hx hs hi hT hlo him hv;go_enter Tryz.func15,Tryz.ntmps15
 go_wp2_with fail
 refine yY 5 ?_
 rw[yQ];go_wp2_with (go_at_call 34;refine HBE.out.mono ?_;rintro e w1 ⟨rfl,v1,gn,cn,u,h1,h2,h3,h4,h5,h6⟩;have HX1:=yA h1;have HS1:=yA h2;have HN1:=yA h3;have HG1:=yA h4;have HV1:=yA h5;have HK1:=yA h6;clear h1 h2 h3 h4 h5 h6 y k0)
 have HI1:=yA (HI.out.keeps HK1.out (HB.out _ HIM.out.1) (HB.out _ HIM.out.2.1));have HT1:Hid (zAq w1):=λj hj=>HK1.out.cell (HB.out _ HIM.out.2.2) (HT.out j hj)
 have HGO:=yA (zRs HX1.out HS1.out HI1.out HT1.out ⟨HLO.out.1,HLO.out.2.1,HLO.out.2.2,HV1.out⟩ HIM.out HN1.out HG1.out);have y:∀W,Keeps zA w1 W->W.cell? ⟨bx,5,none⟩=some (.func (.func 73) #[(.pointer (some ⟨bx,0,none⟩))] #[])/\W.cell? ⟨bx,6,none⟩=some (.int .i64 1):=λW q=>⟨HX1.out.cellW rfl W q,HX1.out.cellW rfl W q⟩
 have k1:=zF w1;rw[yQ];go_wp2_with (go_at_call 73;refine HGO.out.mono ?_;rintro e w2 ⟨rfl,v2,g2,cap,ex,fg,h1,h2,h3,h4,h5⟩;have HX2:=yA h1;have HS2:=yA h2;have HC2:=yA h3;have HV2:=yA h4;have HK2:=yA h5;clear h1 h2 h3 h4 h5 y k1)
 have HT2:Hid (zAq w2):=λj hj=>HK2.out.cell (HB.out _ HIM.out.2.2) (HT1.out j hj)
 have HGB:=yA (zR2 HX2.out HS2.out HT2.out ⟨HLO.out.1,HLO.out.2.1,HLO.out.2.2,HV2.out⟩ HC2.out);have y:∀W,Keeps zA w2 W->W.cell? ⟨bx,5,none⟩=some (.func (.func 73) #[(.pointer (some ⟨bx,0,none⟩))] #[])/\W.cell? ⟨bx,6,none⟩=some (.int .i64 1):=λW q=>⟨HX2.out.cellW rfl W q,HX2.out.cellW rfl W q⟩
 have k2:=zF w2;rw[yQ];go_wp2_with (go_at_call 73;refine HGB.out.mono ?_;rintro e w3 ⟨rfl,v3,h1,h2,h3,h4⟩;have HX3:=yA h1;have HS3:=yA h2;have HV3:=yA h3;have HK3:=yA h4;clear h1 h2 h3 h4 y k2)
 have HT3:Hid (zAq w3):=λj hj=>HK3.out.cell (HB.out _ HIM.out.2.2) (HT2.out j hj)
 have HGC:=yA (zRG HX3.out HS3.out HT3.out ⟨HLO.out.1,HLO.out.2.1,HLO.out.2.2,HV3.out⟩ HC2.out);have y:∀W,Keeps zA w3 W->W.cell? ⟨bx,5,none⟩=some (.func (.func 73) #[(.pointer (some ⟨bx,0,none⟩))] #[])/\W.cell? ⟨bx,6,none⟩=some (.int .i64 1):=λW q=>⟨HX3.out.cellW rfl W q,HX3.out.cellW rfl W q⟩
 have k3:=zF w3;rw[yQ];go_wp2_with (go_at_call 73;refine HGC.out.mono ?_;rintro e w4 ⟨rfl,v4,h1,h2,h3,h4⟩;have HX4:=yA h1;have HK4:=yA h4;clear h1 h2 h3 h4 y k3)
 have y:∀W,Keeps zA w4 W->W.cell? ⟨bx,5,none⟩=some (.func (.func 73) #[(.pointer (some ⟨bx,0,none⟩))] #[])/\W.cell? ⟨bx,6,none⟩=some (.int .i64 2):=λW q=>⟨HX4.out.cellW rfl W q,HX4.out.cellW rfl W q⟩
 have k4:=zF w4;rw[yQ];go_wp2_with fail
 go_ret2
 exact⟨rfl,g2,cap,ex,fg,HX4.out,((HK1.out.trans HK2.out (λ_ _ h=>h)).trans HK3.out (λ_ _ h=>h)).trans HK4.out (λ_ _ h=>h)⟩
theorem zKD(w:World)(hT:zAq w):Calls Tryz.prog 5 #[] w λe w'=>e=.returned true/\Keeps zA w w':=by
 have htb:3<w.heap.size:=yR w _ (hT 0 (by decide));obtain⟨th,w1,x1,z1,R1,K1,_⟩:=newRow w [(0:Int),.slice none 0 0] 48;have hU:zC8 w1 (λk=>k<w1.heap.size) [] [⟨0,[]⟩] none (some ⟨th,0,none⟩):=zRa R1 (R1.lt (by simp)) (λ_ h=>h)
 have HNW:Hid (Calls Tryz.prog 12 #[.agg #[.slice none 0 0,(0:Int),.slice (some ⟨th,0,none⟩) 1 1]] w1 λe w'=>∃(ca:Option Addr)(cc gt ot tc gI gs bx:Nat),e=.returned (.tuple #[(.pointer (some ⟨bx,0,none⟩)),(0:Int)])/\zB w' bx (XC ca cc gt ot tc gs bx (.slice none 0 0) (.func 34) 1 0 0 0 0 0 (.slice none 0 0) (.slice none 0 0))/\zQ w' gs (.slice none 0 0) []/\zDb w' gt ot gI/\(w1.heap.size<=gs/\gs<bx/\gt<gs/\gI<gs)/\Keeps zA w1 w'):=by
  refine(zPJ (mu:=0) 0 1 hU zRg).mono λe w' h=>?_
  obtain⟨bx,gs,nc,nb,ca,ta,tc,he,h1,h2,h3,h4,h5⟩:=h;obtain⟨rfl,rfl,gt,ot,gI,rfl,l1,l2,hi⟩:=h5 rfl rfl;exact⟨ca,0,gt,ot,tc,gI,gs,bx,he,h1,h2,hi,⟨h3.1,h3.2,l1,l2⟩,h4⟩
 have HT1:Hid (zAq w1):=λj hj=>K1.cell (λh=>h) (hT j hj)
 have HTB:Hid (3<w1.heap.size):=yH htb K1.size;have HK1:=yA K1;clear hU R1 K1 hT htb;go_enter Tryz.func5,Tryz.ntmps5
 go_upto_region 2 with(go_at_call 12;refine HNW.out.mono ?_;rintro e w2 ⟨ca,cc,gt,ot,tc,gI,gs,bx,rfl,h1,h2,h3,h4,h5⟩;have HX2:=yA h1;have HS2:=yA h2;have HI2:=yA h3;have HQ2:=yA h4;have HK2:=yA h5;clear h1 h2 h3 h4 h5 x1 z1)
 have HT2:Hid (zAq w2):=λj hj=>HK2.out.cell (λh=>h) (HT1.out j hj)
 have HRU:=yA (zSY (B:=gs) HX2.out HS2.out (λk e=>by exact J170 _) HI2.out HT2.out ⟨yT _,Nat.le_of_lt HQ2.out.2.1,Nat.ne_of_lt HQ2.out.2.1⟩ ⟨HQ2.out.2.2.1,HQ2.out.2.2.2,yH HTB.out HQ2.out.1⟩);go_upto_region 5 with(go_at_call 15;refine HRU.out.mono ?_;rintro e w3 ⟨rfl,g2,cap,ex,fg,h1,h2⟩;have HK3:=yA h2;clear h1 h2)
 have HK03:Hid (Keeps zA w w3):=(HK1.out.zC HK2.out).trans HK3.out (λq hq e=>by have e':gs<=q:=e;have:=HQ2.out.1;have:=HK1.out.size;omega);obtain⟨tj,w4,x4,z4,R4,K4,_⟩:=newRow w3 [(0:Int),.slice none 0 0] 48;have hU:zC8 w4 (λk=>k<w4.heap.size) [] [⟨0,[]⟩] none (some ⟨tj,0,none⟩):=zRa R4 (R4.lt (by simp)) (λ_ h=>h)
 have HW:Hid (Calls Tryz.prog 10 #[.agg #[.slice none 0 0,(0:Int),.slice (some ⟨tj,0,none⟩) 1 1],.slice none 0 0] w4 λe w'=>∃oa oc a1 q1 a2 q2 a3 q3 a4 q4,e=.returned (.tuple #[.slice oa 1 oc,.agg #[.slice a1 0 q1,.slice a2 0 q2,.slice a3 1 q3,.slice a4 1 q4],(0:Int)])/\Keeps zA w4 w'):=by
  have h:=zJE (mu:=0) (ucc:=0) (utc:=1) hU none 0 [] ⟨none,0,rfl,λh=>absurd rfl h⟩ zRg;rw[zNP] at h;refine h.mono λe w' h=>?_
  obtain⟨oa,oc,a1,q1,a2,q2,a3,q3,a4,q4,he,hf,ho⟩:=h;exact⟨oa,oc,a1,q1,a2,q2,a3,q3,a4,q4,he,ho.keeps⟩
 have HK4:Hid (Keeps zA w w4):=HK03.out.zC K4;clear hU R4 K4;go_upto_region 6 with(go_at_call 10;refine HW.out.mono ?_;rintro e w5 ⟨oa,oc,a1,q1,a2,q2,a3,q3,a4,q4,rfl,ho⟩;have HK5:Hid (Keeps zA w w5):=HK4.out.zC ho;clear ho x4 z4)
 obtain⟨b5,w6,e1,e2,R6,K6,_⟩:=newRow w5 [.slice a1 0 q1,.slice a2 0 q2,.slice a3 1 q3,.slice a4 1 q4] 34;rw[e1,e2];have HK6:Hid (Keeps zA w w6):=HK5.out.zC K6;clear e1 e2 R6 K6;go_wp2_with fail
 go_ret
 exact⟨rfl,HK6.out⟩
theorem zPO(nc nb ucc utc:Nat)(mu rv:Int)(uca uta:Option Addr)(s:ByteArray)(w:World)(rowv:Value)
 (HA:Hid (∀W,Keeps zA w W->Calls Tryz.prog 5 #[] W λe w'=>e=.returned true/\Keeps zA W w'))
 (HB:Hid (∀W,Keeps zA w W->(Calls Tryz.prog 6 #[.agg #[.slice uca nc ucc,mu,.slice uta nb utc]] W λe w'=>e=.returned rv/\Keeps zA W w')/\(Calls Tryz.prog 7 #[.agg #[.slice uca nc ucc,mu,.slice uta nb utc]] W λe w'=>e=.returned rv/\Keeps zA W w')))
 (HS:Hid (∀W,Keeps zA w W->Calls Tryz.prog 8 #[.agg #[.slice uca nc ucc,mu,.slice uta nb utc]] W λe w'=>e=.returned (.string s)/\Keeps zA W w')) (hrv:rv=1):Calls Tryz.prog 3 #[.agg #[.slice uca nc ucc,mu,.slice uta nb utc],rowv] w λe w'=>e=.returned true/\Keeps zA w w':=by
 subst hrv;go_enter Tryz.func3,Tryz.ntmps3
 go_upto_region 1 with fail
 obtain⟨b1,w1,e1,e2,R1,K1,_⟩:=newRow w [.slice uca nc ucc,mu,.slice uta nb utc] 25;rw[e1,e2];have HK1:Hid (Keeps zA w w1):=K1;have HR1:=yA R1;clear e1 e2 R1 K1;go_upto_region 2 with(go_at_call 5;refine(HA.out _ HK1.out).mono ?_;rintro e w2 ⟨rfl,g2⟩;have HK2:=yA (HK1.out.zC g2);have HR2:=yA (HR1.out.keeps g2 (λh=>h));clear g2)
 have y:=HR2.out.zA7;have k2:=zF w2;go_upto_region 3 with(go_at_call 6;refine(HB.out _ HK2.out).1.mono ?_;rintro e w3 ⟨rfl,g3⟩;have HK3:=yA (HK2.out.zC g3);have HR3:=yA (HR2.out.keeps g3 (λh=>h));clear g3 y k2)
 have y:=HR3.out.zA7;have k3:=zF w3;go_upto_region 4 with(go_at_call 7;refine(HB.out _ HK3.out).2.mono ?_;rintro e w4 ⟨rfl,g4⟩;have HK4:=yA (HK3.out.zC g4);have HR4:=yA (HR3.out.keeps g4 (λh=>h));clear g4 y k3)
 have y:=HR4.out.zA7;have k4:=zF w4;go_upto_region 5 with(go_at_call 8;refine(HS.out _ HK4.out).mono ?_;rintro e w5 ⟨rfl,g5⟩;have HK5:=yA (HK4.out.zC g5);have HR5:=yA (HR4.out.keeps g5 (λh=>h));clear g5 y k4)
 go_wp2_with fail
 go_ret
 exact⟨rfl,HK5.out⟩
theorem zHj(nc nb ucc utc:Nat)(mu rv:Int)(uca uta:Option Addr)(s:ByteArray)(w:World)(rowv:Value)
 (HA:Hid (∀W,Keeps zA w W->Calls Tryz.prog 5 #[] W λe w'=>e=.returned true/\Keeps zA W w'))
 (HB:Hid (∀W,Keeps zA w W->(Calls Tryz.prog 6 #[.agg #[.slice uca nc ucc,mu,.slice uta nb utc]] W λe w'=>e=.returned rv/\Keeps zA W w')/\(Calls Tryz.prog 7 #[.agg #[.slice uca nc ucc,mu,.slice uta nb utc]] W λe w'=>e=.returned rv/\Keeps zA W w')))
 (HS:Hid (∀W,Keeps zA w W->Calls Tryz.prog 8 #[.agg #[.slice uca nc ucc,mu,.slice uta nb utc]] W λe w'=>e=.returned (.string s)/\Keeps zA W w')) (HN:Hid (∀W,Calls Tryz.prog 9 #[s] W λe w'=>(∃n:Int,e=.returned n/\(3<=s.size\/s.size<=2/\60<n))/\Keeps zA W w')) (hrv:rv=70):Calls Tryz.prog 3 #[.agg #[.slice uca nc ucc,mu,.slice uta nb utc],rowv] w λe w'=>e=.returned true/\Keeps zA w w':=by
 subst hrv;go_enter Tryz.func3,Tryz.ntmps3
 go_upto_region 1 with fail
 obtain⟨b1,w1,e1,e2,R1,K1,_⟩:=newRow w [.slice uca nc ucc,mu,.slice uta nb utc] 25;rw[e1,e2];have HK1:Hid (Keeps zA w w1):=K1;have HR1:=yA R1;clear e1 e2 R1 K1;go_upto_region 2 with(go_at_call 5;refine(HA.out _ HK1.out).mono ?_;rintro e w2 ⟨rfl,g2⟩;have HK2:=yA (HK1.out.zC g2);have HR2:=yA (HR1.out.keeps g2 (λh=>h));clear g2)
 have y:=HR2.out.zA7;have k2:=zF w2;go_upto_region 3 with(go_at_call 6;refine(HB.out _ HK2.out).1.mono ?_;rintro e w3 ⟨rfl,g3⟩;have HK3:=yA (HK2.out.zC g3);have HR3:=yA (HR2.out.keeps g3 (λh=>h));clear g3 y k2)
 have y:=HR3.out.zA7;have k3:=zF w3;go_upto_region 4 with(go_at_call 7;refine(HB.out _ HK3.out).2.mono ?_;rintro e w4 ⟨rfl,g4⟩;have HK4:=yA (HK3.out.zC g4);have HR4:=yA (HR3.out.keeps g4 (λh=>h));clear g4 y k3)
 have y:=HR4.out.zA7;have k4:=zF w4;go_upto_region 5 with(go_at_call 8;refine(HS.out _ HK4.out).mono ?_;rintro e w5 ⟨rfl,g5⟩;have HK5:=yA (HK4.out.zC g5);have HR5:=yA (HR4.out.keeps g5 (λh=>h));clear g5 y k4)
 go_upto_region 8 with(go_at_call 9;refine(HN.out _).mono ?_;rintro e w6 ⟨⟨n,rfl,hl⟩,g6⟩;have HL:=yA hl;have HK6:=yA (HK5.out.zC g6);clear g6 hl)
 rcases HL.out with hl|⟨hl,hn⟩
 ·have h2:(2:Int)<s.size:=by omega
  go_wp2_with fail
  go_ret
  exact⟨rfl,HK6.out⟩
 ·have h2:¬(2:Int)<s.size:=by omega
  go_wp2_with fail
  go_ret
  exact⟨rfl,HK6.out⟩
theorem zLc(nc nb ucc utc:Nat)(mu rv:Int)(uca uta:Option Addr)(s:ByteArray)(w:World)(rowv:Value)
 (HA:Hid (∀W,Keeps zA w W->Calls Tryz.prog 5 #[] W λe w'=>e=.returned true/\Keeps zA W w'))
 (HB:Hid (∀W,Keeps zA w W->(Calls Tryz.prog 6 #[.agg #[.slice uca nc ucc,mu,.slice uta nb utc]] W λe w'=>e=.returned rv/\Keeps zA W w')/\(Calls Tryz.prog 7 #[.agg #[.slice uca nc ucc,mu,.slice uta nb utc]] W λe w'=>e=.returned rv/\Keeps zA W w')))
 (HS:Hid (∀W,Keeps zA w W->Calls Tryz.prog 8 #[.agg #[.slice uca nc ucc,mu,.slice uta nb utc]] W λe w'=>e=.returned (.string s)/\Keeps zA W w')) (n:Int) (HN:Hid (∀W,Calls Tryz.prog 9 #[s] W λe w'=>e=.returned n/\Keeps zA W w')) (hrv:rv=71) (hl:s.size<=2) (hn:n<=60):Calls Tryz.prog 3 #[.agg #[.slice uca nc ucc,mu,.slice uta nb utc],rowv] w λe w'=>e=.returned true/\Keeps zA w w':=by
 subst hrv;have h2:¬(2:Int)<s.size:=by omega
 go_enter Tryz.func3,Tryz.ntmps3
 go_upto_region 1 with fail
 obtain⟨b1,w1,e1,e2,R1,K1,_⟩:=newRow w [.slice uca nc ucc,mu,.slice uta nb utc] 25;rw[e1,e2];have HK1:Hid (Keeps zA w w1):=K1;have HR1:=yA R1;clear e1 e2 R1 K1;go_upto_region 2 with(go_at_call 5;refine(HA.out _ HK1.out).mono ?_;rintro e w2 ⟨rfl,g2⟩;have HK2:=yA (HK1.out.zC g2);have HR2:=yA (HR1.out.keeps g2 (λh=>h));clear g2)
 have y:=HR2.out.zA7;have k2:=zF w2;go_upto_region 3 with(go_at_call 6;refine(HB.out _ HK2.out).1.mono ?_;rintro e w3 ⟨rfl,g3⟩;have HK3:=yA (HK2.out.zC g3);have HR3:=yA (HR2.out.keeps g3 (λh=>h));clear g3 y k2)
 have y:=HR3.out.zA7;have k3:=zF w3;go_upto_region 4 with(go_at_call 7;refine(HB.out _ HK3.out).2.mono ?_;rintro e w4 ⟨rfl,g4⟩;have HK4:=yA (HK3.out.zC g4);have HR4:=yA (HR3.out.keeps g4 (λh=>h));clear g4 y k3)
 have y:=HR4.out.zA7;have k4:=zF w4;go_upto_region 5 with(go_at_call 8;refine(HS.out _ HK4.out).mono ?_;rintro e w5 ⟨rfl,g5⟩;have HK5:=yA (HK4.out.zC g5);have HR5:=yA (HR4.out.keeps g5 (λh=>h));clear g5 y k4)
 go_wp2_with (go_at_call 9;refine(HN.out _).mono ?_;rintro e w6 ⟨rfl,g6⟩;have HK6:=yA (HK5.out.zC g6);have HR6:=yA (HR5.out.keeps g6 (λh=>h));clear g6)
 go_ret
 exact⟨rfl,HK6.out⟩
theorem zOY(nc nb ucc utc:Nat)(mu rv:Int)(uca uta:Option Addr)(s:ByteArray)(w:World)(rowv:Value)
 (HA:Hid (∀W,Keeps zA w W->Calls Tryz.prog 5 #[] W λe w'=>e=.returned true/\Keeps zA W w'))
 (HB:Hid (∀W,Keeps zA w W->(Calls Tryz.prog 6 #[.agg #[.slice uca nc ucc,mu,.slice uta nb utc]] W λe w'=>e=.returned rv/\Keeps zA W w')/\(Calls Tryz.prog 7 #[.agg #[.slice uca nc ucc,mu,.slice uta nb utc]] W λe w'=>e=.returned rv/\Keeps zA W w')))
 (HS:Hid (∀W,Keeps zA w W->Calls Tryz.prog 8 #[.agg #[.slice uca nc ucc,mu,.slice uta nb utc]] W λe w'=>e=.returned (.string s)/\Keeps zA W w')) (n:Int) (HN:Hid (∀W,Calls Tryz.prog 9 #[s] W λe w'=>e=.returned n/\Keeps zA W w')) (hrv:rv=0) (hl:s.size<=2) (hn:n<=60) (m:Nat) (hm:(m:Int)<=n)
 (HW:Hid (∀W,Keeps zA w W->Calls Tryz.prog 10 #[.agg #[.slice uca nc ucc,mu,.slice uta nb utc],rowv] W λe w'=>∃oa oc a1 l1 q1 a2 l2 q2 a3 l3 q3 a4 l4 q4,e=.returned (.tuple #[.slice oa m oc,.agg #[.slice a1 l1 q1,.slice a2 l2 q2,.slice a3 l3 q3,.slice a4 l4 q4],(0:Int)])/\Keeps zA W w')):Calls Tryz.prog 3 #[.agg #[.slice uca nc ucc,mu,.slice uta nb utc],rowv] w λe w'=>e=.returned true/\Keeps zA w w':=by
 subst hrv;have h2:¬(2:Int)<s.size:=by omega
 go_enter Tryz.func3,Tryz.ntmps3
 go_upto_region 1 with fail
 obtain⟨b1,w1,e1,e2,R1,K1,_⟩:=newRow w [.slice uca nc ucc,mu,.slice uta nb utc] 25;rw[e1,e2];have HK1:Hid (Keeps zA w w1):=K1;have HR1:=yA R1;clear e1 e2 R1 K1;go_upto_region 2 with(go_at_call 5;refine(HA.out _ HK1.out).mono ?_;rintro e w2 ⟨rfl,g2⟩;have HK2:=yA (HK1.out.zC g2);have HR2:=yA (HR1.out.keeps g2 (λh=>h));clear g2)
 have y:=HR2.out.zA7;have k2:=zF w2;go_upto_region 3 with(go_at_call 6;refine(HB.out _ HK2.out).1.mono ?_;rintro e w3 ⟨rfl,g3⟩;have HK3:=yA (HK2.out.zC g3);have HR3:=yA (HR2.out.keeps g3 (λh=>h));clear g3 y k2)
 have y:=HR3.out.zA7;have k3:=zF w3;go_upto_region 4 with(go_at_call 7;refine(HB.out _ HK3.out).2.mono ?_;rintro e w4 ⟨rfl,g4⟩;have HK4:=yA (HK3.out.zC g4);have HR4:=yA (HR3.out.keeps g4 (λh=>h));clear g4 y k3)
 have y:=HR4.out.zA7;have k4:=zF w4;go_upto_region 5 with(go_at_call 8;refine(HS.out _ HK4.out).mono ?_;rintro e w5 ⟨rfl,g5⟩;have HK5:=yA (HK4.out.zC g5);have HR5:=yA (HR4.out.keeps g5 (λh=>h));clear g5 y k4)
 go_upto_region 8 with(go_at_call 9;refine(HN.out _).mono ?_;rintro e w6 ⟨rfl,g6⟩;have HK6:=yA (HK5.out.zC g6);have HR6:=yA (HR5.out.keeps g6 (λh=>h));clear g6)
 go_upto_region 13 with fail
 have y:=HR6.out.zA7;have k6:=zF w6;go_upto_region 14 with(go_at_call 10;refine(HW.out _ HK6.out).mono ?_;rintro e w7 ⟨oa,oc,a1,l1,q1,a2,l2,q2,a3,l3,q3,a4,l4,q4,rfl,g7⟩;have HK7:=yA (HK6.out.zC g7);clear g7 y k6)
 obtain⟨b5,w8,e1,e2,R8,K8,_⟩:=newRow w7 [.slice a1 l1 q1,.slice a2 l2 q2,.slice a3 l3 q3,.slice a4 l4 q4] 34;rw[e1,e2];have HK8:Hid (Keeps zA w w8):=HK7.out.zC K8;clear e1 e2 R8 K8;go_wp2_with fail
 go_ret
 exact⟨rfl,HK8.out⟩
theorem zIO{cs:List Int}{mu:Int}{bs:List Bd}{w:World}{F:Nat->Prop}{uca uta:Option Addr}(ucc utc:Nat)(h:zC8 w F cs bs uca uta)(hA:∀W,zAq W->Calls Tryz.prog 5 #[] W λe w'=>e=.returned true/\Keeps zA W w')(hT:zAq w)(hP:zFy w)(ra:Option Addr)(rc:Nat)(xs:List Int)(hx:zl w (.slice ra xs.length rc) xs.length (ints xs)):
 Calls Tryz.prog 3 #[.agg #[.slice uca cs.length ucc,mu,.slice uta bs.length utc],.slice ra xs.length rc] w λe w'=>e=.returned true/\Keeps zA w w':=by
 have HAW:Hid (∀W,Keeps zA w W->Calls Tryz.prog 5 #[] W λe w'=>e=.returned true/\Keeps zA W w'):=λW hk=>hA W (λj hj=>hk.cell (λh=>h) (hT j hj))
 have HB:Hid (∀W,Keeps zA w W->(Calls Tryz.prog 6 #[.agg #[.slice uca cs.length ucc,mu,.slice uta bs.length utc]] W λe w'=>e=.returned (.int .i64 (newR ⟨cs,mu,bs⟩))/\Keeps zA W w')/\(Calls Tryz.prog 7 #[.agg #[.slice uca cs.length ucc,mu,.slice uta bs.length utc]] W λe w'=>e=.returned (.int .i64 (newR ⟨cs,mu,bs⟩))/\Keeps zA W w')):=λW hk=>⟨(h.zG hk).within,(h.zG hk).zPk⟩
 have HS:Hid (∀W,Keeps zA w W->Calls Tryz.prog 8 #[.agg #[.slice uca cs.length ucc,mu,.slice uta bs.length utc]] W λe w'=>e=.returned (.string (tell (zX ⟨cs,mu,bs⟩) (unS bs)))/\Keeps zA W w'):=λW hk=>by
  have h0:=h.zG hk;exact zGI cs mu bs W F uca uta ucc utc h0.nums h0.bds h0.low h0.kinds h0.sz h0.l1 h0.l2 (hP.keeps (zFg hk))
 cases hr:zX ⟨cs,mu,bs⟩ with
 | false =>
   have hrv:newR ⟨cs,mu,bs⟩=1:=by unfold newR zB9;rw[hr];rfl
   exact zPO _ _ _ _ _ _ _ _ _ _ _ HAW HB HS hrv
 | true =>
   rw[hr] at HS;have hrw:newR ⟨cs,mu,bs⟩=if 60<unS bs then 70 else if 10000<unW bs then 71 else 0:=by unfold newR zB9;rw[hr];rfl
   by_cases hb:unS bs<100
   ·have HN:Hid (∀W,Calls Tryz.prog 9 #[.string (tell true (unS bs))] W λe w'=>e=.returned (.int .i64 (unS bs:Nat))/\Keeps zA W w'):=λW=>zNJ W hb
    have hl:=zKS hb;by_cases h60:60<unS bs
    ·rw[if_pos h60] at hrw
     exact zHj _ _ _ _ _ _ _ _ _ _ _ HAW HB HS (λW=>(HN.out W).mono λe w' hp=>⟨⟨_,hp.1,.inr ⟨hl,by omega⟩⟩,hp.2⟩) hrw
    ·rw[if_neg h60] at hrw
     by_cases hw:10000<unW bs
     ·rw[if_pos hw] at hrw
      exact zLc _ _ _ _ _ _ _ _ _ _ _ HAW HB HS _ HN hrw hl (by omega)
     ·rw[if_neg hw] at hrw
      have l1:=(zO6 hr xs _ 0 (zBr ⟨cs,mu,bs⟩) (zIE hr) (yT _)).1;have h1:zCj ⟨cs,mu,bs⟩ (zBr ⟨cs,mu,bs⟩)<=unS bs:=zI3 ⟨cs,mu,bs⟩;have l1:(whole ⟨cs,mu,bs⟩ xs).1.length<=zCj ⟨cs,mu,bs⟩ (zBr ⟨cs,mu,bs⟩):=l1;refine zOY _ _ _ _ _ _ _ _ _ _ _ HAW HB HS _ HN hrw hl (by omega) (whole ⟨cs,mu,bs⟩ xs).1.length (by omega) λW hk=>(zJE (h.zG hk) ra rc xs (hx.keeps hk (λ_ _ h=>h)) hrw).mono λe w' hp=>?_
      obtain⟨oa,oc,a1,q1,a2,q2,a3,q3,a4,q4,he,hf,ho⟩:=hp;exact⟨oa,oc,a1,_,q1,a2,_,q2,a3,_,q3,a4,_,q4,he,ho.keeps⟩
   ·have hl:=zN9 (n:=unS bs) (by omega)
    rw[if_pos (by omega)] at hrw
    exact zHj _ _ _ _ _ _ _ _ _ _ _ HAW HB HS (λW=>(zMr W _ hl).mono λe w' hp=>by
     obtain⟨⟨z,he⟩,rfl⟩:=hp;exact⟨⟨z,he,.inl hl⟩,yB _ _⟩) hrw
theorem zFz{cs:List Int}{mu:Int}{bs:List Bd}{w:World}{F:Nat->Prop}{uca uta:Option Addr}(ucc utc:Nat)(h:zC8 w F cs bs uca uta)(ra:Option Addr)(rc:Nat)(xs:List Int)(hx:zl w (.slice ra xs.length rc) xs.length (ints xs))(hT:zAq w)(hP:zFy w):
 Calls Tryz.prog 3 #[.agg #[.slice uca cs.length ucc,mu,.slice uta bs.length utc],.slice ra xs.length rc] w λe w'=>e=.returned true/\Keeps zA w w':=
 zIO ucc utc h zKD hT hP ra rc xs hx
