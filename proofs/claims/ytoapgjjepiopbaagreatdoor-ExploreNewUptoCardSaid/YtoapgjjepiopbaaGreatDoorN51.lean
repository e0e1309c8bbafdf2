/- Layer N: texts joined. -/
import Derived.Test.YtoapgjjepiopbaaGreatDoorN50
set_option linter.all false
set_option maxHeartbeats 4000000
set_option maxRecDepth 8000
namespace Go.Proofs.YtoapgjjepiopbaaGreatDoor
open Go.RowKit
theorem zM7 (w:World) (b:Nat) (a:Int) (h:w.cell? ⟨b,6,none⟩=some (.int .i64 a)):Calls Tryz.prog 36 #[(.pointer (some ⟨b,0,none⟩))] w fun e w'=>e=.returned (.int .i64 a) /\ w=w':=by
 go_enter Tryz.func36,Tryz.ntmps36
 exact J125 _
theorem zNN (w:World) (b:Nat) (a0 a1 a2 a3 a4:Int) (h:∀ W,Keeps zA w W -> W.cell? ⟨b,7,none⟩=some (.int .i64 a0) /\ W.cell? ⟨b,8,none⟩=some (.int .i64 a1) /\ W.cell? ⟨b,9,none⟩=some (.int .i64 a2) /\ W.cell? ⟨b,10,none⟩=some (.int .i64 a3) /\ W.cell? ⟨b,11,none⟩=some (.int .i64 a4)):Calls Tryz.prog 31 #[(.pointer (some ⟨b,0,none⟩))] w fun e w'=>e=.returned (.agg #[.int .i64 a0, .int .i64 a1, .int .i64 a2, .int .i64 a3, .int .i64 a4]) /\ Keeps zA w w':=by
 have k0:=zH w;go_enter Tryz.func31,Tryz.ntmps31
 go_upto_region 1 with fail
 obtain ⟨b1,w1,e1,e2,R1,K1,_⟩:=newRow w [.int .i64 0, .int .i64 0, .int .i64 0, .int .i64 0, .int .i64 0] 74;rw [e1,e2];have HB:Hid (b1=w.heap.size):=e1.symm;have HK1:=Lib.hid K1;have HqR:=Lib.hid R1;have y:=fun W (q:Keeps zA w1 W)=>h W (K1.zB q)
 have k1:=zH w1;clear e1 e2 R1 K1 h k0;have z0:=HqR.out.cell (k:=0) rfl;have g0:=HqR.out.free (k:=0) (by simp);have z1:=HqR.out.cell (k:=1) rfl;have g1:=HqR.out.free (k:=1) (by simp);have z2:=HqR.out.cell (k:=2) rfl;have g2:=HqR.out.free (k:=2) (by simp);have z3:=HqR.out.cell (k:=3) rfl;have g3:=HqR.out.free (k:=3) (by simp);have z4:=HqR.out.cell (k:=4) rfl;have g4:=HqR.out.free (k:=4) (by simp);go_wp2_with fail
 have rq:zC (((((w1.setCell ⟨b1,0,none⟩ (.int .i64 a0)).setCell ⟨b1,1,none⟩ (.int .i64 a1)).setCell ⟨b1,2,none⟩ (.int .i64 a2)).setCell ⟨b1,3,none⟩ (.int .i64 a3)).setCell ⟨b1,4,none⟩ (.int .i64 a4)) b1 [.int .i64 a0, .int .i64 a1, .int .i64 a2, .int .i64 a3, .int .i64 a4]:=(((((HqR.out.set 0 (by simp) (.int .i64 a0)).set 1 (by simp) (.int .i64 a1)).set 2 (by simp) (.int .i64 a2)).set 3 (by simp) (.int .i64 a3)).set 4 (by simp) (.int .i64 a4));have kq:Keeps (fun q=>q=b1) w1 (((((w1.setCell ⟨b1,0,none⟩ (.int .i64 a0)).setCell ⟨b1,1,none⟩ (.int .i64 a1)).setCell ⟨b1,2,none⟩ (.int .i64 a2)).setCell ⟨b1,3,none⟩ (.int .i64 a3)).setCell ⟨b1,4,none⟩ (.int .i64 a4)):=((((((Keeps.refl (fun q=>q=b1) w1).setCell (p:=⟨b1,0,none⟩) (fun _=>rfl) (.int .i64 a0)).setCell (p:=⟨b1,1,none⟩) (fun _=>rfl) (.int .i64 a1)).setCell (p:=⟨b1,2,none⟩) (fun _=>rfl) (.int .i64 a2)).setCell (p:=⟨b1,3,none⟩) (fun _=>rfl) (.int .i64 a3)).setCell (p:=⟨b1,4,none⟩) (fun _=>rfl) (.int .i64 a4));generalize (((((w1.setCell ⟨b1,0,none⟩ (.int .i64 a0)).setCell ⟨b1,1,none⟩ (.int .i64 a1)).setCell ⟨b1,2,none⟩ (.int .i64 a2)).setCell ⟨b1,3,none⟩ (.int .i64 a3)).setCell ⟨b1,4,none⟩ (.int .i64 a4))=w2 at rq kq ⊢;refine bodyPost_ret (v:=.agg #[.int .i64 a0, .int .i64 a1, .int .i64 a2, .int .i64 a3, .int .i64 a4]) (by simp [results,Tryz.results31,go_sem,rq.cell (k:=0) rfl,rq.cell (k:=1) rfl,rq.cell (k:=2) rfl,rq.cell (k:=3) rfl,rq.cell (k:=4) rfl]) rfl ?_
 exact ⟨rfl,HK1.out.trans kq (fun q hq e=>by have e':q=b1:=e;have:=HB.out;omega)⟩
theorem zOy (w:World) (b gs:Nat) (L:List Nd) (v:Value) (h:w.cell? ⟨b,3,none⟩=some ((.pointer (some ⟨gs,0,none⟩)))) (hs:zP w gs v L) (hok:zFP L) (hrow:zKf L):Calls Tryz.prog 37 #[(.pointer (some ⟨b,0,none⟩))] w (zBM w (zCb (L.map Nd.thread))):=by
 have HC:=Lib.hid (zDD w gs v L hs hok hrow);clear hs hok hrow;go_enter Tryz.func37,Tryz.ntmps37
 go_wp2_with (go_at_call 79;refine HC.out.mono ?_;rintro e w1 ⟨v1,rfl,h1,h2,h3⟩;have H1:Hid (zBM w (zCb (L.map Nd.thread)) (.returned v1) w1):=⟨v1,rfl,h1,h2,h3⟩;clear h1 h2 h3)
 go_ret
 exact H1.out
theorem zOj (w:World) (b gs:Nat) (v:Value) (h:w.cell? ⟨b,3,none⟩=some ((.pointer (some ⟨gs,0,none⟩)))) (hs:zP w gs v []):Calls Tryz.prog 39 #[(.pointer (some ⟨b,0,none⟩))] w fun e w'=>∃ v,e=.returned v /\ zU w' v 61 (ints (List.replicate 61 (18:Int))) /\ Keeps zA w w':=by
 have HC:=Lib.hid (zPB w gs v hs);clear hs;go_enter Tryz.func39,Tryz.ntmps39
 go_wp2_with (go_at_call 80;refine HC.out.mono ?_;rintro e w1 ⟨v1,rfl,h1,h2⟩;have H1:Hid (zU w1 v1 61 (ints (List.replicate 61 (18:Int))) /\ Keeps zA w w1):=⟨h1,h2⟩;clear h1 h2)
 go_ret
 exact ⟨v1,rfl,H1.out⟩
def STy (uca uta:Option Addr) (nc ucc nb utc:Nat) (mu:Int):List Value:=[.slice uca nc ucc, .int .i64 mu, .slice uta nb utc, .slice none 0 0, .slice none 0 0, .bool false, .int .i64 1, .int .i64 0, .int .i64 0, .int .i64 0, .int .i64 0, .int .i64 0, .slice none 0 0, .slice none 0 0]
def STx (ca ta:Option Addr) (nc nb tc:Nat) (mu:Int) (gs bx:Nat):List Value:=[.slice ca nc nc, .int .i64 mu, .slice ta nb tc,(.pointer (some ⟨gs,0,none⟩)), .slice none 0 0, .func (.func 34) #[(.pointer (some ⟨bx,0,none⟩))] #[], .int .i64 1, .int .i64 0, .int .i64 0, .int .i64 0, .int .i64 0, .int .i64 0, .slice none 0 0, .slice none 0 0]
theorem zOz {ca ta uca uta:Option Addr} {nc ucc nb utc tc gs bx bY yc yb:Nat} {mu:Int} {v:Value} (w:World) (hx:zC w bx (STx ca ta nc nb tc mu gs bx)) (hs:zP w gs v []) (hy:zC w bY (STy uca uta yc ucc yb utc mu)):Calls Tryz.prog 14 #[(.pointer (some ⟨bx,0,none⟩)),(.pointer (some ⟨bY,0,none⟩))] w fun e w'=>e=.returned (.bool true) /\ Keeps zA w w':=by
 have HX:=Lib.hid hx;have HS:=Lib.hid hs;have HY:=Lib.hid hy;have HSX:Hid (∀ W,Keeps zA w W -> W.cell? ⟨bx,7,none⟩=some (.int .i64 0) /\ W.cell? ⟨bx,8,none⟩=some (.int .i64 0) /\ W.cell? ⟨bx,9,none⟩=some (.int .i64 0) /\ W.cell? ⟨bx,10,none⟩=some (.int .i64 0) /\ W.cell? ⟨bx,11,none⟩=some (.int .i64 0)):=fun W q=>⟨hx.cellW rfl W q,hx.cellW rfl W q,hx.cellW rfl W q,hx.cellW rfl W q,hx.cellW rfl W q⟩
 have HY1:Hid (∀ W,Keeps zA w W -> W.cell? ⟨bY,3,none⟩=some (.slice none 0 0)):=fun W q=>hy.cellW rfl W q
 have HY2:Hid (∀ W,Keeps zA w W -> W.cell? ⟨bY,6,none⟩=some (.int .i64 1) /\ W.cell? ⟨bY,7,none⟩=some (.int .i64 0) /\ W.cell? ⟨bY,8,none⟩=some (.int .i64 0) /\ W.cell? ⟨bY,9,none⟩=some (.int .i64 0) /\ W.cell? ⟨bY,10,none⟩=some (.int .i64 0) /\ W.cell? ⟨bY,11,none⟩=some (.int .i64 0)):=fun W q=>⟨hy.cellW rfl W q,hy.cellW rfl W q,hy.cellW rfl W q,hy.cellW rfl W q,hy.cellW rfl W q,hy.cellW rfl W q⟩
 clear hx hs hy;go_enter Tryz.func14,Tryz.ntmps14
 go_upto_region 2 with (go_at_call 36;refine (zM7 _ bx 1 (HX.out.cellW rfl _ (Keeps.refl _ _))).mono ?_;rintro e w1 ⟨rfl,rfl⟩)
 go_upto_region 3 with (go_at_call 31;refine (zNN w bx 0 0 0 0 0 HSX.out).mono ?_;rintro e w1 ⟨rfl,g1⟩;have G1:=Lib.hid g1;clear g1)
 obtain ⟨b6,w2,e1,e2,R2,K2,_⟩:=newRow w1 [.int .i64 0, .int .i64 0, .int .i64 0, .int .i64 0, .int .i64 0] 74;rw [e1,e2];have HR2:=Lib.hid R2;have HK2:Hid (Keeps zA w w2):=G1.out.zB K2;clear e1 e2 R2 K2;go_upto_region 4 with (go_at_call 37;refine (zOy w2 bx gs [] v (HX.out.cellW rfl _ HK2.out) (HS.out.keeps HK2.out (fun _ _ h=>h)) ⟨by decide,by simp⟩ (by intro x hx;simp at hx)).mono ?_;rintro e w3 ⟨v3,rfl,h1,h2,_⟩;have HK3:Hid (Keeps zA w2 w3):=Keeps.zBv h2 _;have HV3:=Lib.hid (zAa.src h1);clear h1 h2)
 have HK03:Hid (Keeps zA w w3):=HK2.out.zB HK3.out;have y:=HY1.out w3 HK03.out;go_upto_region 5 with (go_at_call 38;refine (zNo _).mono ?_;rintro e w4 ⟨rfl,rfl⟩)
 go_upto_region 6 with (go_at_call 39;refine (zOj w3 bx gs v (HX.out.cellW rfl _ HK03.out) (HS.out.keeps HK03.out (fun _ _ h=>h))).mono ?_;rintro e w5 ⟨v5,rfl,h1,h2⟩;have HK5:=Lib.hid h2;have HV5:=Lib.hid h1;clear h1 h2 y)
 have HK05:Hid (Keeps zA w w5):=HK03.out.zB HK5.out;have y:=HY1.out w5 HK05.out;go_upto_region 7 with (go_at_call 40;refine (zOO _).mono ?_;rintro e w6 ⟨v6,rfl,h1,h2⟩;have HK6:=Lib.hid h2;have HV6:=Lib.hid h1;clear h1 h2 y)
 go_upto_region 8 with (go_at_call 41;refine (zEE _ v3 (.slice none 0 0) [] [] (HV3.out.zD (HK5.out.zB HK6.out)) ⟨none,0,rfl,fun h=>absurd rfl h⟩ (by decide)).mono ?_;rintro e w7 ⟨rfl,h1⟩;have HK7:=Lib.hid h1;clear h1)
 go_upto_region 9 with (go_at_call 41;refine (zEE _ v5 v6 (List.replicate 61 (18:Int)) (List.replicate 61 (18:Int)) (HV5.out.zD (HK6.out.zB HK7.out)) (HV6.out.zD HK7.out) (by simp)).mono ?_;rintro e w8 ⟨rfl,h1⟩;have HK8:=Lib.hid h1;clear h1)
 have HK28:Hid (Keeps zA w2 w8):=(((HK3.out.zB HK5.out).zB HK6.out).zB HK7.out).zB HK8.out;have HK08:Hid (Keeps zA w w8):=HK2.out.zB HK28.out;have y:=fun (W:World) (q:Keeps zA w8 W)=>HY2.out W (HK08.out.zB q)
 have z:=(HR2.out.keeps HK28.out (fun h=>h)).five;have k8:=zH w8;go_quiet (fail)
 go_wp2_with fail
 go_ret
 exact ⟨rfl,HK08.out.zB ((zH w8).drewN _)⟩
theorem zIZ {cs:List Int} {mu:Int} {bs:List Bd} {w:World} {F:Nat -> Prop} {uca uta:Option Addr} (ucc utc:Nat) (h:zCN w F cs bs uca uta) (hA:∀ W,zAV W -> Calls Tryz.prog 11 #[] W fun e w'=>e=.returned (.bool true) /\ Keeps zA W w') (hT:zAV w):Calls Tryz.prog 4 #[.agg #[.slice uca cs.length ucc, .int .i64 mu, .slice uta bs.length utc]] w fun e w'=>e=.returned (.bool true) /\ Keeps zA w w':=by
 obtain ⟨nc,hnc⟩:=eX cs.length;obtain ⟨nb,hnb⟩:=eX bs.length;obtain ⟨rv,hrv⟩:=eX (newR ⟨cs,mu,bs⟩);have HAW:Hid (∀ W,Keeps zA w W -> Calls Tryz.prog 11 #[] W fun e w'=>e=.returned (.bool true) /\ Keeps zA W w'):=fun W hk=>hA W (fun j hj=>hk.cell (fun h=>h) (hT j hj))
 have HNO:Hid (rv ≠ 0 -> ∀ W,Keeps zA w W -> (Calls Tryz.prog 12 #[.agg #[.slice uca nc ucc, .int .i64 mu, .slice uta nb utc]] W fun e w'=>e=.returned (.tuple #[.pointer none, .int .i64 rv]) /\ Keeps zA W w') /\ (Calls Tryz.prog 13 #[.agg #[.slice uca nc ucc, .int .i64 mu, .slice uta nb utc]] W fun e w'=>e=.returned (.tuple #[.pointer none, .int .i64 rv]) /\ Keeps zA W w')):=fun hr W hk=>by
  rw [hrv] at hr;rw [hnc,hnb,hrv];exact ⟨zL9 ucc utc (h.zD hk) hr,zLW ucc utc (h.zD hk) hr⟩
 have HOK:Hid (rv=0 -> ∀ W,Keeps zA w W -> (Calls Tryz.prog 12 #[.agg #[.slice uca nc ucc, .int .i64 mu, .slice uta nb utc]] W fun e w'=>∃ bx gs nc nb ca ta tc,e=.returned (.tuple #[(.pointer (some ⟨bx,0,none⟩)), .int .i64 0]) /\ zC w' bx (STx ca ta nc nb tc mu gs bx) /\ zP w' gs (.slice none 0 0) [] /\ Keeps zA W w') /\ (Calls Tryz.prog 13 #[.agg #[.slice uca nc ucc, .int .i64 mu, .slice uta nb utc]] W fun e w'=>∃ bY nc nb,e=.returned (.tuple #[(.pointer (some ⟨bY,0,none⟩)), .int .i64 0]) /\ zC w' bY (STy uca uta nc ucc nb utc mu) /\ Keeps zA W w')):=fun hr W hk=>by
  rw [hrv] at hr;rw [hnc,hnb];exact ⟨(zIw ucc utc (h.zD hk) hr).mono fun e w' ⟨bx,gs,nc,nb,ca,ta,tc,he,h1,h2,_,h3,_⟩=>⟨bx,gs,nc,nb,ca,ta,tc,he,h1,h2,h3⟩,zKQ ucc utc (h.zD hk) hr⟩
 rw [<- hnc,<- hnb];clear h hA hT hnc hnb hrv;go_enter Tryz.func4,Tryz.ntmps4
 go_upto_region 1 with fail
 obtain ⟨b1,w1,e1,e2,R1,K1,_⟩:=newRow w [.slice uca nc ucc, .int .i64 mu, .slice uta nb utc] 25;rw [e1,e2];have HK1:Hid (Keeps zA w w1):=K1;have HR1:=Lib.hid R1;clear e1 e2 R1 K1;go_upto_region 2 with (go_at_call 11;refine (HAW.out _ HK1.out).mono ?_;rintro e w2 ⟨rfl,g2⟩;have HK2:=Lib.hid (HK1.out.zB g2);have HR2:=Lib.hid (HR1.out.keeps g2 (fun h=>h));clear g2)
 have y:=HR2.out.zAo;have k2:=zH w2;by_cases hr:rv=0
 ·have HO2:=Lib.hid (HOK.out hr)
  clear HOK HNO;subst hr;go_upto_region 3 with (go_at_call 12;refine (HO2.out _ HK2.out).1.mono ?_;rintro e w3 ⟨bx,gs,xc,xb,ca,ta,tc,rfl,h1,h2,g3⟩;have HX3:=Lib.hid h1;have HS3:=Lib.hid h2;have HK3:=Lib.hid (HK2.out.zB g3);have HR3:=Lib.hid (HR2.out.keeps g3 (fun h=>h));clear g3 h1 h2 y k2)
  have y:=HR3.out.zAo;have k3:=zH w3;go_upto_region 4 with (go_at_call 13;refine (HO2.out _ HK3.out).2.mono ?_;rintro e w4 ⟨bY,yc,yb,rfl,h1,g4⟩;have HY4:=Lib.hid h1;have HX4:=Lib.hid (HX3.out.keeps g4 (fun h=>h));have HS4:=Lib.hid (HS3.out.keeps g4 (fun _ _ h=>h));have HK4:=Lib.hid (HK3.out.zB g4);clear g4 h1 y k3)
  go_upto_region 8 with fail
  go_wp2_with fail
  refine (zOz w4 HX4.out HS4.out HY4.out).mono ?_
  rintro e w5 ⟨rfl,g5⟩
  have HK5:=Lib.hid (HK4.out.zB g5);clear g5;go_wp2_with fail
  go_ret
  exact ⟨rfl,HK5.out⟩
 ·have HO2:=Lib.hid (HNO.out hr)
  clear HOK HNO;go_upto_region 3 with (go_at_call 12;refine (HO2.out _ HK2.out).1.mono ?_;rintro e w3 ⟨rfl,g3⟩;have HK3:=Lib.hid (HK2.out.zB g3);have HR3:=Lib.hid (HR2.out.keeps g3 (fun h=>h));clear g3 y k2)
  have y:=HR3.out.zAo;have k3:=zH w3;go_upto_region 4 with (go_at_call 13;refine (HO2.out _ HK3.out).2.mono ?_;rintro e w4 ⟨rfl,g4⟩;have HK4:=Lib.hid (HK3.out.zB g4);clear g4 y k3)
  have hb:(rv != 0)=true:=by simpa using hr
  have hb2:(rv != rv)=false:=by simp
  go_wp2_with fail
  go_ret
  exact ⟨rfl,HK4.out⟩
theorem zPV {ca:Option Addr} {cc gt ot tc gI gs bx B:Nat} {v:Value} {w:World} (hx:zC w bx (XC ca cc gt ot tc gs bx (.slice none 0 0) (.func 34) 1 0 0 0 0 0 (.slice none 0 0) (.slice none 0 0))) (hs:zP w gs v []) (hv:(∀ k,v.ownBlock=some k -> B <= k /\ k ≠ bx)) (hi:zC1 w gt ot gI) (hT:zAV w) (hlo:B <= gs /\ B <= bx /\ gs ≠ bx) (him:gt < B /\ gI < B /\ 3 < B) :
 Calls Tryz.prog 15 #[(.pointer (some ⟨bx,0,none⟩)), .int .i64 9] w fun e w'=>e=.returned (.tuple #[.int .i64 2, .int .i64 0]) /\ ∃ g2 cap ex fg,zC w' bx (XC ca cc gt ot tc gs bx (.slice (some ⟨g2,0,none⟩) 0 cap) (.func 73) 2 1 0 0 1 1 ex (.slice (some ⟨fg,0,none⟩) 0 0)) /\ Keeps (fun q=>B <= q) w w':=by
 have HI:=Lib.hid hi;have HT:=Lib.hid hT;have HLO:=Lib.hid hlo;have HIM:=Lib.hid him;have HB:Hid (∀ q,q < B -> ¬ B <= q):=fun q h e=>by omega
 have HBE:=Lib.hid (zNQ hx hs hi hT ⟨hlo.1,hlo.2.1,hlo.2.2,hv⟩ him);have y:∀ W,Keeps zA w W -> W.cell? ⟨bx,5,none⟩=some (.func (.func 34) #[(.pointer (some ⟨bx,0,none⟩))] #[]) /\ W.cell? ⟨bx,6,none⟩=some (.int .i64 1):=fun W q=>⟨hx.cellW rfl W q,hx.cellW rfl W q⟩
 have k0:=zH w;clear hx hs hi hT hlo him hv;go_enter Tryz.func15,Tryz.ntmps15
 go_wp2_with fail
 refine wp_loop_rounds 5 ?_
 rw [rounds_succ];go_wp2_with (go_at_call 34;refine HBE.out.mono ?_;rintro e w1 ⟨rfl,v1,gn,cn,u,h1,h2,h3,h4,h5,h6⟩;have HX1:=Lib.hid h1;have HS1:=Lib.hid h2;have HN1:=Lib.hid h3;have HG1:=Lib.hid h4;have HV1:=Lib.hid h5;have HK1:=Lib.hid h6;clear h1 h2 h3 h4 h5 h6 y k0)
 have HI1:=Lib.hid (HI.out.keeps HK1.out (HB.out _ HIM.out.1) (HB.out _ HIM.out.2.1));have HT1:Hid (zAV w1):=fun j hj=>HK1.out.cell (HB.out _ HIM.out.2.2) (HT.out j hj)
 have HGO:=Lib.hid (zOY HX1.out HS1.out HI1.out HT1.out ⟨HLO.out.1,HLO.out.2.1,HLO.out.2.2,HV1.out⟩ HIM.out HN1.out HG1.out);have y:∀ W,Keeps zA w1 W -> W.cell? ⟨bx,5,none⟩=some (.func (.func 73) #[(.pointer (some ⟨bx,0,none⟩))] #[]) /\ W.cell? ⟨bx,6,none⟩=some (.int .i64 1):=fun W q=>⟨HX1.out.cellW rfl W q,HX1.out.cellW rfl W q⟩
 have k1:=zH w1;rw [rounds_succ];go_wp2_with (go_at_call 73;refine HGO.out.mono ?_;rintro e w2 ⟨rfl,v2,g2,cap,ex,fg,h1,h2,h3,h4,h5⟩;have HX2:=Lib.hid h1;have HS2:=Lib.hid h2;have HC2:=Lib.hid h3;have HV2:=Lib.hid h4;have HK2:=Lib.hid h5;clear h1 h2 h3 h4 h5 y k1)
 have HT2:Hid (zAV w2):=fun j hj=>HK2.out.cell (HB.out _ HIM.out.2.2) (HT1.out j hj)
 have HGB:=Lib.hid (zOb HX2.out HS2.out HT2.out ⟨HLO.out.1,HLO.out.2.1,HLO.out.2.2,HV2.out⟩ HC2.out);have y:∀ W,Keeps zA w2 W -> W.cell? ⟨bx,5,none⟩=some (.func (.func 73) #[(.pointer (some ⟨bx,0,none⟩))] #[]) /\ W.cell? ⟨bx,6,none⟩=some (.int .i64 1):=fun W q=>⟨HX2.out.cellW rfl W q,HX2.out.cellW rfl W q⟩
 have k2:=zH w2;rw [rounds_succ];go_wp2_with (go_at_call 73;refine HGB.out.mono ?_;rintro e w3 ⟨rfl,v3,h1,h2,h3,h4⟩;have HX3:=Lib.hid h1;have HS3:=Lib.hid h2;have HV3:=Lib.hid h3;have HK3:=Lib.hid h4;clear h1 h2 h3 h4 y k2)
 have HT3:Hid (zAV w3):=fun j hj=>HK3.out.cell (HB.out _ HIM.out.2.2) (HT2.out j hj)
 have HGC:=Lib.hid (zOu HX3.out HS3.out HT3.out ⟨HLO.out.1,HLO.out.2.1,HLO.out.2.2,HV3.out⟩ HC2.out);have y:∀ W,Keeps zA w3 W -> W.cell? ⟨bx,5,none⟩=some (.func (.func 73) #[(.pointer (some ⟨bx,0,none⟩))] #[]) /\ W.cell? ⟨bx,6,none⟩=some (.int .i64 1):=fun W q=>⟨HX3.out.cellW rfl W q,HX3.out.cellW rfl W q⟩
 have k3:=zH w3;rw [rounds_succ];go_wp2_with (go_at_call 73;refine HGC.out.mono ?_;rintro e w4 ⟨rfl,v4,h1,h2,h3,h4⟩;have HX4:=Lib.hid h1;have HK4:=Lib.hid h4;clear h1 h2 h3 h4 y k3)
 have y:∀ W,Keeps zA w4 W -> W.cell? ⟨bx,5,none⟩=some (.func (.func 73) #[(.pointer (some ⟨bx,0,none⟩))] #[]) /\ W.cell? ⟨bx,6,none⟩=some (.int .i64 2):=fun W q=>⟨HX4.out.cellW rfl W q,HX4.out.cellW rfl W q⟩
 have k4:=zH w4;rw [rounds_succ];go_wp2_with fail
 go_ret2
 exact ⟨rfl,g2,cap,ex,fg,HX4.out,((HK1.out.trans HK2.out (fun _ _ h=>h)).trans HK3.out (fun _ _ h=>h)).trans HK4.out (fun _ _ h=>h)⟩
theorem zG2 (w:World) (hT:zAV w):Calls Tryz.prog 11 #[] w fun e w'=>e=.returned (.bool true) /\ Keeps zA w w':=by
 have htb:3 < w.heap.size:=World.block_lt_of_cell? w _ (hT 0 (by decide));obtain ⟨th,w1,x1,z1,R1,K1,_⟩:=newRow w [.int .i64 0, .slice none 0 0] 48;have hU:zCN w1 (fun k=>k < w1.heap.size) [] [⟨0,[]⟩] none (some ⟨th,0,none⟩):=zPM R1 (R1.lt (by simp)) (fun _ h=>h)
 have HNW:Hid (Calls Tryz.prog 12 #[.agg #[.slice none 0 0, .int .i64 0, .slice (some ⟨th,0,none⟩) 1 1]] w1 fun e w'=>∃ (ca:Option Addr) (cc gt ot tc gI gs bx:Nat),e=.returned (.tuple #[(.pointer (some ⟨bx,0,none⟩)), .int .i64 0]) /\ zC w' bx (XC ca cc gt ot tc gs bx (.slice none 0 0) (.func 34) 1 0 0 0 0 0 (.slice none 0 0) (.slice none 0 0)) /\ zP w' gs (.slice none 0 0) [] /\ zC1 w' gt ot gI /\ (w1.heap.size <= gs /\ gs < bx /\ gt < gs /\ gI < gs) /\ Keeps zA w1 w'):=by
  refine (zIw (mu:=0) 0 1 hU zPe).mono fun e w' h=>?_
  obtain ⟨bx,gs,nc,nb,ca,ta,tc,he,h1,h2,h3,h4,h5⟩:=h;obtain ⟨rfl,rfl,gt,ot,gI,rfl,l1,l2,hi⟩:=h5 rfl rfl;exact ⟨ca,0,gt,ot,tc,gI,gs,bx,he,h1,h2,hi,⟨h3.1,h3.2,l1,l2⟩,h4⟩
 have HT1:Hid (zAV w1):=fun j hj=>K1.cell (fun h=>h) (hT j hj)
 have HTB:Hid (3 < w1.heap.size):=Nat.lt_of_lt_of_le htb K1.size;have HK1:=Lib.hid K1;clear hU R1 K1 hT htb;go_enter Tryz.func11,Tryz.ntmps11
 go_upto_region 2 with (go_at_call 12;refine HNW.out.mono ?_;rintro e w2 ⟨ca,cc,gt,ot,tc,gI,gs,bx,rfl,h1,h2,h3,h4,h5⟩;have HX2:=Lib.hid h1;have HS2:=Lib.hid h2;have HI2:=Lib.hid h3;have HQ2:=Lib.hid h4;have HK2:=Lib.hid h5;clear h1 h2 h3 h4 h5 x1 z1)
 have HT2:Hid (zAV w2):=fun j hj=>HK2.out.cell (fun h=>h) (HT1.out j hj)
 have HRU:=Lib.hid (zPV (B:=gs) HX2.out HS2.out (fun k e=>by exact J152 _) HI2.out HT2.out ⟨Nat.le_refl _,Nat.le_of_lt HQ2.out.2.1,Nat.ne_of_lt HQ2.out.2.1⟩ ⟨HQ2.out.2.2.1,HQ2.out.2.2.2,Nat.lt_of_lt_of_le HTB.out HQ2.out.1⟩);go_upto_region 5 with (go_at_call 15;refine HRU.out.mono ?_;rintro e w3 ⟨rfl,g2,cap,ex,fg,h1,h2⟩;have HX3:=Lib.hid h1;have HK3:=Lib.hid h2;clear h1 h2)
 have HK03:Hid (Keeps zA w w3):=(HK1.out.zB HK2.out).trans HK3.out (fun q hq e=>by have e':gs <= q:=e;have:=HQ2.out.1;have:=HK1.out.size;omega);have HSX:Hid (∀ W,Keeps zA w3 W -> W.cell? ⟨bx,7,none⟩=some (.int .i64 1) /\ W.cell? ⟨bx,8,none⟩=some (.int .i64 0) /\ W.cell? ⟨bx,9,none⟩=some (.int .i64 0) /\ W.cell? ⟨bx,10,none⟩=some (.int .i64 1) /\ W.cell? ⟨bx,11,none⟩=some (.int .i64 1)):=fun W q=>⟨HX3.out.cellW rfl W q,HX3.out.cellW rfl W q,HX3.out.cellW rfl W q,HX3.out.cellW rfl W q,HX3.out.cellW rfl W q⟩
 go_upto_region 6 with (go_at_call 31;refine (zNN w3 bx 1 0 0 1 1 HSX.out).mono ?_;rintro e w4 ⟨rfl,g4⟩;have G4:=Lib.hid g4;clear g4)
 obtain ⟨b5,w5,e1,e2,R5,K5,_⟩:=newRow w4 [.int .i64 1, .int .i64 0, .int .i64 0, .int .i64 1, .int .i64 1] 74;rw [e1,e2];have HK5:Hid (Keeps zA w w5):=(HK03.out.zB G4.out).zB K5;have y:=R5.five;have k5:=zH w5;clear e1 e2 R5 K5;go_wp2_with fail
 go_ret
 exact ⟨rfl,HK5.out⟩
theorem zJB {cs:List Int} {mu:Int} {bs:List Bd} {w:World} {F:Nat -> Prop} {uca uta:Option Addr} (ucc utc:Nat) (h:zCN w F cs bs uca uta) (hT:zAV w):Calls Tryz.prog 4 #[.agg #[.slice uca cs.length ucc, .int .i64 mu, .slice uta bs.length utc]] w fun e w'=>e=.returned (.bool true) /\ Keeps zA w w' :=
 zIZ ucc utc h zG2 hT
end Go.Proofs.YtoapgjjepiopbaaGreatDoor
