/- Layer K: texts joined. -/
import Derived.Test.YtfokdllgnblamaaGreatDoorK50
set_option linter.all false
set_option maxHeartbeats 16000000
set_option maxRecDepth 8000
namespace Go.Proofs.YtfokdllgnblamaaGreatDoor
open Go.RowKit
def BdR:zBA Bd:=fun w F b cs=>∃ ba bc,cs=[.int .i64 b.regs, .slice ba b.acts.length bc] /\ zAQ w F b.acts ba
theorem zLC:zAX BdR 2:=⟨fun h hk hS=>by obtain ⟨a,c,e,h⟩:=h;exact ⟨a,c,e,h.keeps hk hS⟩,fun h hF=>by obtain ⟨a,c,e,h⟩:=h;exact ⟨a,c,e,h.mono hF⟩,fun h=>by obtain ⟨a,c,e,h⟩:=h;rw [e];rfl⟩
theorem zAk.mono {F F':Nat -> Prop} {w:World} {bs:List Bd} {ad:Option Addr} (h:zAk w F bs ad) (hF:∀ k,F k -> F' k):zAk w F' bs ad:=fun i hi=>by
 obtain ⟨g,o,ba,bc,e,hg,c0,c1,h1⟩:=h i hi;exact ⟨g,o,ba,bc,e,hF g hg,c0,c1,h1.mono hF⟩
theorem zAf.mono {F F':Nat -> Prop} {w:World} {cs:List Int} {ad:Option Addr} (h:zAf w F cs ad) (hF:∀ k,F k -> F' k):zAf w F' cs ad:=fun i hi=>by
 obtain ⟨g,o,e,hg,c0⟩:=h i hi;exact ⟨g,o,e,hF g hg,c0⟩
theorem zAk.ofElems {F:Nat -> Prop} {w:World} {bs:List Bd} {ad:Option Addr} {css:Nat -> List Value} (h:zBN w F 2 bs.length ad css) (h2:∀ i x,bs[i]?=some x -> BdR w F x (css i)):zAk w F bs ad:=fun i hi=>by
 obtain ⟨g,o,e,hg,hl,hc⟩:=h i hi;obtain ⟨ba,bc,e2,h3⟩:=h2 i bs[i] (yQ hi);rw [e2] at hc;exact ⟨g,o,ba,bc,e,hg,hc 0 _ rfl,hc 1 _ rfl,h3⟩
theorem zMm {w:World} {ty B n cap:Nat} {ad:Option Addr} {cs:List Int} (ho:w.ownsRow 0 ty 1 (.slice ad n cap) n (ints cs)) (hn:n=cs.length) (hB:∀ q,(Value.slice ad n cap).ownBlock=some q -> B <= q) (hl:n <= 1000000000):zAf w (Since B w) cs ad /\ zMf B w 0 1 n ad:=by
 refine ⟨fun i hi=>?_,?_⟩
 ·obtain ⟨g,c,e,hr⟩:=ho.form (by omega)
  have hr:=uC (by rw [<- e];exact ho);have hg:(Value.slice ad n cap).ownBlock=some g:=by rw [e];rfl
  simp only [uJ,true_and] at e;refine ⟨g,0,e.1,⟨hB g hg,zO ho hg⟩,?_⟩
  rw [yZ];exact hr.cell (by simp [ints,hi])
 ·have hf:∀ l:List Int,(l.map fun c=>[Value.int .i64 c]).flatten=ints l:=fun l=>by
   induction l with
   | nil=>rfl
   | cons x r ih=>rw [uZ,kU,ih];rfl
  have h0:zDo B 0 0 w (.slice ad n cap) (cs.map fun c=>[Value.int .i64 c]):=⟨fun _=>none,zP.empty w,fun q h=>absurd rfl h,fun ds hd=>by
   obtain ⟨c,_,rfl⟩:=List.mem_map.1 hd;refine ⟨rfl,fun j s u e1 e2=>?_⟩
   match j with
   | 0=>simp [shp] at e1 e2;subst e1 e2;exact ⟨_,rfl⟩
   | _+1=>simp [shp] at e1⟩
  exact h0.done (n:=n) (by simpa using hn) rfl (by rw [hf];exact ho) hB hl
def zO2 (B:Nat) (cs:List Int) (mu:Int) (bs:List Bd) (e:Ending) (w':World):Prop:=∃ ca cc ta tc,e=.returned (.agg #[.slice ca cs.length cc, .int .i64 mu, .slice ta bs.length tc]) /\ zAf w' (Since B w') cs ca /\ zAk w' (Since B w') bs ta /\ zDM B w' fun rho=>zCl rho 0 900000001 cs.length ca /\ zCl rho 3 900000001 bs.length ta
theorem zNp (cs:List Int) (mu:Int) (bs:List Bd) (w:World) (F:Nat -> Prop) (uca uta:Option Addr) (ucc utc:Nat) (hN:zAf w F cs uca) (hT:zAk w F bs uta) (hsz:zAy bs < 900000000) (h1:cs.length < 1000000000) (h2:bs.length < 1000000000) :
 Calls Tryz.prog 8 #[.agg #[.slice uca cs.length ucc, .int .i64 mu, .slice uta bs.length utc]] w fun e w'=>zO2 w.heap.size cs mu bs e w' /\ Keeps zA w w':=by
 have HS:Hid (∀ W,Keeps zA w W -> zAD W (.slice uca cs.length ucc) cs.length (ints cs)):=fun W hk=>zAf.src (hN.keeps hk (fun _ _ h=>h))
 have HT:=yB hT;have HSZ:=yB hsz;obtain ⟨nc,hnc⟩:=eX cs.length;obtain ⟨nt,hnt⟩:=eX bs.length;have HNN:Hid (nc=cs.length /\ nt=bs.length):=⟨hnc,hnt⟩;obtain ⟨i0,hi0,hx0,hx1,hx2⟩:=info_parts zA3;obtain ⟨j0,hj0,hz0,hz1,hz2⟩:=info_parts zMW;obtain ⟨Q,hQ⟩:=eX (α:=Ending -> World -> Prop) (fun e w'=>zO2 w.heap.size cs mu bs e w' /\ Keeps zA w w');rw [<- hQ];have HQ:=yB hQ;rw [<- hnc] at HS h1 ⊢;rw [<- hnt] at h2 ⊢;clear hN hT hsz hnc hnt hQ;go_enter Tryz.func8,Tryz.ntmps8
 go_upto_region 1 with fail
 obtain ⟨b1,wA,e1,e2,R1,KA,hsz⟩:=newRow w [.slice uca nc ucc, .int .i64 mu, .slice uta nt utc] 25;try rw [e1]
 try rw [e2]
 obtain ⟨b2,wB,e3,e4,R2,KB,_⟩:=newRow wA [.slice none 0 0, .int .i64 0, .slice none 0 0] 25;try rw [e3]
 try rw [e4]
 rw [show b1+1=b2 from hsz.out.symm.trans e3];have y1:=(R1.keeps KB (fun h=>h)).zB5;have kB:=zH wB;go_upto_region 2 with fail
 obtain ⟨b3,w1,e5,e6,R3,KC,_⟩:=newRow wB [.slice none 0 0, .int .i64 mu, .slice none 0 0] 25;try rw [e5]
 try rw [e6]
 have HR1:=yB ((R1.keeps KB (fun h=>h)).keeps KC (fun h=>h));have HR2:=yB (R2.keeps KC (fun h=>h));have HR3:=yB R3;have HK1:=yB ((KA.zB KB).zB KC);have HBB:Hid (w.heap.size <= b1 /\ b1 < b2 /\ b2 < b3 /\ b3 < w1.heap.size):=⟨by omega,by have:=R1.lt (by simp);omega,by have:=R2.lt (by simp);omega,R3.lt (by simp)⟩;have y1':=HR1.out.zB5;have y3:=R3.zB5;have k1:=zH w1;clear e1 e2 e3 e4 e5 e6 hsz R1 R2 R3 KA KB KC y1 kB;go_upto_region 3 with (at_builtin;refine zI _ (by rfl) _ _ 22 (by rfl) 0 3 i0 _ 1 8 xG hi0 hx0 hx1 hx2 rfl (by decide) (.slice none 0 0) 0 ([]) (by rfl) (xJ _ _ _ _) (.slice uca nc ucc) nc (ints cs) (by rfl) (HS.out _ HK1.out) (by rw [zAE,vZ,HNN.out.1]) (zDj cs) (by unfold maxLen;omega) (by omega) (yJ _) ?_;intro ca cc w5 hout;have HAO:=yB hout;have zr:=HR3.out.keeps (xV hout (yC (fun q=>False) _) (fun q e _=>by exact J190 _)) (fun h=>h);have zc:=zr.cell (k:=0) rfl;have zf:=zr.free (k:=0) (by simp);have HZR:=yB zr;clear hout zr)
 have hao:zAB w1 0 3 1 (.slice none 0 0) nc (ints cs) ca cc w5:=by have h:=HAO.out;rw [yZ,List.nil_append] at h;exact h
 have k5:Keeps zA w1 w5:=hao.keeps (yC _ _) (fun q e _=>by exact J190 _);have kS:Keeps (fun q=>q=b3) w5 (w5.setCell ⟨b3,0,none⟩ (.slice ca nc cc)):=(yC (fun q=>q=b3) w5).setCell (p:=⟨b3,0,none⟩) (fun _=>rfl) _;have hr3:zC (w5.setCell ⟨b3,0,none⟩ (.slice ca nc cc)) b3 [.slice ca nc cc, .int .i64 mu, .slice none 0 0]:=HZR.out.set 0 (by simp) _;clear zc zf y1' y3 k1;generalize w5.setCell ⟨b3,0,none⟩ (.slice ca nc cc)=w6 at kS hr3 ⊢;have hb:b3 < w1.heap.size:=HBB.out.2.2.2
 have hown:∀ q,(Value.slice ca nc cc).ownBlock=some q -> w1.heap.size <= q:=fun q e=>by
  rcases hao.2.2 q e with g | g
  ·simp [Value.ownBlock] at g
  ·omega
 have HCE:Hid (zAf w6 (Since w1.heap.size w6) cs ca /\ zMf w1.heap.size w6 0 1 nc ca):=zMm (zG hao.1 kS (fun q e e2=>by have e2':q=b3:=e2;have:=hown q e;omega)) HNN.out.1 hown (by omega);have K16:Hid (Keeps (fun q=>q=b3) w1 w6):=(k5.mono (fun _ _ h=>h.elim)).trans kS (fun _ _ h=>h);have HR16:=yB (HR1.out.keeps K16.out (fun e=>by have e':b1=b3:=e;have:=HBB.out;omega));have HR26:=yB (HR2.out.keeps K16.out (fun e=>by have e':b2=b3:=e;have:=HBB.out;omega));have HR36:=yB hr3;obtain ⟨B,hB⟩:=eX w6.heap.size;have HB:Hid (B=w6.heap.size /\ w1.heap.size <= B):=⟨hB,by rw [hB];exact K16.out.size⟩;clear hao k5 kS hr3 hown hb hB HAO HZR;go_wp2_with fail
 go_loopw [4] (fun iv wr=>∃ (i:Nat) (da:Option Addr) (dc:Nat) (css:List (List Value)),i <= nt /\ iv=.int .i64 i /\ Hid (zC wr b3 [.slice ca nc cc, .int .i64 mu, .slice da i dc]) /\ Hid (Acc BdR (fun _=>False) B 2 70 wr (.slice da i dc) (bs.take i) css) /\ Hid (zDo B 3 900000000 wr (.slice da i dc) css) /\ Hid (Keeps (fun q=>q=b3) w6 wr)) (fun iv _=>nt - (intOf iv).toNat)
 case atStart=>exact ⟨0,none,0,[],yJ _,rfl,HR36.out,Acc.nil w6,zDo.nil w6,yC _ _⟩
 case round =>
  obtain ⟨i,da,dc,css,hi,rfl,HO,HA,HRA,HK⟩:=hrel;have y1:=(HR16.out.keeps HK.out (fun e=>by have e':b1=b3:=e;have:=HBB.out;omega)).zB5;have kr:=zH wr;have HB3:Hid (b3 < w1.heap.size /\ w1.heap.size <= B /\ B <= wr.heap.size /\ ∀ q,(Value.slice da i dc).ownBlock=some q -> B <= q /\ q < wr.heap.size):=⟨HBB.out.2.2.2,HB.out.2,by have:=HB.out;have:=HK.out.size;omega,fun q e=>⟨HA.out.2.2.1 q e,zO HA.out.2.1 e⟩⟩;by_cases hlt:i < nt
  ·have i1:(0:Int) <= i:=by omega
   have i2:(i:Int) < nt:=by omega
   have hltb:i < bs.length:=by have:=HNN.out.2;omega
   have HKw:Hid (Keeps zA w wr):=(HK1.out.trans (K16.out) (fun q hq e=>by have e':q=b3:=e;have:=HBB.out;omega)).trans HK.out (fun q hq e=>by have e':q=b3:=e;have:=HBB.out;omega);obtain ⟨g,o,ba,bc,e1,hg,d0,d1,hx⟩:=(HT.out.keeps HKw.out (fun _ _ h=>h)) i hltb;subst e1;have hm:=zC9 (yM hltb);have d:∀ W,Keeps zA wr W -> W.cell? ⟨g,o+i*2,none⟩=some (.int .i64 bs[i].regs) /\ W.cell? ⟨g,o+i*2+1,none⟩=some (.slice ba bs[i].acts.length bc):=fun W q=>⟨q.cell (fun h=>h) d0,q.cell (fun h=>h) d1⟩
   obtain ⟨y,hy⟩:=eX (bs[i]);have HY:=yB hy;rw [<- hy] at d hx hm;have HX:=yB hx;have HM:Hid (Ac.szL y.acts < 900000000):=by have:=HSZ.out;show _ < _;omega
   clear d0 d1 hx hy hg hm;have HLEN:Hid ((bs.take i).length=i):=by show _=_;rw [uF];omega
   have i3:i+1 <= 1000000000:=by omega
   go_upto_region 7 with fail
   obtain ⟨b7,w7,e1,e2,R7,K7,_⟩:=newRow wr [.int .i64 y.regs, .slice none 0 0] 70;try rw [e1]
   try rw [e2]
   have HB7:Hid (wr.heap.size <= b7 /\ b7 < w7.heap.size):=⟨by omega,R7.lt (by simp)⟩;have c71:∀ W,Keeps zA w7 W -> W.cell? ⟨b7,1,none⟩=some (.slice none 0 0):=fun W q=>(R7.keeps q (fun h=>h)).cell (k:=1) rfl
   have f71:=R7.frz (k:=1) (by simp);have HR7:=yB R7;have HK7:=yB K7;have kr7:=K7;have k7:=zH w7;have HC:=yB (zM1 _ y.acts (yV _) HM.out w7 F ba bc (HX.out.keeps K7 (fun _ _ h=>h)));clear e1 e2 R7 K7 kr;go_upto_region 8 with (go_at_call 30;refine HC.out.mono ?_;rintro e w8 ⟨⟨aa,ac,rfl,s8,r8⟩,k8⟩;have HS8:=yB s8;have HP8:=yB r8;have HK8:=yB k8;clear s8 r8)
   have R9:zC (w8.setCell ⟨b7,1,none⟩ (.slice aa y.acts.length ac)) b7 [.int .i64 y.regs, .slice aa y.acts.length ac]:=(HR7.out.keeps HK8.out (fun h=>h)).set 1 (by simp) _;have K9:Keeps (fun q=>q=b7) w8 (w8.setCell ⟨b7,1,none⟩ (.slice aa y.acts.length ac)):=(yC (fun q=>q=b7) w8).setCell (p:=⟨b7,1,none⟩) (fun _=>rfl) _;generalize w8.setCell ⟨b7,1,none⟩ (.slice aa y.acts.length ac)=w9 at R9 K9 ⊢;have HKS9:=yB K9;have HKR9:Hid (Keeps zA wr w9):=(HK7.out.zB HK8.out).trans K9 (fun q hq e=>by exact J214 _);have HO9:=yB (HO.out.keeps HKR9.out (fun h=>h));have z0:∀ W,Keeps zA w9 W -> W.cell? ⟨b7,0,none⟩=some (.int .i64 y.regs):=fun W q=>(R9.keeps q (fun h=>h)).cell (k:=0) rfl
   have z1:∀ W,Keeps zA w9 W -> W.cell? ⟨b7,1,none⟩=some (.slice aa y.acts.length ac):=fun W q=>(R9.keeps q (fun h=>h)).cell (k:=1) rfl
   have y3:=HO9.out.zB5;have k9:=zH w9;clear R9 K9 HC k8 k7 kr7 c71 f71 d y1;go_upto_region 5 with (at_builtin;refine zI _ (by rfl) _ _ 23 (by rfl) 0 70 j0 _ 2 32 Tryz.underlying23 hj0 hz0 hz1 hz2 rfl (by decide) (.slice da i dc) i (css.flatten) (by rfl) (by have h1:=(HA.out.zD zLC HKR9.out).2.1;rw [HLEN.out] at h1;exact zG h1 ((yC zA w9).alloc _) (fun _ _ h=>h)) (.slice (some ⟨w9.heap.size,0,none⟩) 1 1) 1 ([.int .i64 y.regs, .slice aa y.acts.length ac]) (by rfl) (xN (yN (yK w9 _))) rfl (by simp [Value.oneCell']) (by unfold maxLen;omega) (by omega) (yJ _) ?_;intro da2 dc2 wz hout;have HAO:=yB hout;have zr:=(HO9.out.keeps ((yC zA w9).alloc _) (fun h=>h)).keeps (xV hout (yC (fun q=>(Value.slice da i dc).ownBlock=some q) _) (fun q e _=>e)) (fun e=>by have:=HB3.out.2.2.2 _ e;have:=HB3.out;omega);have zc:=zr.cell (k:=2) rfl;have zf:=zr.free (k:=2) (by simp);have HZR:=yB zr;clear hout zr)
   have hka:Keeps zA w9 (w9.alloc (.cells #[.int .i64 y.regs, .slice aa y.acts.length ac] 70)):=(yC zA w9).alloc _;have HAOO:Hid (zAB (w9.alloc (.cells #[.int .i64 y.regs, .slice aa y.acts.length ac] 70)) 0 70 2 (.slice da i dc) (i+1) (css.flatten++[.int .i64 y.regs, .slice aa y.acts.length ac]) da2 dc2 wz):=HAO.out;generalize w9.alloc (.cells #[.int .i64 y.regs, .slice aa y.acts.length ac] 70)=wa at hka HAOO;clear HAO;have z7:=HB7.out;have z3:=HB3.out;have s8:=HK8.out.size;have s9:=HKS9.out.size;have sa:=hka.size;have m1:Keeps (fun q=>q=b7) w8 wa:=HKS9.out.trans hka (fun _ _ h=>h.elim);have hel:BdR wa (zBU (fun _=>False) B wa (.slice da i dc)) y [.int .i64 y.regs, .slice aa y.acts.length ac]:=⟨aa,ac,rfl,(HS8.out.keeps m1 (fun q hq e=>by have e':q=b7:=e;have:=hq.1;omega)).mono (fun q hq=>.inr ⟨by have:=hq.1;omega,by have:=hq.2;omega,fun e=>by have:=(z3.2.2.2 q e).2;have:=hq.1;omega⟩)⟩;have hpush:=(HA.out.zD zLC (HKR9.out.zB hka)).push zLC (fun k hk=>hk.elim) (by have:=HKR9.out.size;omega) hel (by decide) (ad:=da2) (cap:=dc2) (w':=wz) (by rw [HLEN.out];exact HAOO.out);rw [HLEN.out] at hpush;obtain ⟨rho',u1,u2,u3⟩:=zDM.keeps HP8.out m1 (fun q e=>.inl (by have e':q=b7:=e;omega))
   have hrp:=HRA.out.push (HKR9.out.zB hka) (fun q h=>h.elim) z3.2.2.1 (fun q e=>(z3.2.2.2 q e).2) u1 (fun q hq=>⟨by have:=(u2 q hq).1;omega,(u2 q hq).2⟩) (cs:=[.int .i64 y.regs, .slice aa y.acts.length ac]) ⟨rfl,fun j s u e1 e2=>by
    have v3:=u3.zKz (r':=900000000) (by have:=HM.out;omega);match j with
    | 0=>simp [shp] at e1 e2;subst e1 e2;exact ⟨_,rfl⟩
    | 1=>simp [shp] at e1 e2;subst e1 e2;exact ⟨_,_,_,rfl,v3⟩
    | _+2=>simp [shp] at e1⟩ HAOO.out
   have kAO:=xV HAOO.out (yC (fun q=>(Value.slice da i dc).ownBlock=some q) _) (fun q e _=>e);have kS:Keeps (fun q=>q=b3) wz (wz.setCell ⟨b3,2,none⟩ (.slice da2 (i+1) dc2)):=(yC (fun q=>q=b3) wz).setCell (p:=⟨b3,2,none⟩) (fun _=>rfl) _;have HO2:Hid (zC (wz.setCell ⟨b3,2,none⟩ (.slice da2 (i+1) dc2)) b3 [.slice ca nc cc, .int .i64 mu, .slice da2 (i+1) dc2]):=HZR.out.set 2 (by simp) _
   have HA2:Hid (Acc BdR (fun _=>False) B 2 70 (wz.setCell ⟨b3,2,none⟩ (.slice da2 (i+1) dc2)) (.slice da2 (i+1) dc2) (bs.take (i+1)) (css++[[.int .i64 y.regs, .slice aa y.acts.length ac]])):=by
    rw [take_at hltb,<- HY.out];exact hpush.keeps zLC kS (fun q e=>⟨by have e':q=b3:=e;omega,fun h=>h⟩)
   have HRA2:=yB (hrp.keeps kS (fun q e=>by have e':q=b3:=e;omega));have HK2:Hid (Keeps (fun q=>q=b3) w6 (wz.setCell ⟨b3,2,none⟩ (.slice da2 (i+1) dc2))):=(((HK.out.trans HKR9.out (fun _ _ h=>h.elim)).trans hka (fun _ _ h=>h.elim)).trans kAO (fun q hq e=>by have:=z3.2.2.2 q e;have:=HB.out;omega)).trans kS (fun _ _ h=>h);clear hpush hrp hel hka u1 u2 u3 kAO kS HAOO zc zf z0 z1 y3 k9 z7 z3 s8 s9 sa m1;exact J122 _
  ·obtain rfl:i=nt:=by omega
   have HRR:=yB (HR26.out.keeps HK.out (fun e=>by have e':b2=b3:=e;have:=HBB.out;omega));have y3:=HO.out.zB5;have f20:=HRR.out.frz (k:=0) (by simp);have f21:=HRR.out.frz (k:=1) (by simp);have f22:=HRR.out.frz (k:=2) (by simp);have y2:=HRR.out.zB5;go_wp2_with fail
   have hrow:zC (((wr.setCell ⟨b2,0,none⟩ (.slice ca nc cc)).setCell ⟨b2,1,none⟩ (.int .i64 mu)).setCell ⟨b2,2,none⟩ (.slice da i dc)) b2 [.slice ca nc cc, .int .i64 mu, .slice da i dc]:=((HRR.out.set 0 (by simp) _).set 1 (by simp) _).set 2 (by simp) _;have hks:Keeps (fun q=>q=b2) wr (((wr.setCell ⟨b2,0,none⟩ (.slice ca nc cc)).setCell ⟨b2,1,none⟩ (.int .i64 mu)).setCell ⟨b2,2,none⟩ (.slice da i dc)):=(((yC (fun q=>q=b2) wr).setCell (p:=⟨b2,0,none⟩) (fun _=>rfl) _).setCell (p:=⟨b2,1,none⟩) (fun _=>rfl) _).setCell (p:=⟨b2,2,none⟩) (fun _=>rfl) _;generalize ((wr.setCell ⟨b2,0,none⟩ (.slice ca nc cc)).setCell ⟨b2,1,none⟩ (.int .i64 mu)).setCell ⟨b2,2,none⟩ (.slice da i dc)=wE at hrow hks ⊢;refine xA (v:=.agg #[.slice ca nc cc, .int .i64 mu, .slice da i dc]) (by simp [results,Tryz.results8,go_sem,hrow.cell (k:=0) rfl,hrow.cell (k:=1) rfl,hrow.cell (k:=2) rfl]) rfl ?_
   obtain ⟨n1,n2⟩:=HNN.out;have hA:=HA.out;rw [n2,xT] at hA;obtain ⟨h1,h2⟩:=hA.elems zLC (ad:=da) (n:=bs.length) (cap:=dc) rfl;have hbb:w.heap.size <= b2 /\ b2 < b3 /\ b3 < w1.heap.size /\ w1.heap.size <= B:=by have:=HBB.out;have:=HB.out;omega
   have h3:=(zAk.ofElems h1 h2).keeps hks (fun k hk e=>by have e':k=b2:=e;rcases hk with hk | hk;exact hk;omega);have hcr:=(HRA.out.done (n:=i) (by rw [n2];exact hA.1.symm) rfl (by rw [n2];exact hA.2.1) (fun q e=>(HB3.out.2.2.2 q e).1) (by omega)) |>.keeps hks (fun q e=>.inl (by have e':q=b2:=e;omega))
   have hkw6:Keeps (fun q=>q=b2 \/ q=b3) w6 wE:=(HK.out.mono (fun _ _ h=>.inr h)).trans hks (fun _ _ h=>.inl h);have hall:=zDM.both HCE.out.2 (zDV _ _ _ _) hkw6 (fun q e=>by rcases e with e | e <;> omega) hcr (zDV _ _ _ _) (by have:=HB.out;omega) (by omega);have hnum:=HCE.out.1.keeps hkw6 (fun q hq e=>by have:=hq.1;rcases e with e | e <;> omega);have hs6:w6.heap.size <= wE.heap.size:=hkw6.size;rw [HQ.out,n1,n2];refine ⟨⟨ca,cc,da,dc,rfl,hnum.mono (fun q hq=>⟨by have:=hq.1;omega,by have:=hq.2;omega⟩),h3.mono (fun q hq=>hq.elim False.elim fun hq=>⟨by omega,by have:=hks.size;omega⟩),?_⟩,?_⟩
   ·obtain ⟨rho,g1,g2,g3,g4⟩:=hall
    rw [n1] at g3;rw [n2] at g4;exact ⟨rho,g1,fun q hq=>⟨by have:=(g2 q hq).1;omega,(g2 q hq).2⟩,g3.zKz (by omega),g4⟩
   ·exact ((HK1.out.trans K16.out (fun q hq e=>by have e':q=b3:=e;omega)).trans hkw6 (fun q hq e=>by rcases e with e | e <;> omega))
theorem zMn {X Y:PMa} (mx:Moves X) (my:Moves Y) {F N M L:Nat -> Prop} {w:World} (hx:X F N w) (hy:Y (fun _=>False) M w) (hc:∀ q,q < w.heap.size -> N q \/ M q) (hF:∀ q,F q -> M q /\ q < w.heap.size) (hL:∀ q,L q -> N q /\ M q /\ q < w.heap.size):Room (zC7 X Y zCy zCy) L w :=
 ⟨fun i=>by match i with
  | 0=>exact mx
  | 1=>exact my
  | 2=>exact zHE
  | 3=>exact zHE
  | _+4=>exact zHE,
  ⟨fun i=>if i=0 then F else fun _=>False,fun i=>if i=0 then N else if i=1 then M else fun _=>True,fun i=>by match i with
   | 0=>exact hx
   | 1=>exact hy
   | 2=>trivial
   | 3=>trivial
   | _+4=>trivial,fun i j q hij hq=>by
     match i,j with
     | 0,0=>exact absurd rfl hij
     | 0,1=>exact hc q hq
     | 1,0=>exact (hc q hq).symm
     | 1,1=>exact absurd rfl hij
     | _+2,_=>exact .inl trivial
     | _,_+2=>exact .inr trivial,fun i j q hij hq=>by
     match i,j with
     | 0,0=>exact absurd rfl hij
     | 0,1=>exact (hF q hq).1
     | 0,_+2=>trivial
     | _+1,_=>exact hq.elim,fun i q hq=>by
     match i with
     | 0=>exact (hL q hq).1
     | 1=>exact (hL q hq).2.1
     | _+2=>trivial,fun i q hq=>by
     match i with
     | 0=>exact (hF q hq).2
     | _+1=>exact hq.elim⟩,fun q hq=>(hL q hq).2.2⟩
section
variable {cs:List Int} {mu:Int} {bs:List Bd} {w:World} {F:Nat -> Prop} {uca uta:Option Addr} {ucc utc:Nat}
theorem zBp.copied (h:zBp w F cs bs uca uta):Calls Tryz.prog 8 #[.agg #[.slice uca cs.length ucc, .int .i64 mu, .slice uta bs.length utc]] w fun e w'=>∃ ca cc ta tc,e=.returned (.agg #[.slice ca cs.length cc, .int .i64 mu, .slice ta bs.length tc]) /\ zBp w' (Since w.heap.size w') cs bs ca ta /\ (zDM w.heap.size w' fun rho=>zCl rho 0 900000001 cs.length ca /\ zCl rho 3 900000001 bs.length ta) /\ Keeps zA w w' :=
 (zNp cs mu bs w F uca uta ucc utc h.nums h.bds h.sz h.l1 h.l2).mono fun e w' ⟨⟨ca,cc,ta,tc,e1,h1,h2,h3⟩,hk⟩=>⟨ca,cc,ta,tc,e1,⟨h1,h2,fun k hq=>hq.2,h.kinds,h.sz,h.l1,h.l2⟩,h3,hk⟩
theorem zIg (h:zBp w F cs bs uca uta) (rv:Value) (hr:newR ⟨cs,mu,bs⟩ ≠ 0):Calls Tryz.prog 3 #[.agg #[.slice uca cs.length ucc, .int .i64 mu, .slice uta bs.length utc],rv] w fun e w'=>e=.returned (.bool true) /\ Keeps zA w w':=by
 have HNC:Hid (∀ W ca cc ta tc G,zBp W G cs bs ca ta -> Calls Tryz.prog 9 #[.agg #[.slice ca cs.length cc, .int .i64 mu, .slice ta bs.length tc]] W fun e w'=>e=.returned (.tuple #[.pointer none, .int .i64 (newR ⟨cs,mu,bs⟩)]) /\ Keeps zA W w'):=fun W ca cc ta tc G hu=>hu.zOs hr
 have HRN:Hid (∀ W,Keeps zA w W -> Calls Tryz.prog 7 #[.agg #[.slice uca cs.length ucc, .int .i64 mu, .slice uta bs.length utc]] W fun e w'=>e=.returned (.tuple #[.pointer none, .int .i64 (newR ⟨cs,mu,bs⟩)]) /\ Keeps zA W w'):=fun W hk=>(h.zD hk).zOW hr
 have HCC:Hid (∀ W,Keeps zA w W -> Calls Tryz.prog 8 #[.agg #[.slice uca cs.length ucc, .int .i64 mu, .slice uta bs.length utc]] W fun e w'=>∃ ca cc ta tc,e=.returned (.agg #[.slice ca cs.length cc, .int .i64 mu, .slice ta bs.length tc]) /\ zBp w' (Since W.heap.size w') cs bs ca ta /\ (zDM W.heap.size w' fun rho=>zCl rho 0 900000001 cs.length ca /\ zCl rho 3 900000001 bs.length ta) /\ Keeps zA W w'):=fun W hk=>(h.zD hk).copied
 generalize newR ⟨cs,mu,bs⟩=rr at HNC HRN;obtain ⟨nc,hnc⟩:=eX cs.length;obtain ⟨nt,hnt⟩:=eX bs.length;rw [<- hnc,<- hnt] at HNC HRN HCC ⊢;clear h hr hnc hnt;go_enter Tryz.func3,Tryz.ntmps3
 go_upto_region 1 with fail
 obtain ⟨b1,w1,e1,e2,R1,K1,_⟩:=newRow w [.slice uca nc ucc, .int .i64 mu, .slice uta nt utc] 25;try rw [e1]
 try rw [e2]
 have HR1:=yB R1;have y1:=R1.zB5;have k1:=zH w1;have HK1:=yB K1;clear e1 e2 R1 K1;have HS:=yB (zGZ w1);go_upto_region 2 with (go_at_call 6;refine HS.out.mono ?_;rintro e w2 ⟨rfl,k2⟩;have HK2:Hid (Keeps zA w w2):=HK1.out.zB k2;clear HS)
 go_upto_region 3 with (go_at_call 7;refine (HRN.out _ HK2.out).mono ?_;rintro e w3 ⟨rfl,k3⟩;have HK23:=yB k3;have HK3:Hid (Keeps zA w w3):=HK2.out.zB k3;have k13:=k2.zB k3;clear k3)
 have HCP:=yB (HCC.out w3 HK3.out);go_upto_region 4 with (go_at_call 8;refine HCP.out.mono ?_;rintro e w4 ⟨ca,cc,ta,tc,rfl,hu,hc,k4⟩;have HU4:=yB hu;have HC4:=yB hc;have HK34:=yB k4;clear hu hc k4)
 obtain ⟨b8,w5,e1,e2,R8,K5,_⟩:=newRow w4 [.slice ca nc cc, .int .i64 mu, .slice ta nt tc] 25;rw [e1,e2];have HR8:=yB R8;have HK35:Hid (Keeps zA w3 w5):=HK34.out.zB K5;have HNW:=yB (HNC.out w5 ca cc ta tc _ (HU4.out.zD K5));have y8:=R8.zB5;have k5:=zH w5;have HB8:Hid (w4.heap.size <= b8 /\ b8 < w5.heap.size /\ w4.heap.size <= w5.heap.size /\ w3.heap.size <= w4.heap.size):=⟨by omega,R8.lt (by simp),K5.size,HK34.out.size⟩;have HC5:=yB (zDM.keeps HC4.out K5 (fun _ h=>h.elim));clear e1 e2 R8 K5 HCP HCC HNC HC4 y1 k1 k2 k13 HRN;go_wp2_with (go_at_call 9;refine HNW.out.mono ?_;rintro e w6 ⟨rfl,k6⟩;have HK6:=yB k6;clear k6)
 go_ret
 exact ⟨rfl,(HK3.out.zB HK35.out).zB HK6.out⟩
theorem zIM (h:zBp w F cs bs uca uta) (ra:Option Addr) (rc:Nat) (xs:List Int) (hx:zAD w (.slice ra xs.length rc) xs.length (ints xs)) (hr:newR ⟨cs,mu,bs⟩=0):Calls Tryz.prog 3 #[.agg #[.slice uca cs.length ucc, .int .i64 mu, .slice uta bs.length utc], .slice ra xs.length rc] w fun e w'=>e=.returned (.bool true) /\ Keeps zA w w':=by
 have HNC:Hid (∀ W ca cc ta tc G,zBp W G cs bs ca ta -> Calls Tryz.prog 9 #[.agg #[.slice ca cs.length cc, .int .i64 mu, .slice ta bs.length tc]] W fun e w'=>∃ b,e=.returned (.tuple #[.pointer (some ⟨b,0,none⟩), .int .i64 0]) /\ zCn (fun q=>q < W.heap.size) w' b ⟨cs,mu,bs⟩ (zCY ⟨cs,mu,bs⟩) /\ Keeps zA W w'):=fun W ca cc ta tc G hu=>hu.zNq hr
 have HRN:Hid (∀ W,Keeps zA w W -> Calls Tryz.prog 7 #[.agg #[.slice uca cs.length ucc, .int .i64 mu, .slice uta bs.length utc]] W fun e w'=>∃ b,e=.returned (.tuple #[.pointer (some ⟨b,0,none⟩), .int .i64 0]) /\ zBa F (fun q=>q < W.heap.size) w' b ⟨cs,mu,bs⟩ (zCY ⟨cs,mu,bs⟩) /\ Keeps zA W w'):=fun W hk=>(h.zD hk).zOB hr
 have HFL:Hid (∀ q,F q -> q < w.heap.size):=h.low;have HCC:Hid (∀ W,Keeps zA w W -> Calls Tryz.prog 8 #[.agg #[.slice uca cs.length ucc, .int .i64 mu, .slice uta bs.length utc]] W fun e w'=>∃ ca cc ta tc,e=.returned (.agg #[.slice ca cs.length cc, .int .i64 mu, .slice ta bs.length tc]) /\ zBp w' (Since W.heap.size w') cs bs ca ta /\ (zDM W.heap.size w' fun rho=>zCl rho 0 900000001 cs.length ca /\ zCl rho 3 900000001 bs.length ta) /\ Keeps zA W w'):=fun W hk=>(h.zD hk).copied
 obtain ⟨u,hu⟩:=eX (α:=Un) (⟨cs,mu,bs⟩);rw [<- hu] at HNC HRN;obtain ⟨nc,hnc⟩:=eX cs.length;obtain ⟨nt,hnt⟩:=eX bs.length;rw [<- hnc,<- hnt] at HNC HRN HCC ⊢;obtain ⟨nr,hnr⟩:=eX xs.length;have HROW:=yB hx;have HNR:Hid (nr=xs.length):=hnr;rw [<- hnr] at HROW ⊢;clear h hx hr hu hnr hnc hnt;go_enter Tryz.func3,Tryz.ntmps3
 go_upto_region 1 with fail
 obtain ⟨b1,w1,e1,e2,R1,K1,_⟩:=newRow w [.slice uca nc ucc, .int .i64 mu, .slice uta nt utc] 25;try rw [e1]
 try rw [e2]
 have HR1:=yB R1;have y1:=R1.zB5;have k1:=zH w1;have HK1:=yB K1;clear e1 e2 R1 K1;have HS:=yB (zGZ w1);go_upto_region 2 with (go_at_call 6;refine HS.out.mono ?_;rintro e w2 ⟨rfl,k2⟩;have HK2:Hid (Keeps zA w w2):=HK1.out.zB k2;clear HS)
 go_upto_region 3 with (go_at_call 7;refine (HRN.out _ HK2.out).mono ?_;rintro e w3 ⟨br,rfl,hm,k3⟩;have HM3:=yB hm;clear hm;have HK23:=yB k3;have HK3:Hid (Keeps zA w w3):=HK2.out.zB k3;have k13:=k2.zB k3;clear k3)
 have HCP:=yB (HCC.out w3 HK3.out);go_upto_region 4 with (go_at_call 8;refine HCP.out.mono ?_;rintro e w4 ⟨ca,cc,ta,tc,rfl,hu,hc,k4⟩;have HU4:=yB hu;have HC4:=yB hc;have HK34:=yB k4;clear hu hc k4)
 obtain ⟨b8,w5,e1,e2,R8,K5,_⟩:=newRow w4 [.slice ca nc cc, .int .i64 mu, .slice ta nt tc] 25;rw [e1,e2];have HR8:=yB R8;have HK35:Hid (Keeps zA w3 w5):=HK34.out.zB K5;have HNW:=yB (HNC.out w5 ca cc ta tc _ (HU4.out.zD K5));have y8:=R8.zB5;have k5:=zH w5;have HB8:Hid (w4.heap.size <= b8 /\ b8 < w5.heap.size /\ w4.heap.size <= w5.heap.size /\ w3.heap.size <= w4.heap.size):=⟨by omega,R8.lt (by simp),K5.size,HK34.out.size⟩;have HC5:=yB (zDM.keeps HC4.out K5 (fun _ h=>h.elim));clear e1 e2 R8 K5 HCP HCC HNC HC4 y1 k1 k2 k13 HRN;go_upto_region 9 with (go_at_call 9;refine HNW.out.mono ?_;rintro e w6 ⟨bc,rfl,hm,k6⟩;have HM6:=yB hm;have HK56:=yB k6;clear hm)
 obtain ⟨rho,g1,g2,g3,g4⟩:=HC5.out;have HDL:Hid (∀ q,zBF rho q -> Since w3.heap.size w5 q):=g2;have HSP:=yB (zJ6 900000001 w6 rho ca ta nc cc nt tc mu (g1.zD HK56.out) (fun q hq=>yI (g2 q hq).2 HK56.out.size) g3 g4);clear g1 g2 g3 g4 HC5 HNW;go_upto_region 10 with (go_at_call 10;refine HSP.out.mono ?_;rintro e w7 ⟨rfl,_,k7⟩;have HK67:=yB k7;clear k7)
 have HP7:Hid (Room (zC7 (rM br u (zCY u)) (cM bc u (zCY u)) zCy zCy) (fun q=>q < w.heap.size) w7 /\ Keeps zA w w7):=by
  have a1:=HK2.out.size;have a2:=HK23.out.size;have a3:=HK35.out.size;have a4:=HK56.out.size;have hr5:=(HM3.out.fresh HK35.out).fresh HK56.out;refine ⟨zMn zAm.moves zAm.moves (hr5.zGF HK67.out fun q hq=>⟨.inl (.inr (HDL.out q hq)),fun e=>by have:=(HDL.out q hq).1;have:=HFL.out q e;omega⟩) (zAm.zGF HM6.out HK67.out fun q hq=>⟨(HDL.out q hq).2,fun e=>e⟩) (fun q hq=>?_) (fun q hq=>⟨.inl (by have:=HFL.out q hq;show _ < _;omega),by have:=HFL.out q hq;have:=HK67.out.size;omega⟩) (fun q hq=>⟨.inl (.inl (.inl (by have hq:q < w.heap.size:=hq;show _ < _;omega))), .inl (by have hq:q < w.heap.size:=hq;show _ < _;omega),by have hq:q < w.heap.size:=hq;have:=HK67.out.size;omega⟩),((HK3.out.zB HK35.out).zB HK56.out).trans HK67.out (fun q hq e=>by have:=(HDL.out q e).1;omega)⟩
  by_cases c1:q < w5.heap.size
  ·exact .inr (.inl c1)
  ·by_cases c2:q < w6.heap.size
   ·exact .inl (.inl (.inr ⟨by omega,c2⟩))
   ·exact .inr (.inr ⟨by omega,hq⟩)
 have HLK:Hid (Calls Tryz.prog 11 #[.pointer (some ⟨bc,0,none⟩), .pointer (some ⟨br,0,none⟩)] w7 fun e w'=>e=.returned (.bool true) /\ Keeps zA w7 w'):=by
  obtain ⟨D0,N0,h0⟩:=HP7.out.1.get 0;obtain ⟨D1,N1,h1⟩:=HP7.out.1.get 1;exact zGn (show zB7 D1 N1 w7 bc u (zCY u) from h1) (show zBa D0 N0 w7 br u (zCY u) from h0)
 clear HM3 HM6 HK2 HK3 HK23 HK34 HK35 HK56 HK67 HSP HU4 HR1 HR8 HB8 HDL HK1 y8 k5 k6;go_upto_region 11 with (go_at_call 11;refine HLK.out.mono ?_;rintro e w8 ⟨rfl,k8⟩;have HP8:Hid (Room (zC7 (rM br u (zCY u)) (cM bc u (zCY u)) zCy zCy) (fun q=>q < w.heap.size) w8 /\ Keeps zA w w8):=⟨HP7.out.1.zHX k8,HP7.out.2.zB k8⟩;clear k8)
 clear HP7 HLK;go_wp2_with fail
 go_loopw [11,12] (fun fv kv wr=>∃ (i:Nat) (m:zm),i <= 200 /\ fv=.bool true /\ kv=.int .i64 i /\ Hid (Room (zC7 (rM br u m) (cM bc u m) zCy zCy) (fun q=>q < w.heap.size) wr /\ Keeps zA w wr)) (fun _ kv _=>200 - (intOf kv).toNat)
 case atStart=>exact ⟨0,zCY u,yJ _,rfl,rfl,HP8.out⟩
 case round =>
  obtain ⟨i,m,hi,rfl,rfl,HP⟩:=hrel;clear HP8;have i1:(0:Int) <= i:=by omega
  by_cases hin:i < nr
  ·have i2:(i:Int) < nr:=by omega
   by_cases h200:i < 200
   ·have i3:(i:Int) < 200:=by omega
    obtain ⟨g,o,rfl,c0⟩:=zLH (HROW.out.zD HP.out.2) HNR.out hin;generalize xs.getD i 0=r at c0;obtain ⟨es,hes⟩:=eX (zBu m);obtain ⟨D0,N0,hr0⟩:=HP.out.1.get 0;have hr0:zBa D0 N0 wr br u m:=hr0
    have hel:es.length <= 1000:=by
     have h1:=zFg m m.zM.length;rw [zJn] at h1;have h2:=hr0.ok.zM;have h3:=(zAq hr0.right).2.1;rw [hes];omega
    have RE:Hid (∀ W,Keeps zA wr W -> Calls Tryz.prog 13 #[.pointer (some ⟨br,0,none⟩)] W (zBW W es)):=fun W hk=>by rw [hes];exact zBa.zMK (hr0.zD hk)
    have HEL:=yB hel;have HC0:=yB c0;clear hes hel hr0;go_upto_region 14 with fail
    clear c0;refine zFv 7 (by kernel_rfl) [some (.slice (some ⟨g,o,none⟩) nr rc),some (.int .i64 (i:Int)),some (.pointer (some ⟨g,o+i,none⟩)),some (.int .i64 r),some (.pointer (some ⟨br,0,none⟩)),none,some (.int .i64 (zEx r es))] rfl (fun _ v W=>(∃ ad cap,v=.slice ad es.length cap) /\ zAD W v es.length (ints es)) (fun _ _ _ _ h hk=>⟨h.1,h.2.zD hk⟩) ?_ ?_
    ·refine ⟨?_,?_,?_,?_,?_,?_,?_,trivial⟩ <;> (intro vs gs W Q' hR hd hK;have HRW:Keeps zA wr W:=((zH wr).drew).zB hR;have c0:=HRW.cell (p:=⟨g,_,none⟩) (fun h=>h) HC0.out;simp only [zEU,zCi,zGO,zJ,tz,Option.bind,Act.put] at hd hK ⊢;try simp only [hd] at hK ⊢)
     all_goals try (try clear hd;go_wp2_with (fail);first | exact hK _ _ (yC _ _) rfl)
     ·clear hd
      go_wp2_with (go_at_call 13;refine (RE.out _ HRW).mono ?_;rintro e W1 ⟨v,rfl,g1,g2,g3⟩)
      exact hK _ _ g2 ⟨zBk.slice (w:=w) g1,zEh g1⟩
     ·obtain ⟨e3,⟨⟨ad,cap,e5⟩,h5⟩,-⟩:vs 3=.int .i64 r /\ ((∃ ad cap,vs 5=.slice ad es.length cap) /\ zAD W (vs 5) es.length (ints es)) /\ True:=by simpa using hd
      rw [e5] at h5;simp only [e3,e5] at hK ⊢;have HPK:=yB (zMQ W r _ es h5 HEL.out);clear hd e3 e5 h5;go_wp2_with (go_at_call 12;refine HPK.out.mono ?_;rintro e W1 ⟨rfl,g1⟩)
      exact hK _ _ g1 rfl
    ·intro vs wA hR hF
     have KA:Keeps zA wr wA:=((zH wr).drew).zB hR;have e6:vs 6=_:=hF 6 (by decide);simp only [zJ,tz,Option.bind,Act.put];rw [e6];clear hF e6;generalize vs 0=v0;generalize vs 1=v1;generalize vs 2=v2;generalize vs 3=v3;generalize vs 4=v4;generalize vs 5=v5;have HPA:Hid (Room (zC7 (rM br u m) (cM bc u m) zCy zCy) (fun q=>q < w.heap.size) wA /\ Keeps zA w wA):=⟨HP.out.1.zHX KA,HP.out.2.zB KA⟩;generalize zEx r es=tt;clear hR vs KA HP RE HC0 HEL;rcases hst:stepM u m tt with ⟨m',⟨xt,xk,xo,xv,xb⟩,f⟩
     have RS:Hid (Calls Tryz.prog 14 #[.pointer (some ⟨br,0,none⟩), .int .i64 tt] wA fun e w'=>e=.returned (.tuple #[.agg #[.int .i64 xt, .int .i64 xk, .int .i64 xo, .int .i64 xv, .int .i64 xb], .int .i64 f]) /\ Room (zC7 (rM br u m') (cM bc u m) zCy zCy) (fun q=>q < w.heap.size) w' /\ Keeps (fun q=>¬ (fun q=>q < w.heap.size) q) wA w'):=by
      have h:=Room.zOf HPA.out.1 tt;rw [hst] at h;exact h
     go_upto_region 15 with fail
     go_upto_region 16 with (go_at_call 14;refine RS.out.mono ?_;rintro e wB ⟨rfl,hb,kb⟩;have HB:=yB hb;have KB:=yB kb;clear hb kb)
     obtain ⟨q1,wC,e1,e2,RY,KY,_⟩:=newRow wB [.int .i64 xt, .int .i64 xk, .int .i64 xo, .int .i64 xv, .int .i64 xb] 40;rw [e1,e2];have HRY:=yB RY;have HKY:=yB KY;have HQ1:Hid (wB.heap.size <= q1 /\ q1 < wC.heap.size):=⟨by omega,RY.lt (by simp)⟩;have HC:Hid (Room (zC7 (rM br u m') (cM bc u m) zCy zCy) (fun q=>q < w.heap.size \/ (wB.heap.size <= q /\ q < wC.heap.size)) wC):=HB.out.zMA KY
     have CS:Hid (Calls Tryz.prog 15 #[.pointer (some ⟨bc,0,none⟩), .int .i64 tt] wC fun e w'=>e=.returned (.tuple #[.agg #[.int .i64 xt, .int .i64 xk, .int .i64 xo, .int .i64 xv, .int .i64 xb], .int .i64 f]) /\ Room (zC7 (rM br u m') (cM bc u m') zCy zCy) (fun q=>q < w.heap.size \/ (wB.heap.size <= q /\ q < wC.heap.size)) w' /\ Keeps (fun q=>¬ (fun q=>q < w.heap.size \/ (wB.heap.size <= q /\ q < wC.heap.size)) q) wC w'):=by
      have h:=Room.zOI HC.out tt;rw [hst] at h;exact h
     clear RS hst e1 e2 RY KY;go_upto_region 17 with (go_at_call 15;refine CS.out.mono ?_;rintro e wD ⟨rfl,hb,kb⟩;have HD:=yB hb;have KD:=yB kb;clear hb kb)
     obtain ⟨q2,wE,e1,e2,RZ,KZ,_⟩:=newRow wD [.int .i64 xt, .int .i64 xk, .int .i64 xo, .int .i64 xv, .int .i64 xb] 40;rw [e1,e2];have y1:=((HRY.out.keeps KD.out (fun h=>h (.inr HQ1.out))).keeps KZ (fun h=>h)).five;have y2:=RZ.five;have kE:=zH wE;have HP:Hid (Room (zC7 (rM br u m') (cM bc u m') zCy zCy) (fun q=>q < w.heap.size) wE /\ Keeps zA w wE):=⟨(HD.out.less fun _ h=>.inl h).zHX KZ,((((HPA.out.2.trans KB.out (fun q hq hn=>hn hq)).zB HKY.out).trans KD.out (fun q hq hn=>hn (.inl hq))).zB KZ)⟩;clear e1 e2 RZ KZ CS HPA HB KB HC HD KD HRY HKY HQ1
     have HLK:Hid (Calls Tryz.prog 11 #[.pointer (some ⟨bc,0,none⟩), .pointer (some ⟨br,0,none⟩)] wE fun e w'=>e=.returned (.bool true) /\ Keeps zA wE w'):=by
      obtain ⟨D0,N0,h0⟩:=HP.out.1.get 0;obtain ⟨D1,N1,h1⟩:=HP.out.1.get 1;exact zGn (show zB7 D1 N1 wE bc u m' from h1) (show zBa D0 N0 wE br u m' from h0)
     go_upto_region 18 with (go_at_call 11;refine HLK.out.mono ?_;rintro e wX ⟨rfl,kX⟩;have HKX:=yB kX)
     have HPX:Hid (Room (zC7 (rM br u m') (cM bc u m') zCy zCy) (fun q=>q < w.heap.size) wX /\ Keeps zA w wX):=⟨HP.out.1.zHX HKX.out,HP.out.2.zB HKX.out⟩;clear HP HLK;go_wp2_with fail
     exact ⟨⟨i+1,m',by omega,rfl,by go_num,HPX.out⟩,by simp [intOf];omega⟩
   ·have i3:decide ((i:Int) < 200)=false:=xK (by omega)
    have i4:¬ ((i:Int) < 200):=by omega
    go_wp2_with fail
    go_ret
    exact ⟨rfl,HP.out.2⟩
  ·have i2:decide ((i:Int) < nr)=false:=xK (by omega)
   have i3:¬ ((i:Int) < nr):=by omega
   go_wp2_with fail
   go_ret
   exact ⟨rfl,HP.out.2⟩
theorem zHF (h:zBp w F cs bs uca uta) (ra:Option Addr) (rc:Nat) (xs:List Int) (hx:zAD w (.slice ra xs.length rc) xs.length (ints xs)):Calls Tryz.prog 3 #[.agg #[.slice uca cs.length ucc, .int .i64 mu, .slice uta bs.length utc], .slice ra xs.length rc] w fun e w'=>e=.returned (.bool true) /\ Keeps zA w w':=by
 by_cases hr:newR ⟨cs,mu,bs⟩=0
 ·exact zIM h ra rc xs hx hr
 ·exact zIg h _ hr
end
end Go.Proofs.YtfokdllgnblamaaGreatDoor
