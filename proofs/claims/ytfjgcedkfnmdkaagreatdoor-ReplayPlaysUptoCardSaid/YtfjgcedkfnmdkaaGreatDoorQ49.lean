/- Layer Q: texts joined. -/
import Derived.Test.YtfjgcedkfnmdkaaGreatDoorQ48
set_option linter.all false
set_option maxHeartbeats 8000000
set_option maxRecDepth 8000
namespace Go.Proofs.YtfjgcedkfnmdkaaGreatDoor
open Go.RowKit
theorem J136 (P:Prop) (h:P:=by
 refine ⟨⟨k+1,ad9,cap9,by omega,by go_num,?_⟩,by simp [intOf];omega⟩
 rw [e];exact P9):P:=h
theorem zu.rows {α:Type} {C:α -> List Value} {sz:Nat} (hC:∀ x,(C x).length=sz) {w:World} {v:Value} {L:List α} (h:zu w v L.length (L.flatMap C)):∃ ad cap,v=.slice ad L.length cap /\ ∀ k x,L[k]?=some x -> ∃ g o,ad=some ⟨g,o,none⟩ /\ ∀ j u,(C x)[j]?=some u -> w.cell? ⟨g,o+k*sz+j,none⟩=some u:=by
 obtain ⟨ad,cap,e,h1⟩:=h;refine ⟨ad,cap,e,fun k x hk=>?_⟩
 obtain ⟨g,o,e1,h2⟩:=h1 (by have:=(yO.1 hk).1;omega);refine ⟨g,o,e1,fun j u hj=>?_⟩
 have hl:j < sz:=by rw [<- hC x];exact (yO.1 hj).1
 have:=h2 (k*sz+j) u (by rw [zBu C sz hC L k j hl,hk];exact hj)
 rwa [<- uH] at this
theorem zI9 (w:World) (v1 v2:Value) (L:List zDW) (h1:zu w v1 L.length (L.flatMap stC)) (h2:zu w v2 L.length (L.flatMap stC)) (hm:L.length <= 1000) :
 Calls Tryz.prog 28 #[v1,v2] w fun e w'=>e=.returned (.bool true) /\ Keeps zA w w':=by
 obtain ⟨a1,c1,rfl,k1⟩:=h1.rows zCB;obtain ⟨a2,c2,rfl,k2⟩:=h2.rows zCB;have H1:=yB k1;have H2:=yB k2;obtain ⟨n,hn⟩:∃ n,n=L.length:=⟨_,rfl⟩
 have HN:=yB hn;rw [<- hn] at hm ⊢;clear h1 h2 k1 k2 hn;go_enter Tryz.func28,Tryz.ntmps28
 go_wp2_with fail
 go_loopw [5] (fun i wr=>∃ k:Nat,k <= n /\ i=.int .i64 k /\ Hid (Keeps zA w wr)) (fun i _=>n - (intOf i).toNat)
 case atStart=>exact ⟨0,yJ _,rfl,yC _ _⟩
 case round =>
  obtain ⟨k,hk,rfl,hkp⟩:=hrel;by_cases hlt:k < n
  ·obtain ⟨x,hx⟩:∃ x,L[k]?=some x:=⟨_,yQ (by rw [<- HN.out];exact hlt)⟩
   obtain ⟨g1,o1,rfl,dd⟩:=H1.out k x hx;obtain ⟨g2,o2,rfl,ff⟩:=H2.out k x hx;have d:=fun j u h=>hkp.out.cell (p:=⟨g1,o1+k*7+j,none⟩) (fun h=>h) (dd j u h)
   have f:=fun j u h=>hkp.out.cell (p:=⟨g2,o2+k*7+j,none⟩) (fun h=>h) (ff j u h)
   have d0:wr.cell? ⟨g1,o1+k*7,none⟩=some (.int .i64 x.t):=d 0 _ rfl;have d1:wr.cell? ⟨g1,o1+k*7+1,none⟩=some (.int .i64 x.c):=d 1 _ rfl;have d2:wr.cell? ⟨g1,o1+k*7+2,none⟩=some (.int .i64 x.e.thread):=d 2 _ rfl;have d3:wr.cell? ⟨g1,o1+k*7+3,none⟩=some (.int .i64 x.e.kind):=d 3 _ rfl;have d4:wr.cell? ⟨g1,o1+k*7+4,none⟩=some (.int .i64 x.e.obj):=d 4 _ rfl;have d5:wr.cell? ⟨g1,o1+k*7+5,none⟩=some (.int .i64 x.e.value):=d 5 _ rfl;have d6:wr.cell? ⟨g1,o1+k*7+6,none⟩=some (.int .i64 x.e.bad):=d 6 _ rfl;have f0:wr.cell? ⟨g2,o2+k*7,none⟩=some (.int .i64 x.t):=f 0 _ rfl;have f1:wr.cell? ⟨g2,o2+k*7+1,none⟩=some (.int .i64 x.c):=f 1 _ rfl;have f2:wr.cell? ⟨g2,o2+k*7+2,none⟩=some (.int .i64 x.e.thread):=f 2 _ rfl;have f3:wr.cell? ⟨g2,o2+k*7+3,none⟩=some (.int .i64 x.e.kind):=f 3 _ rfl;have f4:wr.cell? ⟨g2,o2+k*7+4,none⟩=some (.int .i64 x.e.obj):=f 4 _ rfl;have f5:wr.cell? ⟨g2,o2+k*7+5,none⟩=some (.int .i64 x.e.value):=f 5 _ rfl;have f6:wr.cell? ⟨g2,o2+k*7+6,none⟩=some (.int .i64 x.e.bad):=f 6 _ rfl;have i1:(0:Int) <= k:=by omega
   have i2:(k:Int) < n:=by omega
   clear d f dd ff hx hk;exact J113 _
  ·have hkn:k=n:=by omega
   subst hkn;clear hlt;go_wp2_with fail
   go_ret
   exact ⟨rfl,hkp.out⟩
theorem zNZ (w:World) (F:Nat -> Prop):zAa w F [] none:=⟨fun _=>[],fun i hi=>absurd hi (vV _),fun i y e=>by simp at e⟩
theorem zOr:newR ⟨[],0,[⟨0,[]⟩]⟩=0:=by decide
theorem zLF:whole ⟨[],0,[⟨0,[]⟩]⟩ []=([⟨0,9,0,0,0⟩],⟨[],[],[⟨3,[],[]⟩]⟩):=by rfl
theorem zOz {w:World} {F:Nat -> Prop} {th:Nat} (ht:zC w th [.int .i64 0, .slice none 0 0]) (f:F th) (hF:∀ k,F k -> k < w.heap.size):zB0 w F [] [⟨0,[]⟩] none (some ⟨th,0,none⟩):=by
 refine ⟨fun i hi=>absurd hi (vV _),fun i hi=>?_,hF,fun b hb=>?_,by simp [zAx,Ac.szL],by decide,by simp⟩
 ·have hi0:i=0:=by simpa using hi
  subst hi0;exact ⟨th,0,none,0,rfl,f,ht.cell (k:=0) rfl,ht.cell (k:=1) rfl,zNZ _ _⟩
 ·obtain rfl:b=⟨0,[]⟩:=by simpa using hb
  simp [Ac.zBr]
theorem zJm (w:World):Calls Tryz.prog 21 #[] w fun e w'=>e=.returned (.bool true) /\ Keeps zA w w':=by
 obtain ⟨th,w1,x1,z1,R1,K1,_⟩:=newRow w [.int .i64 0, .slice none 0 0] 77;have hU:zB0 w1 (fun k=>k < w1.heap.size) [] [⟨0,[]⟩] none (some ⟨th,0,none⟩):=zOz R1 (R1.lt (by simp)) (fun _ h=>h)
 have HW:Hid (Calls Tryz.prog 22 #[.agg #[.slice none 0 0, .int .i64 0, .slice (some ⟨th,0,none⟩) 1 1], .slice none 0 0] w1 fun e w'=>∃ oa oc a1 q1 a2 q2 a3 q3 a4 q4,e=.returned (.tuple #[.slice oa 1 oc, .agg #[.slice a1 0 q1, .slice a2 0 q2, .slice a3 1 q3, .slice a4 1 q4], .int .i64 0]) /\ zAf w' w1.heap.size (.slice oa 1 oc) 1 [.int .i64 0, .int .i64 9, .int .i64 0, .int .i64 0, .int .i64 0] /\ Keeps zA w1 w'):=by
  have h:=zKs (mu:=0) (ucc:=0) (utc:=1) hU none 0 [] ⟨none,0,rfl,fun h=>absurd rfl h⟩ zOr;rw [zLF] at h;refine h.mono fun e w' h=>?_
  obtain ⟨oa,oc,a1,q1,a2,q2,a3,q3,a4,q4,he,hf,ho⟩:=h;exact ⟨oa,oc,a1,q1,a2,q2,a3,q3,a4,q4,he,hf,ho.keeps⟩
 have HK1:=yB K1;clear hU R1 K1;go_enter Tryz.func21,Tryz.ntmps21
 go_upto_region 2 with (go_at_call 22;refine HW.out.mono ?_;rintro e w2 ⟨oa,oc,a1,q1,a2,q2,a3,q3,a4,q4,rfl,hf,ho⟩;have HF:=yB hf;have HO:=yB ho;clear hf ho x1 z1)
 obtain ⟨b3,w4,x3,z3,R5,K5,_⟩:=newRow w2 [.slice a1 0 q1, .slice a2 0 q2, .slice a3 1 q3, .slice a4 1 q4] 50;rw [x3,z3];obtain ⟨ad,cap,e,_,_,hc⟩:=HF.out.keeps K5 (fun _ _ h=>h);simp only [uF,true_and] at e;obtain ⟨rfl,rfl⟩:=e;obtain ⟨g,rfl,_,hr⟩:=hc (by decide);have y5:=hr.five;have k4:=zH w4;have HK3:Hid (Keeps zA w w4):=(HK1.out.zB HO.out).zB K5;clear hr hc K5 R5 HF x3 z3;go_wp2_with fail
 go_ret
 exact ⟨rfl,HK3.out⟩
section
variable {cs:List Int} {mu:Int} {bs:List Bd} {w:World} {F:Nat -> Prop} {uca uta:Option Addr} {ucc utc:Nat}
theorem zB0.zJi (h:zB0 w F cs bs uca uta):Calls Tryz.prog 29 #[.agg #[.slice uca cs.length ucc, .int .i64 mu, .slice uta bs.length utc]] w fun e w'=>e=.returned (.int .i64 (newR ⟨cs,mu,bs⟩)) /\ Keeps zA w w' :=
 zF9 cs mu bs w F uca uta ucc utc h.nums h.bds h.low h.sz h.l1 h.l2
end
def zFT {α:Type} (C:α -> List Value) (L:List α) (m:ze) (r:Int) (w:World) (e:Ending) (w':World):Prop :=
 ∃ oa oc a1 n1 q1 a2 n2 q2 a3 n3 q3 a4 n4 q4,e=.returned (.tuple #[.slice oa L.length oc, .agg #[.slice a1 n1 q1, .slice a2 n2 q2, .slice a3 n3 q3, .slice a4 n4 q4], .int .i64 r]) /\ zu w' (.slice oa L.length oc) L.length (L.flatMap C) ∧
   zCv w' (.slice a1 n1 q1) (.slice a2 n2 q2) (.slice a3 n3 q3) (.slice a4 n4 q4) m.cells m.owners (zDy m m.zL.length) (zGV m m.zL.length) /\ Keeps zA w w'
def noM:ze:=⟨[],[],[]⟩
theorem zF1 (w:World):zu w (.slice none 0 0) 0 []:=⟨none,0,rfl,fun h=>absurd rfl h⟩
theorem zFT.no {α:Type} {C:α -> List Value} {r:Int} {w w':World} {e:Ending} (h:e=.returned (.tuple #[.slice none 0 0,zC0, .int .i64 r]) /\ Keeps zA w w'):zFT C [] noM r w e w' :=
 ⟨none,0,none,0,0,none,0,0,none,0,0,none,0,0,h.1,zF1 _,⟨zF1 _,zF1 _,zF1 _,zF1 _⟩,h.2⟩
theorem zFT.ok {α:Type} {C:α -> List Value} {L:List α} {m:ze} {w w':World} {e:Ending} (h:∃ oa oc a1 q1 a2 q2 a3 q3 a4 q4,e=.returned (.tuple #[.slice oa L.length oc, .agg #[.slice a1 m.cells.length q1, .slice a2 m.owners.length q2, .slice a3 m.zL.length q3, .slice a4 m.zL.length q4], .int .i64 0]) ∧
 zAf w' w.heap.size (.slice oa L.length oc) L.length (L.flatMap C) /\ zDI w m (.slice a1 m.cells.length q1) (.slice a2 m.owners.length q2) (.slice a3 m.zL.length q3) (.slice a4 m.zL.length q4) w'):zFT C L m 0 w e w':=by
 obtain ⟨oa,oc,a1,q1,a2,q2,a3,q3,a4,q4,he,hf,ho⟩:=h;exact ⟨oa,oc,a1,_,q1,a2,_,q2,a3,_,q3,a4,_,q4,he,hf.src,ho.src,ho.keeps⟩
def zIo (m:ze):Prop:=m.cells.length <= 1000 /\ m.owners.length <= 1000 /\ m.zL.length <= 1000
theorem ze.ok.small {u:Un} (hr:zW u=true) {m:ze} (h:m.ok u):zIo m:=by
 have h1:=zAw hr;have h2:=h.cells;have h3:=h.owners;have h4:=h.zL;refine ⟨?_,?_,?_⟩ <;> omega
section
variable {cs:List Int} {mu:Int} {bs:List Bd} {w:World} {F:Nat -> Prop} {uca uta:Option Addr} {ucc utc:Nat}
theorem zDQ (ca:Option Addr) (n cc:Nat) (L:List zDW) (m:ze) (r:Int) (hL:L.length <= 1000) (hm:zIo m)
 (HC:Hid (∀ W,Keeps zA w W -> Calls Tryz.prog 26 #[.agg #[.slice uca cs.length ucc, .int .i64 mu, .slice uta bs.length utc], .slice ca n cc] W (zFT stC L m r W)))
 (HR:Hid (∀ W,Keeps zA w W -> Calls Tryz.prog 27 #[.agg #[.slice uca cs.length ucc, .int .i64 mu, .slice uta bs.length utc], .slice ca n cc] W (zFT stC L m r W))) :
 Calls Tryz.prog 6 #[.agg #[.slice uca cs.length ucc, .int .i64 mu, .slice uta bs.length utc], .slice ca n cc] w fun e w'=>e=.returned (.bool true) /\ Keeps zA w w':=by
 have HHL:=yB hL;have HHM:=yB hm;obtain ⟨nl,hnl⟩:∃ z,z=L.length:=⟨_,rfl⟩
 have HNL:=yB hnl;clear hL hm hnl;go_enter Tryz.func6,Tryz.ntmps6
 go_upto_region 1 with fail
 obtain ⟨b1,w1,x1,z1,R1,K1,_⟩:=newRow w [.slice uca cs.length ucc, .int .i64 mu, .slice uta bs.length utc] 25;try rw [x1]
 try rw [z1]
 have y1:=R1.zCw;have HK1:=yB K1;have HS:=yB (zJm w1);clear x1 z1 R1 K1;go_upto_region 2 with (go_at_call 21;refine HS.out.mono ?_;rintro e w2 ⟨rfl,k2⟩;have HK2:=yB (HK1.out.zB k2))
 clear HS;go_upto_region 3 with (go_at_call 26;refine (HC.out _ HK2.out).mono ?_;rintro e w3 ⟨oa,oc,a1,an1,aq1,a2,an2,aq2,a3,an3,aq3,a4,an4,aq4,rfl,hs,hst,k3⟩;rw [<- HNL.out] at hs;try rw [<- HNL.out];have HF3:=yB hs;have HT3:=yB hst;have HK3:=yB (HK2.out.zB k3);have k3':=k2.zB k3;clear hs hst k3)
 obtain ⟨b7,w4,x4,z4,R4,K4,_⟩:=newRow w3 [.slice a1 an1 aq1, .slice a2 an2 aq2, .slice a3 an3 aq3, .slice a4 an4 aq4] 50;rw [x4,z4];have HK4:=yB (HK3.out.zB K4);have HF4:=yB (HF3.out.zF K4);have HT4:=yB (HT3.out.keeps K4);have HR4:=yB R4;have k4:=k3'.zB K4;clear x4 z4 R4 K4 HF3 HT3 HC HK3 k2 k3';go_upto_region 4 with (go_at_call 27;refine (HR.out _ HK4.out).mono ?_;rintro e w5 ⟨ob,od,c1,cn1,cq1,c2,cn2,cq2,c3,cn3,cq3,c4,cn4,cq4,rfl,hs,hst,k5⟩;rw [<- HNL.out] at hs;try rw [<- HNL.out];have HF5:=yB hs;have HT5:=yB hst;have HK5:=yB (HK4.out.zB k5);have HK45:=yB k5;clear hs hst k5)
 obtain ⟨b10,w6,x6,z6,R6,K6,_⟩:=newRow w5 [.slice c1 cn1 cq1, .slice c2 cn2 cq2, .slice c3 cn3 cq3, .slice c4 cn4 cq4] 50;rw [x6,z6];have HK46:=yB (HK45.out.zB K6);have HK6:=yB (HK5.out.zB K6);have yb:=R6.zBd;have ya:=(HR4.out.keeps HK46.out (fun h=>h)).zBd;have HSE:=yB (zI9 w6 (.slice oa nl oc) (.slice ob nl od) L (by rw [<- HNL.out];exact HF4.out.zF HK46.out) (by rw [<- HNL.out];exact HF5.out.zF K6) HHL.out);have HSS:Hid (∀ W,Keeps zA w6 W -> Calls Tryz.prog 25 #[.agg #[.slice a1 an1 aq1, .slice a2 an2 aq2, .slice a3 an3 aq3, .slice a4 an4 aq4], .agg #[.slice c1 cn1 cq1, .slice c2 cn2 cq2, .slice c3 cn3 cq3, .slice c4 cn4 cq4]] W fun e w'=>e=.returned (.bool true) /\ Keeps zA W w'):=fun W hk=>zGD W _ _ _ _ _ _ _ _ _ _ _ _ ((HT4.out.keeps HK46.out).keeps hk) ((HT5.out.keeps K6).keeps hk) HHM.out.1 HHM.out.2.1 (by rw [zJe m _ (xC _)];exact HHM.out.2.2) (by rw [zHz];exact HHM.out.2.2)
 have k6:=zH w6;clear x6 z6 R6 K6 HF4 HT4 HF5 HT5 HR HR4 y1 k4
 go_wp2_with (first
  | (go_at_call 28;refine HSE.out.mono ?_;rintro e w7 ⟨rfl,k7⟩;have HK7:=yB k7)
  | (go_at_call 25;refine (HSS.out _ HK7.out).mono ?_;rintro e w8 ⟨rfl,k8⟩;have HK8:=yB k8;clear k8))
 go_ret
 exact ⟨by simp,(HK6.out.zB HK7.out).zB HK8.out⟩
end
theorem zMp:(Tryz.prog.info? 84).map (fun i=>(i.zero,i.size,i.bytes))=some (some (.agg #[.int .i64 0, .slice none 0 0, .slice none 0 0]),3,56):=by kernel_rfl
theorem RM.make {w W:World} {T:zS} {F:Nat -> Prop} {id bm:Nat} {u:Un} {p:zAn} {m:ze} {n:Nat} (hT:∀ k x,T k=some x -> k < w.heap.size) (hw:w.heap.size <= W.heap.size)
 (hrow:zC W bm (p.row u.threads.length m.cells.length m.owners.length m.zL.length)) (hm:m.zL=List.replicate n ⟨1,[],[]⟩)
 (hc:W.ownsRow 0 3 1 (.slice p.cad m.cells.length p.ccap) m.cells.length (ints m.cells)) (ho:W.ownsRow 0 3 1 (.slice p.oad m.owners.length p.ocap) m.owners.length (ints m.owners))
 (ht:zC W p.gt (zAK (List.replicate n zBt))) (hb:zBB W F u.threads p.ut) (hF:∀ k,F k -> T k=none /\ k < w.heap.size)
 (l1:w.heap.size <= bm) (l2:w.heap.size <= p.gt) (l3:∀ g,(Value.slice p.cad m.cells.length p.ccap).ownBlock=some g -> w.heap.size <= g /\ g ≠ bm /\ g ≠ p.gt) (l4:∀ g,(Value.slice p.oad m.owners.length p.ocap).ownBlock=some g -> w.heap.size <= g /\ g ≠ bm /\ g ≠ p.gt /\ (Value.slice p.cad m.cells.length p.ccap).ownBlock ≠ some g)
 (l5:bm ≠ p.gt) (l6:bm < W.heap.size) (l7:p.gt < W.heap.size):∃ T',RM W T' F id bm u p m (List.replicate n zBt) /\ zAE T T' id w:=by
 obtain ⟨T',M,hx⟩:=MaP.make (R:=zA4) (sz:=3) (ty:=149) (B:=fun _ _ _ _=>True) (F:=fun _=>False) (T:=T) (id:=id) (u:=u) hT hw hrow hm hc ho ht trivial (fun _ h=>h.elim) l1 l2 l3 l4 l5 l6 l7;refine ⟨T',⟨M.tag,M.row,M.cells,M.owners,⟨M.zL.tag,⟨M.zL.sep.ok,fun k hk=>hx.none (hF k hk).1 (hF k hk).2,fun k hk=>yK (hF k hk).2 hw⟩,M.zL.row,M.zL.len,fun i h t a b=>?_⟩,hb⟩,hx⟩
 obtain ⟨e1,e2,css,q1,q2,q3,q4,_⟩:=M.zL.each i h t a b;rw [hm] at b;obtain ⟨_,rfl⟩:=kM.1 (vS b);exact ⟨e1,e2,css,q1,q2,q3,q4,fun j f cs e=>by simp at e⟩
section
variable {cs:List Int} {mu:Int} {bs:List Bd} {w:World} {F:Nat -> Prop} {uca uta:Option Addr} {ucc utc:Nat}
theorem zMz (r:Int) (hr:r ≠ 0) (HW:Hid (∀ W,Keeps zA w W -> Calls Tryz.prog 29 #[.agg #[.slice uca cs.length ucc, .int .i64 mu, .slice uta bs.length utc]] W fun e w'=>e=.returned (.int .i64 r) /\ Keeps zA W w')) :
 Calls Tryz.prog 10 #[.agg #[.slice uca cs.length ucc, .int .i64 mu, .slice uta bs.length utc]] w fun e w'=>e=.returned (.tuple #[.pointer none, .int .i64 r]) /\ Keeps zA w w':=by
 have hb:(r != 0)=true:=uA.2 hr;go_enter Tryz.func10,Tryz.ntmps10
 go_upto_region 1 with fail
 obtain ⟨b1,w1,e1,e2,R1,K1,_⟩:=newRow w [.slice uca cs.length ucc, .int .i64 mu, .slice uta bs.length utc] 25;try rw [e1]
 try rw [e2]
 have y:=R1.zCw;have k1:=zH w1;have HK1:=yB K1;clear e1 e2 K1;go_wp2_with (go_at_call 29;refine (HW.out _ HK1.out).mono ?_;rintro e w2 ⟨rfl,k2⟩;have HK2:=yB k2;clear k2)
 refine yZ (v:=.tuple #[.pointer none, .int .i64 r]) (by simp [results,Tryz.results10,go_sem]) rfl ⟨rfl,HK1.out.zB HK2.out⟩
theorem zNB {T:zS} {id:Nat} (hcs:zBD w F cs uca) (hbd:zBB w F bs uta) (hT:∀ k x,T k=some x -> k < w.heap.size) (hid:∀ k t,T k ≠ some (id,t)) (hF:∀ k,F k -> T k=none /\ k < w.heap.size) (hr:zW ⟨cs,mu,bs⟩=true) (HW:Hid (∀ W,Keeps zA w W -> Calls Tryz.prog 29 #[.agg #[.slice uca cs.length ucc, .int .i64 mu, .slice uta bs.length utc]] W fun e w'=>e=.returned (.int .i64 0) /\ Keeps zA W w')) :
 Calls Tryz.prog 10 #[.agg #[.slice uca cs.length ucc, .int .i64 mu, .slice uta bs.length utc]] w fun e w'=>∃ b T' p H,e=.returned (.tuple #[.pointer (some ⟨b,0,none⟩), .int .i64 0]) /\ RM w' T' F id b ⟨cs,mu,bs⟩ p (zAi ⟨cs,mu,bs⟩) H /\ zAE T T' id w /\ Keeps zA w w':=by
 have HU:Hid (zBB w F bs uta /\ (∀ k x,T k=some x -> k < w.heap.size) /\ (∀ k,F k -> T k=none /\ k < w.heap.size) /\ zW ⟨cs,mu,bs⟩=true /\ ∀ k t,T k ≠ some (id,t)):=⟨hbd,hT,hF,hr,hid⟩;have HSR:Hid (∀ W,Keeps zA w W -> zu W (.slice uca cs.length ucc) cs.length (ints cs)):=fun W q=>(hcs.keeps q (fun _ _ h=>h)).src
 obtain ⟨nb1,nb8,nc8,nm0,nm8,_⟩:=zAw hr;have nb1:1 <= bs.length:=nb1;have nb8:bs.length <= 8:=nb8;have nc8:cs.length <= 8:=nc8;have nm0:0 <= mu:=nm0;have nm8:mu <= 8:=nm8;obtain ⟨mm,rfl⟩:∃ mm:Nat,mu=mm:=⟨mu.toNat,by omega⟩
 obtain ⟨i0,hi0,hz0,hz1,hz2⟩:=info_parts zBO;obtain ⟨j0,hj0,hy0,hy1,hy2⟩:=info_parts zMp;clear hcs hbd hT hF hr hid;go_enter Tryz.func10,Tryz.ntmps10
 go_upto_region 1 with fail
 obtain ⟨b1,w1,e1,e2,R1,K1,_⟩:=newRow w [.slice uca cs.length ucc, .int .i64 (mm:Int), .slice uta bs.length utc] 25;try rw [e1]
 try rw [e2]
 have y:=R1.zCw;have k1:=zH w1;have HK1:=yB K1;clear e1 e2 K1;go_upto_region 4 with (go_at_call 29;refine (HW.out _ HK1.out).mono ?_;rintro e w2 ⟨rfl,k2⟩)
 have HK2:Hid (Keeps zA w w2):=HK1.out.zB k2;have R12:=R1.keeps k2 (fun h=>h);have y1:=R12.zCw;have HY1:=yB R12;clear y R1 R12 k1 k2;have k2:=zH w2;go_upto_region 5 with fail
 obtain ⟨bm,w3,e1,e2,R3,K3,_⟩:=newRow w2 [.slice uca cs.length ucc, .int .i64 (mm:Int), .slice uta bs.length utc, .slice none 0 0, .slice none 0 0, .slice none 0 0] 81;rw [e1,e2];have HP0:Hid (Parts w2 w3 bm [.slice uca cs.length ucc, .int .i64 (mm:Int), .slice uta bs.length utc] [zBh 3 1,zBh 3 1,zBh 84 3]):=Parts.start (w:=w2) (pre:=[.slice uca cs.length ucc, .int .i64 (mm:Int), .slice uta bs.length utc]) [(3,1),(3,1),(84,3)] R3 (by omega) K3;have y3:=R3.zDc;have k3:=zH w3;have k23:=K3;clear e1 e2 K3 R3;refine zCy 7 (by kernel_rfl) (by kernel_rfl) _ (.pointer (some ⟨bm,0,none⟩)) rfl (.inl ⟨rfl,fun _=>rfl⟩) (fun _ _ _ h=>h) (Keeps zA) (yC zA) (fun a b c h h'=>xE h h') (zAF [some (.pointer (some ⟨bm,0,none⟩)),some (.pointer (some ⟨bm,0,none⟩)),some (.pointer (some ⟨bm,0,none⟩)),some (.pointer (some ⟨bm,3,none⟩)),some (.slice none 0 0),some (.pointer (some ⟨b1,0,none⟩)),some (.slice uca cs.length ucc)] (fun _ _ _=>False)) (uG (fun _ _ _ _ h _=>h)) (fun _=>rfl) ?_ ?_
 ·intro q oo hq1 hq ho vs W Q' hR hd hK
  have HRW:Keeps zA w3 W:=((zH w3).drew).zB hR;have kW:Keeps zA w2 W:=k23.zB HRW;rcases (show q=1 \/ q=2 \/ q=3 \/ q=4 \/ q=5 \/ q=6 by omega) with rfl | rfl | rfl | rfl | rfl | rfl
  all_goals (simp only [yD,yE,yM] at ho;subst ho;simp only [zJ,yD,yE,yI,Option.bind,Act.put,yF,yG,yH] at hK ⊢;clear hq hq1)
  all_goals try ((try (have e:vs 0=_:=hd 0 (by decide +kernel);rw [e] at hK ⊢;clear e));(try (have e:vs 1=_:=hd 1 (by decide +kernel);rw [e] at hK ⊢;clear e));(try (have e:vs 2=_:=hd 2 (by decide +kernel);rw [e] at hK ⊢;clear e));(try (have e:vs 3=_:=hd 3 (by decide +kernel);rw [e] at hK ⊢;clear e));(try (have e:vs 4=_:=hd 4 (by decide +kernel);rw [e] at hK ⊢;clear e));(try (have e:vs 5=_:=hd 5 (by decide +kernel);rw [e] at hK ⊢;clear e));(try (have e:vs 6=_:=hd 6 (by decide +kernel);rw [e] at hK ⊢;clear e));clear hd;go_wp2_with (fail);first | exact hK _ _ (yC _ _) rfl)
 ·intro vs W hR hFF
  have HRW:Keeps zA w3 W:=((zH w3).drew).zB hR;have HKW:Hid (Keeps zA w W):=(HK2.out.zB k23).zB HRW;have e0:vs 0=_:=hFF 0 (by decide);have e4:vs 4=_:=hFF 4 (by decide);have e6:vs 6=_:=hFF 6 (by decide);simp only [zJ,yD,yE,yI,Option.bind,Act.put,yF,yG,yH,yS,yR];rw [e0,e4,e6];clear hFF e0 e4 e6 hR y3;have HPW:=yB (HP0.out.keeps HRW);go_upto_region 6 with (at_builtin;refine zI _ (by rfl) _ _ 22 (by rfl) 0 3 i0 _ 1 8 xJ hi0 hz0 hz1 hz2 rfl (by decide) (.slice none 0 0) 0 ([]) (by rfl) (xI _ _ _ _) (.slice uca cs.length ucc) cs.length (ints cs) (by rfl) (HSR.out _ HKW.out) (by rw [zAe,yg]) (zEj cs) (by unfold maxLen;omega) (by omega) (yJ _) ?_;intro ad9 cap9 w4 hout;obtain ⟨k9,r9,p9⟩:=Parts.step (k:=0) (HPW.out) rfl hout;have K9:=yB k9;have P9:=yB p9;have zr:=r9.cell (k:=3) (v:=.slice none 0 0) rfl;have zf:=r9.free (k:=3) (by simp);clear k9 r9 p9 hout)
  have P4:Hid (Parts w2 (w4.setCell ⟨bm,3,none⟩ (.slice ad9 (0+cs.length) cap9)) bm [.slice uca cs.length ucc, .int .i64 (mm:Int), .slice uta bs.length utc] [⟨3,1,ad9,0+cs.length,cap9,ints cs⟩,zBh 3 1,zBh 84 3]):=P9.out;rw [yY] at P4;generalize w4.setCell ⟨bm,3,none⟩ (.slice ad9 cs.length cap9)=w5 at P4 ⊢;obtain ⟨ca,hca⟩:∃ z,z=ad9:=⟨_,rfl⟩
  obtain ⟨cc,hcc⟩:∃ z,z=cap9:=⟨_,rfl⟩
  rw [<- hca,<- hcc] at P4;clear zr zf P9 K9 HRW HPW HP0 k3 k23 hca hcc;go_wp2_with fail
  go_loopw [6] (fun kv wr=>∃ (k:Nat) (oa:Option Addr) (oc:Nat),k <= mm /\ kv=.int .i64 k /\ Hid (Parts w2 wr bm [.slice uca cs.length ucc, .int .i64 (mm:Int), .slice uta bs.length utc] [⟨3,1,ca,cs.length,cc,ints cs⟩,⟨3,1,oa,k,oc,ints (List.replicate k (-1))⟩,zBh 84 3])) (fun kv _=>mm - (intOf kv).toNat)
  case atStart=>exact ⟨0,none,0,yJ _,rfl,P4.out⟩
  case round =>
   obtain ⟨k,oa,oc,hk,rfl,hS⟩:=hrel;have kwr:Keeps zA w2 wr:=hS.out.keep;have y6:=(show zC wr bm [.slice uca cs.length ucc, .int .i64 (mm:Int), .slice uta bs.length utc, .slice ca cs.length cc, .slice oa k oc, .slice none 0 0] from hS.out.row).zDc;have lb:bm < wr.heap.size:=(show zC wr bm [_,_,_,_,_,_] from hS.out.row).lt (by simp);have nb:bm ≠ wr.heap.size:=by omega
   have kr:=zH wr;by_cases hlt:k < mm
   ·have i1:(0:Int) <= k:=by omega
    have i2:(k:Int) < mm:=by omega
    clear hk;go_wp2_with (at_builtin;refine zI _ (by rfl) _ _ 22 (by rfl) 0 3 i0 _ 1 8 xJ hi0 hz0 hz1 hz2 rfl (by decide) (.slice oa k oc) k (ints (List.replicate k (-1))) (by rfl) (zG (hS.out.own 1 _ rfl) ((yC zA _).alloc _) (fun _ _ h=>h)) (.slice (some ⟨wr.heap.size,0,none⟩) 1 1) 1 ([.int .i64 (-1)]) (by rfl) (xP (yP (yL _ _))) (rfl) (by simp [Value.oneCell']) (by unfold maxLen;omega) (by omega) (yJ _) ?_;intro ad9 cap9 wB hout;obtain ⟨k9,r9,p9⟩:=Parts.step (k:=1) (hS.out.keeps ((yC _ _).alloc _)) rfl hout;have K9:=yB k9;have P9:=yB p9;have zr:=r9.cell (k:=4) (v:=.slice oa k oc) rfl;have zf:=r9.free (k:=4) (by simp);clear k9 r9 p9 hout)
    have e:ints (List.replicate (k+1) (-1))=ints (List.replicate k (-1))++[.int .i64 (-1)]:=by simp [ints,kQ]
    exact J136 _
   ·have hkn:mm=k:=by omega
    subst hkn;have HS1:=hS;clear hlt hk P4;go_wp2_with fail
    clear y6 lb nb kr kwr;go_loopw [7] (fun kv wr=>∃ (k:Nat) (fa:Option Addr) (fc:Nat),k <= bs.length /\ kv=.int .i64 k /\ Hid (Parts w2 wr bm [.slice uca cs.length ucc, .int .i64 (mm:Int), .slice uta bs.length utc] [⟨3,1,ca,cs.length,cc,ints cs⟩,⟨3,1,oa,mm,oc,ints (List.replicate mm (-1))⟩,⟨84,3,fa,k,fc,zAK (List.replicate k zBt)⟩])) (fun kv _=>bs.length - (intOf kv).toNat)
    case atStart=>exact ⟨0,none,0,yJ _,rfl,HS1.out⟩
    case round =>
     obtain ⟨k,fa,fc,hk,rfl,hS⟩:=hrel;have kwr:Keeps zA w2 wr:=hS.out.keep;have y6:=(show zC wr bm [.slice uca cs.length ucc, .int .i64 (mm:Int), .slice uta bs.length utc, .slice ca cs.length cc, .slice oa mm oc, .slice fa k fc] from hS.out.row).zDc;have lb:bm < wr.heap.size:=(show zC wr bm [_,_,_,_,_,_] from hS.out.row).lt (by simp);have nb:bm ≠ wr.heap.size:=by omega
     have kr:=zH wr;by_cases hlt:k < bs.length
     ·have i1:(0:Int) <= k:=by omega
      have i2:(k:Int) < bs.length:=by omega
      clear hk HS1;go_wp2_with (at_builtin;refine zI _ (by rfl) _ _ 79 (by rfl) 0 84 j0 _ 3 56 Tryz.underlying79 hj0 hy0 hy1 hy2 rfl (by decide) (.slice fa k fc) k (zAK (List.replicate k zBt)) (by rfl) (zG (hS.out.own 2 _ rfl) ((yC zA _).alloc _) (fun _ _ h=>h)) (.slice (some ⟨wr.heap.size,0,none⟩) 1 1) 1 (zBt.cells) (by rfl) (xP (yP (yL _ _))) (rfl) (by simp [zBt,HTh.cells,Value.oneCell']) (by unfold maxLen;omega) (by omega) (yJ _) ?_;intro ad9 cap9 wB hout;obtain ⟨k9,r9,p9⟩:=Parts.step (k:=2) (hS.out.keeps ((yC _ _).alloc _)) rfl hout;have K9:=yB k9;have P9:=yB p9;have zr:=r9.cell (k:=5) (v:=.slice fa k fc) rfl;have zf:=r9.free (k:=5) (by simp);clear k9 r9 p9 hout)
      have e:zAK (List.replicate (k+1) zBt)=zAK (List.replicate k zBt)++zBt.cells:=by simp [zAK,kQ]
      exact J136 _
     ·have hkn:k=bs.length:=by omega
      subst hkn;clear hlt hk HS1;obtain ⟨gt,ct,hft,_,_⟩:=(hS.out.own 2 _ rfl).form (by show 0 < bs.length;omega);have hft:Value.slice fa bs.length fc=.slice (some ⟨gt,0,none⟩) bs.length ct:=hft;simp only [uF,true_and] at hft;obtain ⟨rfl,rfl⟩:=hft;have hn0:∀ g,(Value.slice ca cs.length cc).ownBlock=some g -> w2.heap.size <= g /\ g ≠ bm:=fun g h=>hS.out.new 0 _ g rfl h
      have hn1:∀ g,(Value.slice oa mm oc).ownBlock=some g -> w2.heap.size <= g /\ g ≠ bm:=fun g h=>hS.out.new 1 _ g rfl h
      have hgt:=hS.out.new 2 _ gt rfl rfl;have hs02:∀ g,(Value.slice ca cs.length cc).ownBlock=some g -> g ≠ gt:=fun g h e=>hS.out.sep 0 2 _ _ g (by decide) rfl rfl h (by rw [e];rfl)
      have hs12:∀ g,(Value.slice oa mm oc).ownBlock=some g -> g ≠ gt:=fun g h e=>hS.out.sep 1 2 _ _ g (by decide) rfl rfl h (by rw [e];rfl)
      have hs10:∀ g,(Value.slice oa mm oc).ownBlock=some g -> (Value.slice ca cs.length cc).ownBlock ≠ some g:=fun g h e=>hS.out.sep 1 0 _ _ g (by decide) rfl rfl h e
      have hkw:=HK2.out.size;have hK:Keeps zA w wr:=HK2.out.zB kwr
      have hmk:=RM.make (w:=w) (W:=wr) (T:=T) (F:=F) (id:=id) (bm:=bm) (u:=⟨cs,mm,bs⟩) (p:=⟨uca,cs.length,ucc,mm,uta,utc,ca,cc,oa,oc,gt,fc⟩) (m:=zBw ⟨cs,mm,bs⟩) (n:=bs.length) HU.out.2.1 hK.size
       (by
         have e:(zBw ⟨cs,mm,bs⟩).owners.length=mm:=by simp [zBw]
         have e2:(zBw ⟨cs,mm,bs⟩).zL.length=bs.length:=by simp [zBw]
         rw [e,e2];exact hS.out.row)
       (by show List.map (fun _=>(⟨1,[],[]⟩:WTh)) bs=_;rw [List.map_const'])
       (hS.out.own 0 _ rfl)
       (by
         have e:(zBw ⟨cs,mm,bs⟩).owners.length=mm:=by simp [zBw]
         have e2:(zBw ⟨cs,mm,bs⟩).owners=List.replicate mm (-1):=by simp [zBw]
         rw [e,e2];exact hS.out.own 1 _ rfl)
       (uJ (hS.out.own 2 _ rfl)) (HU.out.1.keeps hK (fun _ _ h=>h)) HU.out.2.2.1 (by have:=hS.out.bn;omega) (by have:=hgt.1;show _ <= gt;omega)
       (fun g hg=>⟨by have:=(hn0 g hg).1;omega,(hn0 g hg).2,hs02 g hg⟩)
       (by
         have e:(zBw ⟨cs,mm,bs⟩).owners.length=mm:=by simp [zBw]
         rw [e];exact fun g hg=>⟨by have:=(hn1 g hg).1;omega,(hn1 g hg).2,hs12 g hg,hs10 g hg⟩)
       (fun e=>hgt.2 e.symm) lb (zP (hS.out.own 2 _ rfl) rfl)
      obtain ⟨T1,M1,x1⟩:=hmk;have hlen:0 < (zBw ⟨cs,mm,bs⟩).zL.length:=by simp [zBw];omega
      have HBG:=yB (zF5 (i:=0) M1 HU.out.2.2.2.1 zIE hlen (by simp [zBw,ze.get,List.getD,show 0 < bs.length by omega]));have HX1:Hid (zAE T T1 id w /\ Keeps zA w wr):=⟨x1,hK⟩;clear hn0 hn1 hgt hs02 hs12 hs10 M1 x1 hK hlen hkw;go_wp2_with (go_at_call 39;refine HBG.out.mono ?_;rintro e w9 ⟨rfl,g9⟩;have HW9:=yB g9;clear g9)
      obtain ⟨T2,H2,M2,x2,q2⟩:=HW9.out;refine yZ (v:=.tuple #[.pointer (some ⟨bm,0,none⟩), .int .i64 0]) (by simp [results,Tryz.results10,go_sem]) rfl ⟨bm,T2,_,H2,rfl,M2,HX1.out.1.trans x2 HX1.out.2.size,HX1.out.2.trans q2 (fun q hq ⟨t,e⟩=>?_)⟩
      rcases HX1.out.1.2 q _ e with h | h
      ·exact HU.out.2.2.2.2 q t h
      ·omega
end
end Go.Proofs.YtfjgcedkfnmdkaaGreatDoor
