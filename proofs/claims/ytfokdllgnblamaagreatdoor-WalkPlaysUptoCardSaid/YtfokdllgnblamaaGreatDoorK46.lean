/- Layer K: texts joined. -/
import Derived.Test.YtfokdllgnblamaaGreatDoorK45
set_option linter.all false
set_option maxHeartbeats 8000000
set_option maxRecDepth 8000
namespace Go.Proofs.YtfokdllgnblamaaGreatDoor
open Go.RowKit
theorem J141 (P:Prop) (h:P:=by
 refine ⟨⟨k+1,ad9,cap9,by omega,by go_num,?_⟩,by simp [intOf];omega⟩
 rw [e];exact P9):P:=h
def zLR:Ex:=.mk 2 0 zq []
def zLm:Ex:=.mk 1 1 zq []
def zFd:Ex:=.mk 5 0 zq [zLR,zLm]
def shR:Ac:=.mk 2 0 0 (.mk 0 0 zq []) 0 [] []
def shW:Ac:=.mk 3 0 0 zFd 0 [] []
def shU:Un:=⟨[3],0,[⟨1,[shR,shW]⟩]⟩
def sh0:zm:=⟨[3],[],[⟨2,[0],[⟨[shR,shW],[shR,shW],1⟩]⟩]⟩
def sh1:zm:=⟨[3],[],[⟨2,[3],[⟨[shW],[shR,shW],1⟩]⟩]⟩
def sh2:zm:=⟨[4],[],[⟨2,[3],[]⟩]⟩
def sh3:zm:=⟨[4],[],[⟨3,[3],[]⟩]⟩
theorem zL7:w64 (3+1)=4:=by show RowKit.wrap64 (3+1)=4;rw [IntWalk.wrap64_in _ ⟨by decide,by decide⟩];rfl
theorem zOO:zFd.val [3]=4:=zL7
theorem zN1:zCY shU=sh0:=by rfl
theorem zLy:stepM shU sh0 0=(sh1,⟨0,1,0,3,0⟩,0):=by rfl
theorem zMH:stepM shU sh1 0=(sh2,⟨0,2,0,4,0⟩,0):=by
 have e:stepM shU sh1 0=(⟨[zFd.val [3]],[],[⟨2,[3],[]⟩]⟩,⟨0,2,0,zFd.val [3],0⟩,0):=by rfl
 rw [e,zOO];rfl
theorem zL5:stepM shU sh2 0=(sh3,⟨0,9,0,0,0⟩,0):=by rfl
theorem zLI:stepM shU sh3 0=(sh3,⟨0,0,0,0,0⟩,81):=by rfl
theorem zNG:zBu sh3=[]:=by rfl
theorem zPT:newR shU=0:=by decide
theorem zGa {w:World} {F:Nat -> Prop} {sz g:Nat} {c0 c1:List Value} (hg:F g) (h0:c0.length=sz) (h1:c1.length=sz) (hr:zC w g (c0++c1)):zBN w F sz 2 (some ⟨g,0,none⟩) (fun i=>if i=0 then c0 else c1):=by
 intro i hi
 rcases (show i=0 \/ i=1 by omega) with rfl | rfl
 ·refine ⟨g,0,rfl,hg,h0,fun j v hj=>?_⟩
  have hj:c0[j]?=some v:=hj;have hl:=(yP.1 hj).1;have:=hr.cell (k:=j) (v:=v) (by rw [xS hl];exact hj)
  simpa using this
 ·refine ⟨g,0,rfl,hg,h1,fun j v hj=>?_⟩
  have hj:c1[j]?=some v:=hj;have:=hr.cell (k:=sz+j) (v:=v) (by rw [xH (by omega),h0,uI];exact hj)
  simpa using this
def zLK:List Value:=[.int .i64 2, .int .i64 0, .string zq, .slice none 0 0, .int .i64 1, .int .i64 1, .string zq, .slice none 0 0]
theorem zL2 (w:World) (F:Nat -> Prop) (k n:Int):zA9 w F (.mk k n zq []) [.int .i64 k, .int .i64 n, .string zq, .slice none 0 0] :=
 zA9.zFu (x:=.mk k n zq []) (ad:=none) (cap:=0) ⟨fun _=>[],fun i hi=>absurd hi (kQ _),fun i y e=>by simp [Ex.args] at e⟩
theorem zHZ (w:World) (F:Nat -> Prop):zAQ w F [] none:=⟨fun _=>[],fun i hi=>absurd hi (kQ _),fun i y e=>by simp at e⟩
theorem zO5 (w:World) (F:Nat -> Prop):zN w F [] none:=⟨fun _=>[],fun i hi=>absurd hi (kQ _),fun i y e=>by simp at e⟩
def zLO (xr:Nat):List Value:=[.int .i64 2, .int .i64 0, .int .i64 0, .int .i64 0, .int .i64 0, .string zq, .slice none 0 0, .int .i64 0, .slice none 0 0, .slice none 0 0,
 .int .i64 3, .int .i64 0, .int .i64 0, .int .i64 5, .int .i64 0, .string zq, .slice (some ⟨xr,0,none⟩) 2 2, .int .i64 0, .slice none 0 0, .slice none 0 0]
theorem zPS {w:World} {F:Nat -> Prop} {xr c0 a1 th:Nat} (hx:zC w xr zLK) (hc:zC w c0 [.int .i64 3]) (ha:zC w a1 (zLO xr)) (ht:zC w th [.int .i64 1, .slice (some ⟨a1,0,none⟩) 2 2])
 (f0:F xr) (f1:F c0) (f2:F a1) (f3:F th) (hF:∀ k,F k -> k < w.heap.size):zBp w F [3] [⟨1,[shR,shW]⟩] (some ⟨c0,0,none⟩) (some ⟨th,0,none⟩):=by
 refine ⟨fun i hi=>?_,fun i hi=>?_,hF,fun b hb=>?_,by simp [zAy,shR,shW,zFd,zLR,zLm,Ac.szL,Ac.sz,Ex.cnt,Ex.zW],by decide,by simp⟩
 ·have hi0:i=0:=by simpa using hi
  subst hi0;exact ⟨c0,0,rfl,f1,hc.cell (k:=0) rfl⟩
 ·have hi0:i=0:=by simpa using hi
  subst hi0;refine ⟨th,0,some ⟨a1,0,none⟩,2,rfl,f3,ht.cell (k:=0) rfl,ht.cell (k:=1) rfl,_,zGa (sz:=10) (c0:=(zLO xr).take 10) (c1:=(zLO xr).drop 10) f2 rfl rfl ha,fun i y e=>?_⟩
  rcases i with _ | _ | i
  ·obtain rfl:shR=y:=by simpa using e
   exact zB6.zCv shR (xa:=none) (ta:=none) (ea:=none) (xc:=0) (tc:=0) (ec:=0) (zO5 _ _) (zHZ _ _) (zHZ _ _)
  ·obtain rfl:shW=y:=by simpa using e
   refine zB6.zCv shW (xa:=some ⟨xr,0,none⟩) (ta:=none) (ea:=none) (xc:=2) (tc:=0) (ec:=0) ⟨_,zGa (sz:=4) (c0:=zLK.take 4) (c1:=zLK.drop 4) f0 rfl rfl hx,fun i y e=>?_⟩ (zHZ _ _) (zHZ _ _)
   rcases i with _ | _ | i
   ·obtain rfl:zLR=y:=by simpa [shW,Ac.ex,zFd,Ex.args] using e
    exact zL2 _ _ _ _
   ·obtain rfl:zLm=y:=by simpa [shW,Ac.ex,zFd,Ex.args] using e
    exact zL2 _ _ _ _
   ·simp [shW,Ac.ex,zFd,Ex.args] at e
  ·simp at e
 ·obtain rfl:b=⟨1,[shR,shW]⟩:=by simpa using hb
  simp [Ac.zBl,Ac.kinds,kOk,shR,shW]
section
variable {cs:List Int} {mu:Int} {bs:List Bd} {w:World} {F:Nat -> Prop} {uca uta:Option Addr} {ucc utc:Nat}
theorem zBp.zJZ (h:zBp w F cs bs uca uta):Calls Tryz.prog 19 #[.agg #[.slice uca cs.length ucc, .int .i64 mu, .slice uta bs.length utc]] w fun e w'=>e=.returned (.int .i64 (newR ⟨cs,mu,bs⟩)) /\ Keeps zA w w' :=
 zGQ cs mu bs w F uca uta ucc utc h.nums h.bds h.low h.sz h.l1 h.l2
end
theorem zNK:(Tryz.prog.info? 77).map (fun i=>(i.zero,i.size,i.bytes))=some (some (.agg #[.int .i64 0, .slice none 0 0, .slice none 0 0]),3,56):=by kernel_rfl
theorem RM.make {w W:World} {T:zS} {F:Nat -> Prop} {id bm:Nat} {u:Un} {p:zAn} {m:zm} {n:Nat} (hT:∀ k x,T k=some x -> k < w.heap.size) (hw:w.heap.size <= W.heap.size)
 (hrow:zC W bm (p.row u.threads.length m.cells.length m.owners.length m.zM.length)) (hm:m.zM=List.replicate n ⟨1,[],[]⟩)
 (hc:W.ownsRow 0 3 1 (.slice p.cad m.cells.length p.ccap) m.cells.length (ints m.cells)) (ho:W.ownsRow 0 3 1 (.slice p.oad m.owners.length p.ocap) m.owners.length (ints m.owners))
 (ht:zC W p.gt (zAO (List.replicate n zBt))) (hb:zAk W F u.threads p.ut) (hF:∀ k,F k -> T k=none /\ k < w.heap.size)
 (l1:w.heap.size <= bm) (l2:w.heap.size <= p.gt) (l3:∀ g,(Value.slice p.cad m.cells.length p.ccap).ownBlock=some g -> w.heap.size <= g /\ g ≠ bm /\ g ≠ p.gt) (l4:∀ g,(Value.slice p.oad m.owners.length p.ocap).ownBlock=some g -> w.heap.size <= g /\ g ≠ bm /\ g ≠ p.gt /\ (Value.slice p.cad m.cells.length p.ccap).ownBlock ≠ some g)
 (l5:bm ≠ p.gt) (l6:bm < W.heap.size) (l7:p.gt < W.heap.size):∃ T',RM W T' F id bm u p m (List.replicate n zBt) /\ zAG T T' id w:=by
 obtain ⟨T',M,hx⟩:=MaP.make (R:=zA8) (sz:=3) (ty:=138) (B:=fun _ _ _ _=>True) (F:=fun _=>False) (T:=T) (id:=id) (u:=u) hT hw hrow hm hc ho ht trivial (fun _ h=>h.elim) l1 l2 l3 l4 l5 l6 l7;refine ⟨T',⟨M.tag,M.row,M.cells,M.owners,⟨M.zM.tag,⟨M.zM.sep.ok,fun k hk=>hx.none (hF k hk).1 (hF k hk).2,fun k hk=>yI (hF k hk).2 hw⟩,M.zM.row,M.zM.len,fun i h t a b=>?_⟩,hb⟩,hx⟩
 obtain ⟨e1,e2,css,q1,q2,q3,q4,_⟩:=M.zM.each i h t a b;rw [hm] at b;obtain ⟨_,rfl⟩:=kM.1 (vD b);exact ⟨e1,e2,css,q1,q2,q3,q4,fun j f cs e=>by simp at e⟩
section
variable {cs:List Int} {mu:Int} {bs:List Bd} {w:World} {F:Nat -> Prop} {uca uta:Option Addr} {ucc utc:Nat}
theorem zNA (r:Int) (hr:r ≠ 0) (HW:Hid (∀ W,Keeps zA w W -> Calls Tryz.prog 19 #[.agg #[.slice uca cs.length ucc, .int .i64 mu, .slice uta bs.length utc]] W fun e w'=>e=.returned (.int .i64 r) /\ Keeps zA W w')) :
 Calls Tryz.prog 7 #[.agg #[.slice uca cs.length ucc, .int .i64 mu, .slice uta bs.length utc]] w fun e w'=>e=.returned (.tuple #[.pointer none, .int .i64 r]) /\ Keeps zA w w':=by
 have hb:(r != 0)=true:=uE.2 hr;go_enter Tryz.func7,Tryz.ntmps7
 go_upto_region 1 with fail
 obtain ⟨b1,w1,e1,e2,R1,K1,_⟩:=newRow w [.slice uca cs.length ucc, .int .i64 mu, .slice uta bs.length utc] 25;try rw [e1]
 try rw [e2]
 have y:=R1.zB5;have k1:=zH w1;have HK1:=yB K1;clear e1 e2 K1;go_wp2_with (go_at_call 19;refine (HW.out _ HK1.out).mono ?_;rintro e w2 ⟨rfl,k2⟩;have HK2:=yB k2;clear k2)
 refine xA (v:=.tuple #[.pointer none, .int .i64 r]) (by simp [results,Tryz.results7,go_sem]) rfl ⟨rfl,HK1.out.zB HK2.out⟩
theorem zND {T:zS} {id:Nat} (hcs:zAf w F cs uca) (hbd:zAk w F bs uta) (hT:∀ k x,T k=some x -> k < w.heap.size) (hid:∀ k t,T k ≠ some (id,t)) (hF:∀ k,F k -> T k=none /\ k < w.heap.size) (hr:zX ⟨cs,mu,bs⟩=true) (HW:Hid (∀ W,Keeps zA w W -> Calls Tryz.prog 19 #[.agg #[.slice uca cs.length ucc, .int .i64 mu, .slice uta bs.length utc]] W fun e w'=>e=.returned (.int .i64 0) /\ Keeps zA W w')) :
 Calls Tryz.prog 7 #[.agg #[.slice uca cs.length ucc, .int .i64 mu, .slice uta bs.length utc]] w fun e w'=>∃ b T' p H,e=.returned (.tuple #[.pointer (some ⟨b,0,none⟩), .int .i64 0]) /\ RM w' T' F id b ⟨cs,mu,bs⟩ p (zCY ⟨cs,mu,bs⟩) H /\ zAG T T' id w /\ Keeps zA w w':=by
 have HU:Hid (zAk w F bs uta /\ (∀ k x,T k=some x -> k < w.heap.size) /\ (∀ k,F k -> T k=none /\ k < w.heap.size) /\ zX ⟨cs,mu,bs⟩=true /\ ∀ k t,T k ≠ some (id,t)):=⟨hbd,hT,hF,hr,hid⟩;have HSR:Hid (∀ W,Keeps zA w W -> zAD W (.slice uca cs.length ucc) cs.length (ints cs)):=fun W q=>(hcs.keeps q (fun _ _ h=>h)).src
 obtain ⟨nb1,nb8,nc8,nm0,nm8,_⟩:=zAq hr;have nb1:1 <= bs.length:=nb1;have nb8:bs.length <= 8:=nb8;have nc8:cs.length <= 8:=nc8;have nm0:0 <= mu:=nm0;have nm8:mu <= 8:=nm8;obtain ⟨mm,rfl⟩:∃ mm:Nat,mu=mm:=⟨mu.toNat,by omega⟩
 obtain ⟨i0,hi0,hz0,hz1,hz2⟩:=info_parts zA3;obtain ⟨j0,hj0,hy0,hy1,hy2⟩:=info_parts zNK;clear hcs hbd hT hF hr hid;go_enter Tryz.func7,Tryz.ntmps7
 go_upto_region 1 with fail
 obtain ⟨b1,w1,e1,e2,R1,K1,_⟩:=newRow w [.slice uca cs.length ucc, .int .i64 (mm:Int), .slice uta bs.length utc] 25;try rw [e1]
 try rw [e2]
 have y:=R1.zB5;have k1:=zH w1;have HK1:=yB K1;clear e1 e2 K1;go_upto_region 4 with (go_at_call 19;refine (HW.out _ HK1.out).mono ?_;rintro e w2 ⟨rfl,k2⟩)
 have HK2:Hid (Keeps zA w w2):=HK1.out.zB k2;have R12:=R1.keeps k2 (fun h=>h);have y1:=R12.zB5;have HY1:=yB R12;clear y R1 R12 k1 k2;have k2:=zH w2;go_upto_region 5 with fail
 obtain ⟨bm,w3,e1,e2,R3,K3,_⟩:=newRow w2 [.slice uca cs.length ucc, .int .i64 (mm:Int), .slice uta bs.length utc, .slice none 0 0, .slice none 0 0, .slice none 0 0] 74;rw [e1,e2];have HP0:Hid (Parts w2 w3 bm [.slice uca cs.length ucc, .int .i64 (mm:Int), .slice uta bs.length utc] [zBd 3 1,zBd 3 1,zBd 77 3]):=Parts.start (w:=w2) (pre:=[.slice uca cs.length ucc, .int .i64 (mm:Int), .slice uta bs.length utc]) [(3,1),(3,1),(77,3)] R3 (by omega) K3;have y3:=R3.zDi;have k3:=zH w3;have k23:=K3;clear e1 e2 K3 R3;refine zC6 7 (by kernel_rfl) (by kernel_rfl) _ (.pointer (some ⟨bm,0,none⟩)) rfl (.inl ⟨rfl,fun _=>rfl⟩) (fun _ _ _ h=>h) (Keeps zA) (yC zA) (fun a b c h h'=>xE h h') (zAH [some (.pointer (some ⟨bm,0,none⟩)),some (.pointer (some ⟨bm,0,none⟩)),some (.pointer (some ⟨bm,0,none⟩)),some (.pointer (some ⟨bm,3,none⟩)),some (.slice none 0 0),some (.pointer (some ⟨b1,0,none⟩)),some (.slice uca cs.length ucc)] (fun _ _ _=>False)) (uG (fun _ _ _ _ h _=>h)) (fun _=>rfl) ?_ ?_
 ·intro q oo hq1 hq ho vs W Q' hR hd hK
  have HRW:Keeps zA w3 W:=((zH w3).drew).zB hR;have kW:Keeps zA w2 W:=k23.zB HRW;rcases (show q=1 \/ q=2 \/ q=3 \/ q=4 \/ q=5 \/ q=6 by omega) with rfl | rfl | rfl | rfl | rfl | rfl
  all_goals (simp only [yD,yE,yO] at ho;subst ho;simp only [zJ,yD,yE,yL,Option.bind,Act.put,yF,yG,yH] at hK ⊢;clear hq hq1)
  all_goals try ((try (have e:vs 0=_:=hd 0 (by decide +kernel);rw [e] at hK ⊢;clear e));(try (have e:vs 1=_:=hd 1 (by decide +kernel);rw [e] at hK ⊢;clear e));(try (have e:vs 2=_:=hd 2 (by decide +kernel);rw [e] at hK ⊢;clear e));(try (have e:vs 3=_:=hd 3 (by decide +kernel);rw [e] at hK ⊢;clear e));(try (have e:vs 4=_:=hd 4 (by decide +kernel);rw [e] at hK ⊢;clear e));(try (have e:vs 5=_:=hd 5 (by decide +kernel);rw [e] at hK ⊢;clear e));(try (have e:vs 6=_:=hd 6 (by decide +kernel);rw [e] at hK ⊢;clear e));clear hd;go_wp2_with (fail);first | exact hK _ _ (yC _ _) rfl)
 ·intro vs W hR hFF
  have HRW:Keeps zA w3 W:=((zH w3).drew).zB hR;have HKW:Hid (Keeps zA w W):=(HK2.out.zB k23).zB HRW;have e0:vs 0=_:=hFF 0 (by decide);have e4:vs 4=_:=hFF 4 (by decide);have e6:vs 6=_:=hFF 6 (by decide);simp only [zJ,yD,yE,yL,Option.bind,Act.put,yF,yG,yH,yS,yR];rw [e0,e4,e6];clear hFF e0 e4 e6 hR y3;have HPW:=yB (HP0.out.keeps HRW);go_upto_region 6 with (at_builtin;refine zI _ (by rfl) _ _ 22 (by rfl) 0 3 i0 _ 1 8 xG hi0 hz0 hz1 hz2 rfl (by decide) (.slice none 0 0) 0 ([]) (by rfl) (xJ _ _ _ _) (.slice uca cs.length ucc) cs.length (ints cs) (by rfl) (HSR.out _ HKW.out) (by rw [zAE,vZ]) (zDj cs) (by unfold maxLen;omega) (by omega) (yJ _) ?_;intro ad9 cap9 w4 hout;obtain ⟨k9,r9,p9⟩:=Parts.step (k:=0) (HPW.out) rfl hout;have K9:=yB k9;have P9:=yB p9;have zr:=r9.cell (k:=3) (v:=.slice none 0 0) rfl;have zf:=r9.free (k:=3) (by simp);clear k9 r9 p9 hout)
  have P4:Hid (Parts w2 (w4.setCell ⟨bm,3,none⟩ (.slice ad9 (0+cs.length) cap9)) bm [.slice uca cs.length ucc, .int .i64 (mm:Int), .slice uta bs.length utc] [⟨3,1,ad9,0+cs.length,cap9,ints cs⟩,zBd 3 1,zBd 77 3]):=P9.out;rw [yZ] at P4;generalize w4.setCell ⟨bm,3,none⟩ (.slice ad9 cs.length cap9)=w5 at P4 ⊢;obtain ⟨ca,hca⟩:=eX ad9;obtain ⟨cc,hcc⟩:=eX cap9;rw [<- hca,<- hcc] at P4;clear zr zf P9 K9 HRW HPW HP0 k3 k23 hca hcc;go_wp2_with fail
  go_loopw [6] (fun kv wr=>∃ (k:Nat) (oa:Option Addr) (oc:Nat),k <= mm /\ kv=.int .i64 k /\ Hid (Parts w2 wr bm [.slice uca cs.length ucc, .int .i64 (mm:Int), .slice uta bs.length utc] [⟨3,1,ca,cs.length,cc,ints cs⟩,⟨3,1,oa,k,oc,ints (List.replicate k (-1))⟩,zBd 77 3])) (fun kv _=>mm - (intOf kv).toNat)
  case atStart=>exact ⟨0,none,0,yJ _,rfl,P4.out⟩
  case round =>
   obtain ⟨k,oa,oc,hk,rfl,hS⟩:=hrel;have kwr:Keeps zA w2 wr:=hS.out.keep;have y6:=(show zC wr bm [.slice uca cs.length ucc, .int .i64 (mm:Int), .slice uta bs.length utc, .slice ca cs.length cc, .slice oa k oc, .slice none 0 0] from hS.out.row).zDi;have lb:bm < wr.heap.size:=(show zC wr bm [_,_,_,_,_,_] from hS.out.row).lt (by simp);have nb:bm ≠ wr.heap.size:=by omega
   have kr:=zH wr;by_cases hlt:k < mm
   ·have i1:(0:Int) <= k:=by omega
    have i2:(k:Int) < mm:=by omega
    clear hk;go_wp2_with (at_builtin;refine zI _ (by rfl) _ _ 22 (by rfl) 0 3 i0 _ 1 8 xG hi0 hz0 hz1 hz2 rfl (by decide) (.slice oa k oc) k (ints (List.replicate k (-1))) (by rfl) (zG (hS.out.own 1 _ rfl) ((yC zA _).alloc _) (fun _ _ h=>h)) (.slice (some ⟨wr.heap.size,0,none⟩) 1 1) 1 ([.int .i64 (-1)]) (by rfl) (xN (yN (yK _ _))) (rfl) (by simp [Value.oneCell']) (by unfold maxLen;omega) (by omega) (yJ _) ?_;intro ad9 cap9 wB hout;obtain ⟨k9,r9,p9⟩:=Parts.step (k:=1) (hS.out.keeps ((yC _ _).alloc _)) rfl hout;have K9:=yB k9;have P9:=yB p9;have zr:=r9.cell (k:=4) (v:=.slice oa k oc) rfl;have zf:=r9.free (k:=4) (by simp);clear k9 r9 p9 hout)
    have e:ints (List.replicate (k+1) (-1))=ints (List.replicate k (-1))++[.int .i64 (-1)]:=by simp [ints,kV]
    exact J141 _
   ·have hkn:mm=k:=by omega
    subst hkn;have HS1:=hS;clear hlt hk P4;go_wp2_with fail
    clear y6 lb nb kr kwr;go_loopw [7] (fun kv wr=>∃ (k:Nat) (fa:Option Addr) (fc:Nat),k <= bs.length /\ kv=.int .i64 k /\ Hid (Parts w2 wr bm [.slice uca cs.length ucc, .int .i64 (mm:Int), .slice uta bs.length utc] [⟨3,1,ca,cs.length,cc,ints cs⟩,⟨3,1,oa,mm,oc,ints (List.replicate mm (-1))⟩,⟨77,3,fa,k,fc,zAO (List.replicate k zBt)⟩])) (fun kv _=>bs.length - (intOf kv).toNat)
    case atStart=>exact ⟨0,none,0,yJ _,rfl,HS1.out⟩
    case round =>
     obtain ⟨k,fa,fc,hk,rfl,hS⟩:=hrel;have kwr:Keeps zA w2 wr:=hS.out.keep;have y6:=(show zC wr bm [.slice uca cs.length ucc, .int .i64 (mm:Int), .slice uta bs.length utc, .slice ca cs.length cc, .slice oa mm oc, .slice fa k fc] from hS.out.row).zDi;have lb:bm < wr.heap.size:=(show zC wr bm [_,_,_,_,_,_] from hS.out.row).lt (by simp);have nb:bm ≠ wr.heap.size:=by omega
     have kr:=zH wr;by_cases hlt:k < bs.length
     ·have i1:(0:Int) <= k:=by omega
      have i2:(k:Int) < bs.length:=by omega
      clear hk HS1;go_wp2_with (at_builtin;refine zI _ (by rfl) _ _ 72 (by rfl) 0 77 j0 _ 3 56 Tryz.underlying72 hj0 hy0 hy1 hy2 rfl (by decide) (.slice fa k fc) k (zAO (List.replicate k zBt)) (by rfl) (zG (hS.out.own 2 _ rfl) ((yC zA _).alloc _) (fun _ _ h=>h)) (.slice (some ⟨wr.heap.size,0,none⟩) 1 1) 1 (zBt.cells) (by rfl) (xN (yN (yK _ _))) (rfl) (by simp [zBt,HTh.cells,Value.oneCell']) (by unfold maxLen;omega) (by omega) (yJ _) ?_;intro ad9 cap9 wB hout;obtain ⟨k9,r9,p9⟩:=Parts.step (k:=2) (hS.out.keeps ((yC _ _).alloc _)) rfl hout;have K9:=yB k9;have P9:=yB p9;have zr:=r9.cell (k:=5) (v:=.slice fa k fc) rfl;have zf:=r9.free (k:=5) (by simp);clear k9 r9 p9 hout)
      have e:zAO (List.replicate (k+1) zBt)=zAO (List.replicate k zBt)++zBt.cells:=by simp [zAO,kV]
      exact J141 _
     ·have hkn:k=bs.length:=by omega
      subst hkn;clear hlt hk HS1;obtain ⟨gt,ct,hft,_,_⟩:=(hS.out.own 2 _ rfl).form (by show 0 < bs.length;omega);have hft:Value.slice fa bs.length fc=.slice (some ⟨gt,0,none⟩) bs.length ct:=hft;simp only [uJ,true_and] at hft;obtain ⟨rfl,rfl⟩:=hft;have hn0:∀ g,(Value.slice ca cs.length cc).ownBlock=some g -> w2.heap.size <= g /\ g ≠ bm:=fun g h=>hS.out.new 0 _ g rfl h
      have hn1:∀ g,(Value.slice oa mm oc).ownBlock=some g -> w2.heap.size <= g /\ g ≠ bm:=fun g h=>hS.out.new 1 _ g rfl h
      have hgt:=hS.out.new 2 _ gt rfl rfl;have hs02:∀ g,(Value.slice ca cs.length cc).ownBlock=some g -> g ≠ gt:=fun g h e=>hS.out.sep 0 2 _ _ g (by decide) rfl rfl h (by rw [e];rfl)
      have hs12:∀ g,(Value.slice oa mm oc).ownBlock=some g -> g ≠ gt:=fun g h e=>hS.out.sep 1 2 _ _ g (by decide) rfl rfl h (by rw [e];rfl)
      have hs10:∀ g,(Value.slice oa mm oc).ownBlock=some g -> (Value.slice ca cs.length cc).ownBlock ≠ some g:=fun g h e=>hS.out.sep 1 0 _ _ g (by decide) rfl rfl h e
      have hkw:=HK2.out.size;have hK:Keeps zA w wr:=HK2.out.zB kwr
      have hmk:=RM.make (w:=w) (W:=wr) (T:=T) (F:=F) (id:=id) (bm:=bm) (u:=⟨cs,mm,bs⟩) (p:=⟨uca,cs.length,ucc,mm,uta,utc,ca,cc,oa,oc,gt,fc⟩) (m:=zBz ⟨cs,mm,bs⟩) (n:=bs.length) HU.out.2.1 hK.size
       (by
         have e:(zBz ⟨cs,mm,bs⟩).owners.length=mm:=by simp [zBz]
         have e2:(zBz ⟨cs,mm,bs⟩).zM.length=bs.length:=by simp [zBz]
         rw [e,e2];exact hS.out.row)
       (by show List.map (fun _=>(⟨1,[],[]⟩:WTh)) bs=_;rw [List.map_const'])
       (hS.out.own 0 _ rfl)
       (by
         have e:(zBz ⟨cs,mm,bs⟩).owners.length=mm:=by simp [zBz]
         have e2:(zBz ⟨cs,mm,bs⟩).owners=List.replicate mm (-1):=by simp [zBz]
         rw [e,e2];exact hS.out.own 1 _ rfl)
       (uC (hS.out.own 2 _ rfl)) (HU.out.1.keeps hK (fun _ _ h=>h)) HU.out.2.2.1 (by have:=hS.out.bn;omega) (by have:=hgt.1;show _ <= gt;omega)
       (fun g hg=>⟨by have:=(hn0 g hg).1;omega,(hn0 g hg).2,hs02 g hg⟩)
       (by
         have e:(zBz ⟨cs,mm,bs⟩).owners.length=mm:=by simp [zBz]
         rw [e];exact fun g hg=>⟨by have:=(hn1 g hg).1;omega,(hn1 g hg).2,hs12 g hg,hs10 g hg⟩)
       (fun e=>hgt.2 e.symm) lb (zO (hS.out.own 2 _ rfl) rfl)
      obtain ⟨T1,M1,x1⟩:=hmk;have hlen:0 < (zBz ⟨cs,mm,bs⟩).zM.length:=by simp [zBz];omega
      have HBG:=yB (zGB (i:=0) M1 HU.out.2.2.2.1 zIB hlen (by simp [zBz,zm.get,List.getD,show 0 < bs.length by omega]));have HX1:Hid (zAG T T1 id w /\ Keeps zA w wr):=⟨x1,hK⟩;clear hn0 hn1 hgt hs02 hs12 hs10 M1 x1 hK hlen hkw;go_wp2_with (go_at_call 29;refine HBG.out.mono ?_;rintro e w9 ⟨rfl,g9⟩;have HW9:=yB g9;clear g9)
      obtain ⟨T2,H2,M2,x2,q2⟩:=HW9.out;refine xA (v:=.tuple #[.pointer (some ⟨bm,0,none⟩), .int .i64 0]) (by simp [results,Tryz.results7,go_sem]) rfl ⟨bm,T2,_,H2,rfl,M2,HX1.out.1.trans x2 HX1.out.2.size,HX1.out.2.trans q2 (fun q hq ⟨t,e⟩=>?_)⟩
      rcases HX1.out.1.2 q _ e with h | h
      ·exact HU.out.2.2.2.2 q t h
      ·omega
end
end Go.Proofs.YtfokdllgnblamaaGreatDoor
