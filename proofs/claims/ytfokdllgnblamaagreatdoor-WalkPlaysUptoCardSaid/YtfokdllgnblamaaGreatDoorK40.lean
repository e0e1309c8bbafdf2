/- Layer K: texts joined. -/
import Derived.Test.YtfokdllgnblamaaGreatDoorK32
set_option linter.all false
set_option maxHeartbeats 2000000
set_option maxRecDepth 8000
namespace Go.Proofs.YtfokdllgnblamaaGreatDoor
open Go.RowKit
theorem J232 (P:Prop) (h:P:=by have h1:=HKS.out.size;have h2:=HB2.out;rcases e with e | e <;> omega):P:=h
def zB3:Value:=.slice none 0 0
theorem zHx:(Tryz.prog.info? 91).map (fun i=>(i.zero,i.size,i.bytes))=some (some (.agg #[.int .i64 0, .int .i64 0]),2,16):=by kernel_rfl
def zD6 (m:zm) (k:Nat):List Int:=(m.zM.take k).map (·.st)
def zF5 (m:zm) (k:Nat):List (Int × Int):=(List.range k).map (zAS m)
def zDl (p:Int × Int):List Value:=[.int .i64 p.1, .int .i64 p.2]
def zCP (m:zm) (k:Nat):List Value:=(zF5 m k).flatMap zDl
theorem zGd {m:zm} {k:Nat} {f:WTh} (h:m.zM[k]?=some f):ints (zD6 m (k+1))=ints (zD6 m k)++[.int .i64 f.st]:=by
 obtain ⟨hk,e⟩:=yP.1 h;simp [zD6,ints,List.take_add_one,h]
theorem zFw (m:zm) (k:Nat):zCP m (k+1)=zCP m k++zDl (zAS m k):=by
 simp [zCP,zF5,List.range_succ,List.flatMap_append]
theorem zKf (m:zm) (k:Nat):(zCP m k).length=k*2:=by
 unfold zCP;rw [zBw zDl 2 (fun _=>rfl)];simp [zF5]
structure zEY (w:World) (m:zm) (c1 c2 c3 c4:Value) (w':World):Prop where
 keeps:Keeps zA w w'
 cells:zAt w' w.heap.size c1 m.cells.length (ints m.cells)
 owners:zAt w' w.heap.size c2 m.owners.length (ints m.owners)
 sts:zAt w' w.heap.size c3 m.zM.length (ints (zD6 m m.zM.length))
 next:zAt w' w.heap.size c4 m.zM.length (zCP m m.zM.length)
def zHK (w:World) (m:zm) (e:Ending) (w':World):Prop :=
 ∃ a1 a2 c3 c4,e=.returned (.agg #[.slice a1 m.cells.length m.cells.length, .slice a2 m.owners.length m.owners.length,c3,c4]) /\ zEY w m (.slice a1 m.cells.length m.cells.length) (.slice a2 m.owners.length m.owners.length) c3 c4 w'
def zKH (b B:Nat) (cv ov:Value) (xs ys:List Int) (j:Nat) (v:Value) (W:World):Prop :=
 match j with
 | 0=>v=.pointer (some ⟨b,0,none⟩)
 | 1=>v=.pointer (some ⟨b,0,none⟩)
 | 2=>v=.pointer (some ⟨b,3,none⟩)
 | 3=>v=cv
 | 4=>∃ ad cap,v=.slice ad xs.length cap /\ W.ownsRow 0 3 1 v xs.length (ints xs) /\ ∀ kb,v.ownBlock=some kb -> B <= kb
 | 5=>∃ ad,v=.slice ad xs.length xs.length /\ zAt W B v xs.length (ints xs)
 | 6=>v=.pointer (some ⟨b,0,none⟩)
 | 7=>v=.pointer (some ⟨b,0,none⟩)
 | 8=>v=.pointer (some ⟨b,4,none⟩)
 | 9=>v=ov
 | 10=>∃ ad cap,v=.slice ad ys.length cap /\ W.ownsRow 0 3 1 v ys.length (ints ys) /\ ∀ kb,v.ownBlock=some kb -> B <= kb
 | 11=>∃ ad,v=.slice ad ys.length ys.length /\ zAt W B v ys.length (ints ys)
 | 12=>∃ a1 a2,v=.agg #[.slice a1 xs.length xs.length, .slice a2 ys.length ys.length, .slice none 0 0, .slice none 0 0] /\ zAt W B (.slice a1 xs.length xs.length) xs.length (ints xs) /\ zAt W B (.slice a2 ys.length ys.length) ys.length (ints ys)
 | 13=>∃ z,v=.pointer (some ⟨z,0,none⟩) /\ B <= z /\ zC W z [zB3,zB3,zB3,zB3]
 | _=>True
theorem zAt.zD {w w':World} {B:Nat} {v:Value} {n:Nat} {cs:List Value} (h:zAt w B v n cs) (hk:Keeps zA w w'):zAt w' B v n cs:=h.keeps hk (fun _ _ h=>h)
theorem zKH.st {b B:Nat} {cv ov:Value} {xs ys:List Int} (j:Nat) (v:Value) (W W':World) (h:zKH b B cv ov xs ys j v W) (hk:Keeps zA W W'):zKH b B cv ov xs ys j v W':=by
 unfold zKH at *;split at h
 case h_5=>obtain ⟨ad,cap,e,h1,h2⟩:=h;exact ⟨ad,cap,e,zG h1 hk (fun _ _ h=>h),h2⟩
 case h_6=>obtain ⟨ad,e,h1⟩:=h;exact ⟨ad,e,h1.zD hk⟩
 case h_11=>obtain ⟨ad,cap,e,h1,h2⟩:=h;exact ⟨ad,cap,e,zG h1 hk (fun _ _ h=>h),h2⟩
 case h_12=>obtain ⟨ad,e,h1⟩:=h;exact ⟨ad,e,h1.zD hk⟩
 case h_13=>obtain ⟨a1,a2,e,h1,h2⟩:=h;exact ⟨a1,a2,e,h1.zD hk,h2.zD hk⟩
 case h_14=>obtain ⟨z,e,h1,h2⟩:=h;exact ⟨z,e,h1,h2.keeps hk (fun h=>h)⟩
 all_goals first | exact h | trivial
theorem zEM {w:World} {g z:Nat} {xs:List Int} {a:Option Addr} {n c:Nat} {r:List Value} (h:zC w g (ints xs)) (hn:xs.length ≠ 0) (hz:zC w z (.slice a n c :: r)):g ≠ z:=by
 intro e
 subst e;cases xs with
 | nil=>exact hn rfl
 | cons k t =>
   have h1:=h.cell (k:=0) (v:=.int .i64 k) rfl;have h2:=hz.cell (k:=0) (v:=.slice a n c) rfl;rw [h1] at h2;cases h2
theorem zAt.zFi {S:Nat -> Prop} {w w':World} {B n:Nat} {v:Value} {cs:List Value} (h:zAt w B v n cs) (hk:Keeps S w w') (hS:∀ g,n ≠ 0 -> zC w g cs -> g < w.heap.size -> ¬ S g) (hc:cs.length=0 -> n=0):zAt w' B v n cs:=by
 obtain ⟨ad,cap,e,e1,e2,h1⟩:=h;refine ⟨ad,cap,e,e1,e2,fun hn=>?_⟩
 obtain ⟨g,h2,h3,h4⟩:=h1 hn;exact ⟨g,h2,h3,h4.keeps hk (hS g hn h4 (h4.lt (fun e=>hn (hc (by rw [e];rfl)))))⟩
theorem zAt.mono {w:World} {B B' n:Nat} {v:Value} {cs:List Value} (h:zAt w B v n cs) (hB:B' <= B):zAt w B' v n cs:=by
 obtain ⟨ad,cap,e,e1,e2,h1⟩:=h;refine ⟨ad,cap,e,e1,e2,fun hn=>?_⟩
 obtain ⟨g,h2,h3,h4⟩:=h1 hn;exact ⟨g,h2,yX hB h3,h4⟩
structure StL (w wS:World) (m:zm) (z B2:Nat) (c1 c2:Value) (k:Nat) (v3 v4:Value) (wr:World):Prop where
 row:zC wr z [c1,c2,v3,v4]
 own3:wr.ownsRow 0 3 1 v3 k (ints (zD6 m k))
 own4:wr.ownsRow 0 91 2 v4 k (zCP m k)
 new3:∀ kb,v3.ownBlock=some kb -> B2 <= kb
 new4:∀ kb,v4.ownBlock=some kb -> B2 <= kb
 ne:∀ kb,v3.ownBlock=some kb -> v4.ownBlock ≠ some kb
 keep:Keeps (fun q=>q=z \/ B2 <= q) wS wr
theorem zAt.clip {w:World} {B n cap:Nat} {ad:Option Addr} {xs:List Value} {e:TypeId} (h:w.ownsRow 0 e 1 (.slice ad n cap) n xs) (hb:∀ k,(Value.slice ad n cap).ownBlock=some k -> B <= k):zAt w B (.slice ad n n) n xs:=by
 have hn:n <= maxLen:=by
  rcases h.2 with ⟨e,rfl⟩ | ⟨g,cap',cur,e,_,_,h1,h2,_⟩
  ·unfold maxLen;omega
  ·cases e;exact yX h1 h2
 obtain ⟨ad',cap',e,h1,h2,h3⟩:=zAt.of (B:=B) h hb;cases e;refine ⟨ad,n,rfl,hn,fun e=>?_,h3⟩
 rcases h.2 with ⟨e2,rfl⟩ | ⟨g,cap',cur,e2,_⟩
 ·rfl
 ·cases e2;cases e
def zKs (b z k:Nat) (v4:Value) (p:Int × Int) (j:Nat) (v:Value) (W:World):Prop :=
 match j with
 | 0=>v=.pointer (some ⟨z,3,none⟩)
 | 1=>v=v4
 | 2=>v=.pointer (some ⟨b,0,none⟩)
 | 3=>v=.int .i64 k
 | 4=>v=.agg #[.int .i64 p.1, .int .i64 p.2]
 | 5=>∃ g,v=.slice (some ⟨g,0,none⟩) 1 1 /\ zC W g (zDl p)
 | _=>True
theorem zKs.st {b z k:Nat} {v4:Value} {p:Int × Int} (j:Nat) (v:Value) (W W':World) (h:zKs b z k v4 p j v W) (hk:Keeps zA W W'):zKs b z k v4 p j v W':=by
 unfold zKs at *;split at h
 case h_6=>obtain ⟨g,e,h1⟩:=h;exact ⟨g,e,h1.keeps hk (fun h=>h)⟩
 all_goals first | exact h | trivial
theorem zGz {w:World} {T:zS} {F:Nat -> Prop} {id b:Nat} {u:Un} {pp:zAn} {m:zm} {H:List HTh} (h:MaP zi 1 103 zBX w T F id b u pp m H) (hu:zX u=true) (hg:m.ok u) :
 Calls Tryz.prog 27 #[.pointer (some ⟨b,0,none⟩)] w (zHK w m):=by
 obtain ⟨cv,hcv⟩:=eX (Value.slice pp.cad m.cells.length pp.ccap);obtain ⟨ov,hov⟩:=eX (Value.slice pp.oad m.owners.length pp.ocap);have k0:=h.zIu w (zH w);have k1:=h.zIm w (zH w);have k3:=h.zA1 w (zH w);have hri:=zAq hu;have hmc:m.cells.length <= 8:=by rw [hg.cells];exact hri.2.2.1
 have hmo:m.owners.length <= 8:=by rw [hg.owners];have:=hri.2.2.2.2.1;omega
 have HC0:Hid (∀ W,Keeps zA w W -> Calls Tryz.prog 32 #[.slice pp.cad m.cells.length pp.ccap] W (zBk 3 1 W m.cells.length (ints m.cells))):=fun W hk=>zEX W _ m.cells ((h.cells.keeps hk (fun _ _ h=>h)).src) (by omega)
 have HC1:Hid (∀ W,Keeps zA w W -> Calls Tryz.prog 32 #[.slice pp.oad m.owners.length pp.ocap] W (zBk 3 1 W m.owners.length (ints m.owners))):=fun W hk=>zEX W _ m.owners ((h.owners.keeps hk (fun _ _ h=>h)).src) (by omega)
 have HMA:Hid (∀ W,Keeps zA w W -> MaP zi 1 103 zBX W T F id b u pp m H):=fun W hk=>xQ zU zAP h hk
 have HUU:Hid (zX u=true /\ m.zM.length <= 8):=⟨hu,by rw [hg.zM];exact hri.2.1⟩;obtain ⟨gf,hgf⟩:=eX pp.gt;obtain ⟨cf,hcf⟩:=eX pp.ct;have HGF:=yB hgf;rw [<- hgf,<- hcf] at k3;clear hri hgf hcf;obtain ⟨xs,hxs⟩:=eX m.cells;obtain ⟨ys,hys⟩:=eX m.owners;rw [<- hxs] at HC0 hmc hcv k0;rw [<- hys] at HC1 hmo hov k1;have hCV:=hcv;have hOV:=hov;rw [<- hcv] at k0 HC0;rw [<- hov] at k1 HC1;have HG:=yB hg;obtain ⟨ca0,cn0,cc0,hcs⟩:∃ a n c,cv=.slice a n c:=⟨_,_,_,hcv⟩
 obtain ⟨oa0,on0,oc0,hos⟩:∃ a n c,ov=.slice a n c:=⟨_,_,_,hov⟩
 subst hcs hos;have HX:Hid (xs=m.cells):=hxs;have HY:Hid (ys=m.owners):=hys;clear h hg hxs hys hcv hov hCV hOV hu;go_enter Tryz.func27,Tryz.ntmps27
 go_upto_region 1 with fail
 refine zL 14 (by kernel_rfl) (by kernel_rfl) (Keeps zA) (yC zA) (fun a b c h h'=>xE h h') (zKH b (w.heap.size+1) (.slice ca0 cn0 cc0) (.slice oa0 on0 oc0) xs ys) zKH.st ?_ ?_
 ·intro i o hi ho vs W Q' hR hd hK
  have HR:Keeps zA w W:=(((yC zA w).alloc _).drew).zB hR;have hB:w.heap.size+1 <= W.heap.size:=by have:=hR.size;simpa using this
  have k0':=HR.cell (p:=⟨b,3,none⟩) (fun h=>h) k0;have k1':=HR.cell (p:=⟨b,4,none⟩) (fun h=>h) k1;rcases (show i=0 \/ i=1 \/ i=2 \/ i=3 \/ i=4 \/ i=5 \/ i=6 \/ i=7 \/ i=8 \/ i=9 \/ i=10 \/ i=11 \/ i=12 \/ i=13 by omega) with rfl | rfl | rfl | rfl | rfl | rfl | rfl | rfl | rfl | rfl | rfl | rfl | rfl | rfl
  all_goals (simp only [yD,yE,yO] at ho;subst ho;simp only [zJ,yD,yE,yL,Option.bind,Act.put,yF,yG,yH] at hK ⊢;clear hi)
  ·go_wp2_with fail
   exact hK _ _ (yC _ _) rfl
  ·exact J150 _
  ·exact J155 _
  ·exact J153 _
  ·have e3:vs 3=_:=hd 3 (by kernel_rfl)
   rw [e3] at hK ⊢;clear hd;go_wp2_with (go_at_call 32;refine (HC0.out _ HR).mono ?_;rintro e W1 ⟨ad,cap,rfl,g1,g2,g3⟩)
   exact hK _ _ g2 ⟨ad,cap,rfl,g1,fun kb e=>yX hB (g3 kb e)⟩
  ·obtain ⟨ad,cap,e4,h1,h2⟩:=(hd 4 (by kernel_rfl):∃ ad cap,vs 4=.slice ad xs.length cap /\ W.ownsRow 0 3 1 (vs 4) xs.length (ints xs) /\ ∀ kb,(vs 4).ownBlock=some kb -> w.heap.size+1 <= kb)
   rw [e4] at hK h1 h2 ⊢;clear hd;go_wp2_with (go_at_call 63;refine (zGq _ ad _ cap xs h1).mono ?_;rintro e W1 ⟨rfl,rfl⟩)
   exact hK _ _ (yC _ _) ⟨ad,rfl,zAt.clip h1 h2⟩
  ·go_wp2_with fail
   exact hK _ _ (yC _ _) rfl
  ·exact J176 _
  ·exact J164 _
  ·exact J163 _
  ·have e9:vs 9=_:=hd 9 (by kernel_rfl)
   rw [e9] at hK ⊢;clear hd;go_wp2_with (go_at_call 32;refine (HC1.out _ HR).mono ?_;rintro e W1 ⟨ad,cap,rfl,g1,g2,g3⟩)
   exact hK _ _ g2 ⟨ad,cap,rfl,g1,fun kb e=>yX hB (g3 kb e)⟩
  ·obtain ⟨ad,cap,e10,h1,h2⟩:=(hd 10 (by kernel_rfl):∃ ad cap,vs 10=.slice ad ys.length cap /\ W.ownsRow 0 3 1 (vs 10) ys.length (ints ys) /\ ∀ kb,(vs 10).ownBlock=some kb -> w.heap.size+1 <= kb)
   rw [e10] at hK h1 h2 ⊢;clear hd;go_wp2_with (go_at_call 63;refine (zGq _ ad _ cap ys h1).mono ?_;rintro e W1 ⟨rfl,rfl⟩)
   exact hK _ _ (yC _ _) ⟨ad,rfl,zAt.clip h1 h2⟩
  ·obtain ⟨a1,e5,h1⟩:=(hd 5 (by kernel_rfl):∃ ad,vs 5=.slice ad xs.length xs.length /\ zAt W (w.heap.size+1) (vs 5) xs.length (ints xs))
   obtain ⟨a2,e11,h2⟩:=(hd 11 (by kernel_rfl):∃ ad,vs 11=.slice ad ys.length ys.length /\ zAt W (w.heap.size+1) (vs 11) ys.length (ints ys));rw [e5] at h1;rw [e11] at h2;rw [e5,e11] at hK ⊢;clear hd;go_wp2_with fail
   exact hK _ _ (yC _ _) ⟨a1,a2,rfl,h1,h2⟩
  ·clear hd
   go_wp2_with fail
   exact hK _ _ ((yC _ _).alloc _) ⟨_,rfl,hB,yN (yK W _)⟩
 ·intro vs W hR hF
  have HR:Keeps zA w W:=(((yC zA w).alloc _).drew).zB hR;obtain ⟨a1,a2,e12,h1,h2⟩:=(hF 12 (by decide):∃ a1 a2,vs 12=.agg #[.slice a1 xs.length xs.length, .slice a2 ys.length ys.length, .slice none 0 0, .slice none 0 0] /\ zAt W (w.heap.size+1) (.slice a1 xs.length xs.length) xs.length (ints xs) /\ zAt W (w.heap.size+1) (.slice a2 ys.length ys.length) ys.length (ints ys));obtain ⟨z,e13,h3,h4⟩:=(hF 13 (by decide):∃ z,vs 13=.pointer (some ⟨z,0,none⟩) /\ w.heap.size+1 <= z /\ zC W z [zB3,zB3,zB3,zB3]);simp only [zJ,yD,yE,yL,Option.bind,Act.put,yF,yG,yH,yS,yR];rw [e12,e13];clear hF;generalize vs 0=u0;generalize vs 1=u1;generalize vs 2=u2;generalize vs 3=u3;generalize vs 4=u4;generalize vs 5=u5;generalize vs 6=u6;generalize vs 7=u7;generalize vs 8=u8;generalize vs 9=u9;generalize vs 10=u10;generalize vs 11=u11;clear e12 e13;have H1:=yB h1;have H2:=yB h2;have H4:=yB h4;have HRR:=yB HR;have HRR2:=yB hR;have z0:=h4.cell (k:=0) (v:=zB3) rfl;have z1:=h4.cell (k:=1) (v:=zB3) rfl;have z2:=h4.cell (k:=2) (v:=zB3) rfl;have z3:=h4.cell (k:=3) (v:=zB3) rfl;have f0:=h4.free (k:=0) (by decide);have f1:=h4.free (k:=1) (by decide);have f2:=h4.free (k:=2) (by decide);have f3:=h4.free (k:=3) (by decide);have H3:=yB h3;clear h1 h2 h3 h4 HR hR;go_upto_region 2 with fail
  have hrow:zC (((((W.setCell ⟨z,0,none⟩ (.slice a1 xs.length xs.length)).setCell ⟨z,1,none⟩ (.slice a2 ys.length ys.length)).setCell ⟨z,2,none⟩ (.slice none 0 0)).setCell ⟨z,3,none⟩ (.slice none 0 0))) z [.slice a1 xs.length xs.length, .slice a2 ys.length ys.length,zB3,zB3]:=(((H4.out.set 0 (by simp) _).set 1 (by simp) _).set 2 (by simp) _).set 3 (by simp) _
  have hks:Keeps (fun q=>q=z) W (((((W.setCell ⟨z,0,none⟩ (.slice a1 xs.length xs.length)).setCell ⟨z,1,none⟩ (.slice a2 ys.length ys.length)).setCell ⟨z,2,none⟩ (.slice none 0 0)).setCell ⟨z,3,none⟩ (.slice none 0 0))) :=
   ((((yC (fun q=>q=z) W).setCell (p:=⟨z,0,none⟩) (fun _=>rfl) _).setCell (p:=⟨z,1,none⟩) (fun _=>rfl) _).setCell (p:=⟨z,2,none⟩) (fun _=>rfl) _).setCell (p:=⟨z,3,none⟩) (fun _=>rfl) _
  generalize ((((W.setCell ⟨z,0,none⟩ (.slice a1 xs.length xs.length)).setCell ⟨z,1,none⟩ (.slice a2 ys.length ys.length)).setCell ⟨z,2,none⟩ (.slice none 0 0)).setCell ⟨z,3,none⟩ (.slice none 0 0))=wS at hrow hks ⊢;have HRW:Hid (zC wS z [.slice a1 xs.length xs.length, .slice a2 ys.length ys.length,zB3,zB3]):=hrow;have HZ0:w.heap.size <= z:=by have:=H3.out;omega
  have HKS:Hid (Keeps zA w wS):=HRR.out.trans hks (fun k hlt e=>absurd hlt (by omega));have HF1:Hid (zAt wS (w.heap.size+1) (.slice a1 xs.length xs.length) xs.length (ints xs)):=H1.out.zFi hks (fun g hn hr _=>zEM hr hn H4.out) (by simp [ints]);have HF2:Hid (zAt wS (w.heap.size+1) (.slice a2 ys.length ys.length) ys.length (ints ys)):=H2.out.zFi hks (fun g hn hr _=>zEM hr hn H4.out) (by simp [ints]);have HY0:Hid (zC wS w.heap.size [zB3,zB3,zB3,zB3]):=((yN (yK w _)).drewN 1 |>.keeps HRR2.out (fun h=>h)).keeps hks (fun e=>by have e':w.heap.size=z:=e;have:=H3.out;omega);have k3':=HKS.out.cell (p:=⟨b,5,none⟩) (fun h=>h) k3;clear k0 k1 k3 hrow hks z0 z1 z2 z3 f0 f1 f2 f3 H1 H2 H4 HRR HRR2 HC0 HC1;obtain ⟨i0,hi0,hz0,hz1,hz2⟩:=info_parts zA3;obtain ⟨j0,hj0,hy0,hy1,hy2⟩:=info_parts zHx;obtain ⟨n,hn⟩:=eX m.zM.length;have hn8:n <= 8:=by rw [hn];exact HUU.out.2
  have HN:Hid (n=m.zM.length):=hn;obtain ⟨c1,hc1⟩:=eX (Value.slice a1 xs.length xs.length);obtain ⟨c2,hc2⟩:=eX (Value.slice a2 ys.length ys.length);obtain ⟨B2,hB2⟩:=eX wS.heap.size;have HB2:Hid (B2=wS.heap.size):=hB2;have HAP:Hid (∀ g (l:List Int),zC wS g (ints l) -> l.length ≠ 0 -> g ≠ z):=fun g l hr hn=>zEM hr hn HRW.out
  have HCE1:Hid (c1=Value.slice a1 xs.length xs.length):=hc1;have HCE2:Hid (c2=Value.slice a2 ys.length ys.length):=hc2;rw [<- hc1] at HRW HF1;rw [<- hc2] at HRW HF2;rw [<- hn] at k3';clear hn hc1 hc2 hB2;go_wp2_with fail
  go_loopw [24] (fun kv wr=>∃ k a3 q3 a4 q4,k <= n /\ kv=.int .i64 (k:Nat) /\ Hid (StL w wS m z B2 c1 c2 k (.slice a3 k q3) (.slice a4 k q4) wr)) (fun kv _=>n - (intOf kv).toNat)
  case atStart=>exact ⟨0,none,0,none,0,yJ _,rfl,⟨HRW.out,xJ _ _ _ _,xJ _ _ _ _,fun kb e=>by exact J190 _,fun kb e=>by exact J190 _,fun kb e=>by exact J190 _,yC _ _⟩⟩
  case round =>
   obtain ⟨k,a3,q3,a4,q4,hk,rfl,hS⟩:=hrel;by_cases hlt:k < n
   ·have HKR:Hid (Keeps zA w wr):=HKS.out.trans hS.out.keep (fun q hq e=>by exact J232 _)
    have HVr:=yB (HMA.out wr HKR.out);have hkf:k < m.zM.length:=by rw [<- HN.out];exact hlt
    have hf:m.zM[k]?=some m.zM[k]:=yQ hkf;obtain ⟨f,ef⟩:=eX (m.zM[k]);rw [<- ef] at hf;clear ef;have HF:=yB hf;have HNX:=yB (zGd hf)
    obtain ⟨ra,rn,rc,pa,pn,pc,t0,t1,t2⟩:∃ ra rn rc pa pn pc,wr.cell? ⟨gf,k*3,none⟩=some (.int .i64 f.st) /\ wr.cell? ⟨gf,k*3+1,none⟩=some (.slice ra rn rc) /\ wr.cell? ⟨gf,k*3+2,none⟩=some (.slice pa pn pc):=by
     obtain ⟨rv,fv,hH,⟨ra,rc,e1,_⟩,⟨_,_,_,_,⟨pa,pc,e2⟩,_⟩⟩:=HVr.out.zM.get hf;rw [HGF.out];have:=zAA HVr.out.zM.row hH
     rw [e1,e2] at this;exact ⟨ra,_,rc,pa,_,pc,this⟩
    have HA:Hid (∀ W,Keeps zA w W -> Calls Tryz.prog 48 #[.pointer (some ⟨b,0,none⟩), .int .i64 k] W fun e w'=>e=.returned (.agg #[.int .i64 (zAS m k).1, .int .i64 (zAS m k).2]) /\ Keeps zA W w'):=fun W hk=>zEN (HMA.out W hk) HG.out hkf
    clear hf hkf;have i1:(0:Int) <= k:=by omega
    have i2:(k:Int) < n:=by omega
    have zr2:=hS.out.row.cell (k:=2) (v:=.slice a3 k q3) rfl;have zf2:=hS.out.row.free (k:=2) (by simp);have lz:z < wr.heap.size:=hS.out.row.lt (by simp);have lg:gf < wr.heap.size:=xP wr _ t0;have nz:z ≠ wr.heap.size:=by omega
    have ng:gf ≠ wr.heap.size:=by omega
    have LZ:Hid (z < B2):=by have:=HRW.out.lt (by simp);rw [HB2.out];exact this
    clear k3' hk;go_upto_region 6 with (at_builtin;refine zI _ (by rfl) _ _ 22 (by rfl) 0 3 i0 _ 1 8 xG hi0 hz0 hz1 hz2 rfl (by decide) (.slice a3 k q3) k (ints (zD6 m k)) (by rfl) (zG hS.out.own3 (S:=zA) (((yC _ _).alloc _).alloc _) (fun _ _ h=>h)) (.slice (some ⟨wr.heap.size+1,0,none⟩) 1 1) 1 [.int .i64 f.st] (by rfl) (xN (yN (ze _ _ _))) rfl (by simp [Value.oneCell']) (by unfold maxLen;omega) (by omega) (yJ _) ?_;intro a3' q3' w6 hout;have HO:=yB hout;have HK6:Hid (Keeps (fun q=>(Value.slice a3 k q3).ownBlock=some q) wr w6):=hout.keeps (((yC _ _).alloc _).alloc _) (fun q e _=>e);have HR6:Hid (zC w6 z [c1,c2, .slice a3 k q3, .slice a4 k q4]):=hS.out.row.keeps HK6.out (fun e=>by have h1:=hS.out.new3 z e;have h2:=LZ.out;omega);have zr6:=HR6.out.cell (k:=2) (v:=.slice a3 k q3) rfl;have zf6:=HR6.out.free (k:=2) (by simp);clear hout)
    have hm1:zC (w6.setCell ⟨z,2,none⟩ (.slice a3' (k+1) q3')) z [c1,c2, .slice a3' (k+1) q3', .slice a4 k q4]:=HR6.out.set 2 (by simp) _
    have hnz3:∀ kb,(Value.slice a3' (k+1) q3').ownBlock=some kb -> B2 <= kb:=fun kb e=>by
     rcases HO.out.2.2 kb e with h1 | h1
     ·exact hS.out.new3 kb h1
     ·have h2:=hS.out.keep.size;have h3:=HB2.out;rw [h1];simp;omega
    have hK7:Keeps (fun q=>q=z \/ B2 <= q) wS (w6.setCell ⟨z,2,none⟩ (.slice a3' (k+1) q3')):=(hS.out.keep.trans HK6.out (fun q _ e=>.inr (hS.out.new3 q e))).setCell (p:=⟨z,2,none⟩) (fun _=>.inl rfl) _
    have hm2:(w6.setCell ⟨z,2,none⟩ (.slice a3' (k+1) q3')).ownsRow 0 3 1 (.slice a3' (k+1) q3') (k+1) (ints (zD6 m (k+1))):=by
     rw [HNX.out];exact zG HO.out.1 (Keeps.setCell (S:=fun q=>q=z) (p:=⟨z,2,none⟩) (yC _ _) (fun _=>rfl) _) (fun q e e'=>by have h1:=hnz3 q e;have h2:=LZ.out;have e'':q=z:=e';omega)
    have hm3:(w6.setCell ⟨z,2,none⟩ (.slice a3' (k+1) q3')).ownsRow 0 91 2 (.slice a4 k q4) k (zCP m k):=by
     refine zG (zG hS.out.own4 HK6.out (fun q e e'=>hS.out.ne q e' e)) (Keeps.setCell (S:=fun q=>q=z) (p:=⟨z,2,none⟩) (yC _ _) (fun _=>rfl) _) (fun q e e'=>by have h1:=hS.out.new4 q e;have h2:=LZ.out;have e'':q=z:=e';omega)
    have hne:∀ kb,(Value.slice a3' (k+1) q3').ownBlock=some kb -> (Value.slice a4 k q4).ownBlock ≠ some kb:=fun kb e e'=>by
     rcases HO.out.2.2 kb e with h1 | h1
     ·exact hS.out.ne kb h1 e'
     ·have h2:=zO hS.out.own4 e'
      simp at h1
      have h3:wr.heap.size <= wr.heap.size:=yV _;omega
    generalize w6.setCell ⟨z,2,none⟩ (.slice a3' (k+1) q3')=w7 at hm1 hm2 hm3 hK7 ⊢;have HM1:=yB hm1;have HM2:=yB hm2;have HM3:=yB hm3;have HNZ3:=yB hnz3;have HNE:=yB hne;have HK7:=yB hK7;have HK7':Hid (Keeps zA w w7):=HKS.out.trans HK7.out (fun q hq e=>by exact J232 _);obtain ⟨p,hp⟩:=eX (zAS m k);have HP:Hid (zCP m (k+1)=zCP m k++zDl p):=by rw [hp];exact zFw m k
    rw [<- hp] at HA;clear hm1 hm2 hm3 hnz3 hne hK7 hp t0 t1 t2 zr2 zf2 lz lg nz ng zr6 zf6 HR6 HO HK6 HNX HF HVr;refine zL 6 (by kernel_rfl) (by kernel_rfl) (Keeps zA) (yC zA) (fun a b c h h'=>xE h h') (zKs b z k (.slice a4 k q4) p) zKs.st ?_ ?_
    ·intro i o hi ho vs W Q' hR hd hK
     have HR:Keeps zA w7 W:=((yC zA w7).drew).zB hR;have z3:=(HM1.out.keeps HR (fun h=>h)).cell (k:=3) (v:=.slice a4 k q4) rfl;rcases (show i=0 \/ i=1 \/ i=2 \/ i=3 \/ i=4 \/ i=5 by omega) with rfl | rfl | rfl | rfl | rfl | rfl
     all_goals (simp only [yD,yE,yO] at ho;subst ho;simp only [zJ,yD,yE,yL,Option.bind,Act.put,yF,yG,yH] at hK ⊢;clear hi)
     ·exact J3 _
     ·exact J150 _
     ·exact J3 _
     ·exact J3 _
     ·have e2:vs 2=_:=hd 2 (by kernel_rfl)
      have e3:vs 3=_:=hd 3 (by kernel_rfl);rw [e2,e3] at hK ⊢;clear hd;go_wp2_with (go_at_call 48;refine (HA.out _ (HK7'.out.zB HR)).mono ?_;rintro e W1 ⟨rfl,g1⟩)
      exact hK _ _ g1 rfl
     ·have e4:vs 4=_:=hd 4 (by kernel_rfl)
      rw [e4] at hK ⊢;clear hd;exact J43 _
    ·intro vs W hR hF
     have HR:Keeps zA w7 W:=((yC zA w7).drew).zB hR;have e1:vs 1=_:=hF 1 (by decide);obtain ⟨g,e5,h5⟩:=(hF 5 (by decide):∃ g,vs 5=.slice (some ⟨g,0,none⟩) 1 1 /\ zC W g (zDl p));simp only [zJ,yD,yE,yL,Option.bind,Act.put,yF,yG,yH,yS,yR];rw [e1,e5];clear hF e1 e5;generalize vs 0=y0;generalize vs 2=y2;generalize vs 3=y3;generalize vs 4=y4;have H5:=yB h5;have HRK:=yB HR;have hl8:k+1 <= 8:=by omega
     clear h5 HR hR HA;go_wp2_with (at_builtin;refine zI _ (by rfl) _ _ 49 (by rfl) 0 91 j0 _ 2 16 Tryz.underlying49 hj0 hy0 hy1 hy2 rfl (by decide) (.slice a4 k q4) k (zCP m k) (by rfl) (zG HM3.out HRK.out (fun _ _ h=>h)) (.slice (some ⟨g,0,none⟩) 1 1) 1 (zDl p) (by rfl) (xN H5.out) rfl (by simp [zDl,Value.oneCell']) (by unfold maxLen;omega) (by omega) (yJ _) ?_;intro a4' q4' w8 hout;have HO:=yB hout;have HK8:Hid (Keeps (fun q=>(Value.slice a4 k q4).ownBlock=some q) w7 w8):=hout.keeps (HRK.out.mono (fun _ _ h=>h.elim)) (fun q e _=>e);have HR8:Hid (zC w8 z [c1,c2, .slice a3' (k+1) q3', .slice a4 k q4]):=HM1.out.keeps HK8.out (fun e=>by have h1:=hS.out.new4 z e;have h2:=LZ.out;omega);have zr8:=HR8.out.cell (k:=3) (v:=.slice a4 k q4) rfl;have zf8:=HR8.out.free (k:=3) (by simp);clear hout)
     refine ⟨⟨k+1,a3',q3',a4',q4',by omega,by go_num,?_⟩,by simp [intOf];omega⟩
     have hB:B2 <= W.heap.size:=by have h1:=HK7.out.size;have h2:=HRK.out.size;have h3:=HB2.out;omega
     have hn4:∀ kb,(Value.slice a4' (k+1) q4').ownBlock=some kb -> B2 <= kb:=fun kb e=>by
      rcases HO.out.2.2 kb e with h1 | h1
      ·exact hS.out.new4 kb h1
      ·omega
     have hzz:∀ (v:Value) (q:Nat),(∀ kb,v.ownBlock=some kb -> B2 <= kb) -> v.ownBlock=some q -> ¬ (q=z):=fun v q h e e'=>by have h1:=h q e;have h2:=LZ.out;omega
     refine ⟨HR8.out.set 3 (by simp) _,?_,?_,HNZ3.out,hn4,fun kb e e'=>?_,(HK7.out.trans HK8.out (fun q _ e=>.inr (hS.out.new4 q e))).setCell (p:=⟨z,3,none⟩) (fun _=>.inl rfl) _⟩
     ·exact zG (zG HM2.out HK8.out (fun q e e'=>HNE.out q e e')) (Keeps.setCell (S:=fun q=>q=z) (p:=⟨z,3,none⟩) (yC _ _) (fun _=>rfl) _) (fun q e=>hzz _ q HNZ3.out e)
     ·rw [HP.out]
      exact zG HO.out.1 (Keeps.setCell (S:=fun q=>q=z) (p:=⟨z,3,none⟩) (yC _ _) (fun _=>rfl) _) (fun q e=>hzz _ q hn4 e)
     ·rcases HO.out.2.2 kb e' with h1 | h1
      ·exact HNE.out kb e h1
      ·have h2:=zO HM2.out e
       have h3:=HRK.out.size;omega
   ·have hkn:k=n:=by omega
    subst hkn;clear hlt k3';have hK:Keeps zA w wr:=HKS.out.trans hS.out.keep (fun q hq e=>by exact J232 _);have HK:=yB hK;have hY:zC wr w.heap.size [zB3,zB3,zB3,zB3]:=HY0.out.keeps hS.out.keep (fun e=>by have h1:=HY0.out.lt (by simp);have h2:=HB2.out;have h3:=H3.out;rcases e with e | e <;> omega);have HY1:=yB hY;have y0:=hY.cell (k:=0) (v:=zB3) rfl;have y1:=hY.cell (k:=1) (v:=zB3) rfl;have y2:=hY.cell (k:=2) (v:=zB3) rfl;have y3:=hY.cell (k:=3) (v:=zB3) rfl;have g0:=hY.free (k:=0) (by decide);have g1:=hY.free (k:=1) (by decide);have g2:=hY.free (k:=2) (by decide);have g3:=hY.free (k:=3) (by decide);have hz:=hS.out.row;have x0:=hz.cell (k:=0) (v:=c1) rfl;have x1:=hz.cell (k:=1) (v:=c2) rfl;have x2:=hz.cell (k:=2) (v:=.slice a3 k q3) rfl;have x3:=hz.cell (k:=3) (v:=.slice a4 k q4) rfl;have HFF1:Hid (zAt wr (w.heap.size+1) c1 xs.length (ints xs)):=HF1.out.zFi hS.out.keep (fun g hn hr hlt e=>by have h2:=HB2.out;rcases e with e | e;exact HAP.out g xs hr hn e;omega) (by simp [ints]);have HFF2:Hid (zAt wr (w.heap.size+1) c2 ys.length (ints ys)):=HF2.out.zFi hS.out.keep (fun g hn hr hlt e=>by have h2:=HB2.out;rcases e with e | e;exact HAP.out g ys hr hn e;omega) (by simp [ints]);have hB:w.heap.size+1 <= B2:=by have h1:=HY0.out.lt (by simp);have h2:=HB2.out;omega
    have HFF3:Hid (zAt wr (w.heap.size+1) (.slice a3 k q3) k (ints (zD6 m k))):=zAt.of hS.out.own3 (fun kb e=>by have:=hS.out.new3 kb e;omega);have HFF4:Hid (zAt wr (w.heap.size+1) (.slice a4 k q4) k (zCP m k)):=zAt.of hS.out.own4 (fun kb e=>by have:=hS.out.new4 kb e;omega);rw [HCE1.out] at x0 HFF1;rw [HCE2.out] at x1 HFF2;clear hY hK hz hB HF1 HF2 hS;go_wp2_with fail
    have hrow:zC ((((wr.setCell ⟨w.heap.size,0,none⟩ (.slice a1 xs.length xs.length)).setCell ⟨w.heap.size,1,none⟩ (.slice a2 ys.length ys.length)).setCell ⟨w.heap.size,2,none⟩ (.slice a3 k q3)).setCell ⟨w.heap.size,3,none⟩ (.slice a4 k q4)) w.heap.size [.slice a1 xs.length xs.length, .slice a2 ys.length ys.length, .slice a3 k q3, .slice a4 k q4]:=(((HY1.out.set 0 (by simp) _).set 1 (by simp) _).set 2 (by simp) _).set 3 (by simp) _
    have hks:Keeps (fun q=>q=w.heap.size) wr ((((wr.setCell ⟨w.heap.size,0,none⟩ (.slice a1 xs.length xs.length)).setCell ⟨w.heap.size,1,none⟩ (.slice a2 ys.length ys.length)).setCell ⟨w.heap.size,2,none⟩ (.slice a3 k q3)).setCell ⟨w.heap.size,3,none⟩ (.slice a4 k q4)) :=
     ((((yC (fun q=>q=w.heap.size) wr).setCell (p:=⟨w.heap.size,0,none⟩) (fun _=>rfl) _).setCell (p:=⟨w.heap.size,1,none⟩) (fun _=>rfl) _).setCell (p:=⟨w.heap.size,2,none⟩) (fun _=>rfl) _).setCell (p:=⟨w.heap.size,3,none⟩) (fun _=>rfl) _
    generalize (((wr.setCell ⟨w.heap.size,0,none⟩ (.slice a1 xs.length xs.length)).setCell ⟨w.heap.size,1,none⟩ (.slice a2 ys.length ys.length)).setCell ⟨w.heap.size,2,none⟩ (.slice a3 k q3)).setCell ⟨w.heap.size,3,none⟩ (.slice a4 k q4)=wE at hrow hks ⊢;have hfr:∀ (v:Value) (n:Nat) (cs:List Value),zAt wr (w.heap.size+1) v n cs -> zAt wE w.heap.size v n cs:=fun v n cs h=>(h.keeps hks (fun q hq e=>by have e':q=w.heap.size:=e;omega)).mono (Nat.le_succ _)
    refine xA (v:=.agg #[.slice a1 xs.length xs.length, .slice a2 ys.length ys.length, .slice a3 k q3, .slice a4 k q4]) (by simp [results,Tryz.results27,go_sem,hrow.cell (k:=0) rfl,hrow.cell (k:=1) rfl,hrow.cell (k:=2) rfl,hrow.cell (k:=3) rfl]) rfl ?_
    have e1:=HX.out;have e2:=HY.out;have e3:=HN.out;subst e1 e2;rw [e3] at HFF3 HFF4 ⊢;exact ⟨a1,a2,_,_,rfl,HK.out.trans hks (fun q hq e=>by have e':q=w.heap.size:=e;omega),hfr _ _ _ HFF1.out,hfr _ _ _ HFF2.out,hfr _ _ _ HFF3.out,hfr _ _ _ HFF4.out⟩
end Go.Proofs.YtfokdllgnblamaaGreatDoor
