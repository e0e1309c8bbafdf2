/- Layer L: texts joined. -/
import Derived.Test.YtfokdllgnblamaaGreatDoorL37
set_option linter.all false
set_option maxHeartbeats 2000000
set_option maxRecDepth 8000
namespace Go.Proofs.YtfokdllgnblamaaGreatDoor
open Go.RowKit
theorem J193 (P:Prop) (h:P:=by have h1:=HKS.out.size;have h2:=HB2.out;rcases e with e | e <;> omega):P:=h
def zBx:Value:=.slice none 0 0
theorem zKm:(Tryz.prog.info? 91).map (fun i=>(i.zero,i.size,i.bytes))=some (some (.agg #[.int .i64 0, .int .i64 0]),2,16):=by kernel_rfl
def zEe (m:ze) (k:Nat):List Int:=(m.zL.take k).map (·.st)
def zGd (m:ze) (k:Nat):List (Int × Int):=(List.range k).map (zAa m)
def zBe (p:Int × Int):List Value:=[.int .i64 p.1, .int .i64 p.2]
def zDz (m:ze) (k:Nat):List Value:=(zGd m k).flatMap zBe
theorem zJ0 {m:ze} {k:Nat} {f:WTh} (h:m.zL[k]?=some f):ints (zEe m (k+1))=ints (zEe m k)++[.int .i64 f.st]:=by
 obtain ⟨hk,e⟩:=yO.1 h;simp [zEe,ints,List.take_add_one,h]
theorem zIJ (m:ze) (k:Nat):zDz m (k+1)=zDz m k++zBe (zAa m k):=by
 simp [zDz,zGd,List.range_succ,List.flatMap_append]
structure zDN (w:World) (m:ze) (c1 c2 c3 c4:Value) (w':World):Prop where
 keeps:Keeps zA w w'
 cells:zAO w' w.heap.size c1 m.cells.length (ints m.cells)
 owners:zAO w' w.heap.size c2 m.owners.length (ints m.owners)
 sts:zAO w' w.heap.size c3 m.zL.length (ints (zEe m m.zL.length))
 next:zAO w' w.heap.size c4 m.zL.length (zDz m m.zL.length)
def zL8 (w:World) (m:ze) (e:Ending) (w':World):Prop :=
 ∃ a1 a2 c3 c4,e=.returned (.agg #[.slice a1 m.cells.length m.cells.length, .slice a2 m.owners.length m.owners.length,c3,c4]) /\ zDN w m (.slice a1 m.cells.length m.cells.length) (.slice a2 m.owners.length m.owners.length) c3 c4 w'
def zKg (b B:Nat) (cv ov:Value) (xs ys:List Int) (j:Nat) (v:Value) (W:World):Prop :=
 match j with
 | 0=>v=.pointer (some ⟨b,0,none⟩)
 | 1=>v=.pointer (some ⟨b,0,none⟩)
 | 2=>v=.pointer (some ⟨b,3,none⟩)
 | 3=>v=cv
 | 4=>∃ ad cap,v=.slice ad xs.length cap /\ W.ownsRow 0 3 1 v xs.length (ints xs) /\ ∀ kb,v.ownBlock=some kb -> B <= kb
 | 5=>∃ ad,v=.slice ad xs.length xs.length /\ zAO W B v xs.length (ints xs)
 | 6=>v=.pointer (some ⟨b,0,none⟩)
 | 7=>v=.pointer (some ⟨b,0,none⟩)
 | 8=>v=.pointer (some ⟨b,4,none⟩)
 | 9=>v=ov
 | 10=>∃ ad cap,v=.slice ad ys.length cap /\ W.ownsRow 0 3 1 v ys.length (ints ys) /\ ∀ kb,v.ownBlock=some kb -> B <= kb
 | 11=>∃ ad,v=.slice ad ys.length ys.length /\ zAO W B v ys.length (ints ys)
 | 12=>∃ a1 a2,v=.agg #[.slice a1 xs.length xs.length, .slice a2 ys.length ys.length, .slice none 0 0, .slice none 0 0] /\ zAO W B (.slice a1 xs.length xs.length) xs.length (ints xs) /\ zAO W B (.slice a2 ys.length ys.length) ys.length (ints ys)
 | 13=>∃ z,v=.pointer (some ⟨z,0,none⟩) /\ B <= z /\ zC W z [zBx,zBx,zBx,zBx]
 | _=>True
theorem zAO.zG {w w':World} {B:Nat} {v:Value} {n:Nat} {cs:List Value} (h:zAO w B v n cs) (hk:Keeps zA w w'):zAO w' B v n cs:=h.keeps hk (fun _ _ h=>h)
theorem zKg.st {b B:Nat} {cv ov:Value} {xs ys:List Int} (j:Nat) (v:Value) (W W':World) (h:zKg b B cv ov xs ys j v W) (hk:Keeps zA W W'):zKg b B cv ov xs ys j v W':=by
 unfold zKg at *;split at h
 case h_5=>obtain ⟨ad,cap,e,h1,h2⟩:=h;exact ⟨ad,cap,e,zF h1 hk (fun _ _ h=>h),h2⟩
 case h_6=>obtain ⟨ad,e,h1⟩:=h;exact ⟨ad,e,h1.zG hk⟩
 case h_11=>obtain ⟨ad,cap,e,h1,h2⟩:=h;exact ⟨ad,cap,e,zF h1 hk (fun _ _ h=>h),h2⟩
 case h_12=>obtain ⟨ad,e,h1⟩:=h;exact ⟨ad,e,h1.zG hk⟩
 case h_13=>obtain ⟨a1,a2,e,h1,h2⟩:=h;exact ⟨a1,a2,e,h1.zG hk,h2.zG hk⟩
 case h_14=>obtain ⟨z,e,h1,h2⟩:=h;exact ⟨z,e,h1,h2.keeps hk (fun h=>h)⟩
 all_goals first | exact h | trivial
theorem zD7 {w:World} {g z:Nat} {xs:List Int} {a:Option Addr} {n c:Nat} {r:List Value} (h:zC w g (ints xs)) (hn:xs.length ≠ 0) (hz:zC w z (.slice a n c :: r)):g ≠ z:=by
 intro e
 subst e;cases xs with
 | nil=>exact hn rfl
 | cons k t =>
   have h1:=h.cell (k:=0) (v:=.int .i64 k) rfl;have h2:=hz.cell (k:=0) (v:=.slice a n c) rfl;rw [h1] at h2;cases h2
theorem zAO.zFU {S:Nat -> Prop} {w w':World} {B n:Nat} {v:Value} {cs:List Value} (h:zAO w B v n cs) (hk:Keeps S w w') (hS:∀ g,n ≠ 0 -> zC w g cs -> g < w.heap.size -> ¬ S g) (hc:cs.length=0 -> n=0):zAO w' B v n cs:=by
 obtain ⟨ad,cap,e,e1,e2,h1⟩:=h;refine ⟨ad,cap,e,e1,e2,fun hn=>?_⟩
 obtain ⟨g,h2,h3,h4⟩:=h1 hn;exact ⟨g,h2,h3,h4.keeps hk (hS g hn h4 (h4.lt (fun e=>hn (hc (by rw [e];rfl)))))⟩
theorem zAO.mono {w:World} {B B' n:Nat} {v:Value} {cs:List Value} (h:zAO w B v n cs) (hB:B' <= B):zAO w B' v n cs:=by
 obtain ⟨ad,cap,e,e1,e2,h1⟩:=h;refine ⟨ad,cap,e,e1,e2,fun hn=>?_⟩
 obtain ⟨g,h2,h3,h4⟩:=h1 hn;exact ⟨g,h2,yU hB h3,h4⟩
structure StL (w wS:World) (m:ze) (z B2:Nat) (c1 c2:Value) (k:Nat) (v3 v4:Value) (wr:World):Prop where
 row:zC wr z [c1,c2,v3,v4]
 own3:wr.ownsRow 0 3 1 v3 k (ints (zEe m k))
 own4:wr.ownsRow 0 91 2 v4 k (zDz m k)
 new3:∀ kb,v3.ownBlock=some kb -> B2 <= kb
 new4:∀ kb,v4.ownBlock=some kb -> B2 <= kb
 ne:∀ kb,v3.ownBlock=some kb -> v4.ownBlock ≠ some kb
 keep:Keeps (fun q=>q=z \/ B2 <= q) wS wr
theorem zAO.clip {w:World} {B n cap:Nat} {ad:Option Addr} {xs:List Value} {e:TypeId} (h:w.ownsRow 0 e 1 (.slice ad n cap) n xs) (hb:∀ k,(Value.slice ad n cap).ownBlock=some k -> B <= k):zAO w B (.slice ad n n) n xs:=by
 have hn:n <= maxLen:=by
  rcases h.2 with ⟨e,rfl⟩ | ⟨g,cap',cur,e,_,_,h1,h2,_⟩
  ·unfold maxLen;omega
  ·cases e;exact yU h1 h2
 obtain ⟨ad',cap',e,h1,h2,h3⟩:=zAO.of (B:=B) h hb;cases e;refine ⟨ad,n,rfl,hn,fun e=>?_,h3⟩
 rcases h.2 with ⟨e2,rfl⟩ | ⟨g,cap',cur,e2,_⟩
 ·rfl
 ·cases e2;cases e
def zKF (b z k:Nat) (v4:Value) (p:Int × Int) (j:Nat) (v:Value) (W:World):Prop :=
 match j with
 | 0=>v=.pointer (some ⟨z,3,none⟩)
 | 1=>v=v4
 | 2=>v=.pointer (some ⟨b,0,none⟩)
 | 3=>v=.int .i64 k
 | 4=>v=.agg #[.int .i64 p.1, .int .i64 p.2]
 | 5=>∃ g,v=.slice (some ⟨g,0,none⟩) 1 1 /\ zC W g (zBe p)
 | _=>True
theorem zKF.st {b z k:Nat} {v4:Value} {p:Int × Int} (j:Nat) (v:Value) (W W':World) (h:zKF b z k v4 p j v W) (hk:Keeps zA W W'):zKF b z k v4 p j v W':=by
 unfold zKF at *;split at h
 case h_6=>obtain ⟨g,e,h1⟩:=h;exact ⟨g,e,h1.keeps hk (fun h=>h)⟩
 all_goals first | exact h | trivial
theorem zKH {w:World} {T:zS} {F:Nat -> Prop} {id b:Nat} {u:Un} {pp:zBE} {m:ze} {H:List HTh} (h:MaP zi 1 103 zBW w T F id b u pp m H) (hu:zV u=true) (hg:m.ok u) :
 Calls Tryz.prog 27 #[.pointer (some ⟨b,0,none⟩)] w (zL8 w m):=by
 obtain ⟨cv,hcv⟩:∃ z,z=Value.slice pp.cad m.cells.length pp.ccap:=⟨_,rfl⟩
 obtain ⟨ov,hov⟩:∃ z,z=Value.slice pp.oad m.owners.length pp.ocap:=⟨_,rfl⟩
 have k0:=h.zMK w (zI w);have k1:=h.zMd w (zI w);have k3:=h.zB2 w (zI w);have hri:=zAt hu;have hmc:m.cells.length <= 8:=by rw [hg.cells];exact hri.2.2.1
 have hmo:m.owners.length <= 8:=by rw [hg.owners];have:=hri.2.2.2.2.1;omega
 have HC0:Hid (∀ W,Keeps zA w W -> Calls Tryz.prog 32 #[.slice pp.cad m.cells.length pp.ccap] W (zB3 3 1 W m.cells.length (ints m.cells))):=fun W hk=>zD6 W _ m.cells ((h.cells.keeps hk (fun _ _ h=>h)).src) (by omega)
 have HC1:Hid (∀ W,Keeps zA w W -> Calls Tryz.prog 32 #[.slice pp.oad m.owners.length pp.ocap] W (zB3 3 1 W m.owners.length (ints m.owners))):=fun W hk=>zD6 W _ m.owners ((h.owners.keeps hk (fun _ _ h=>h)).src) (by omega)
 have HMA:Hid (∀ W,Keeps zA w W -> MaP zi 1 103 zBW W T F id b u pp m H):=fun W hk=>uW zR zAD h hk
 have HUU:Hid (zV u=true /\ m.zL.length <= 8):=⟨hu,by rw [hg.zL];exact hri.2.1⟩;obtain ⟨gf,hgf⟩:∃ z,z=pp.gt:=⟨_,rfl⟩
 obtain ⟨cf,hcf⟩:∃ z,z=pp.ct:=⟨_,rfl⟩
 have HGF:=yA hgf;rw [<- hgf,<- hcf] at k3;clear hri hgf hcf;obtain ⟨xs,hxs⟩:∃ xs,xs=m.cells:=⟨_,rfl⟩
 obtain ⟨ys,hys⟩:∃ ys,ys=m.owners:=⟨_,rfl⟩
 rw [<- hxs] at HC0 hmc hcv k0;rw [<- hys] at HC1 hmo hov k1;have hCV:=hcv;have hOV:=hov;rw [<- hcv] at k0 HC0;rw [<- hov] at k1 HC1;have HG:=yA hg;obtain ⟨ca0,cn0,cc0,hcs⟩:∃ a n c,cv=.slice a n c:=⟨_,_,_,hcv⟩
 obtain ⟨oa0,on0,oc0,hos⟩:∃ a n c,ov=.slice a n c:=⟨_,_,_,hov⟩
 subst hcs hos;have HX:Hid (xs=m.cells):=hxs;have HY:Hid (ys=m.owners):=hys;clear h hg hxs hys hcv hov hCV hOV hu;go_enter Tryz.func27,Tryz.ntmps27
 go_upto_region 1 with fail
 refine zP 14 (by kernel_rfl) (by kernel_rfl) (Keeps zA) (yB zA) (fun a b c h h'=>xD h h') (zKg b (w.heap.size+1) (.slice ca0 cn0 cc0) (.slice oa0 on0 oc0) xs ys) zKg.st ?_ ?_
 ·intro i o hi ho vs W Q' hR hd hK
  have HR:Keeps zA w W:=(((yB zA w).alloc _).drew).zB hR;have hB:w.heap.size+1 <= W.heap.size:=by have:=hR.size;simpa using this
  have k0':=HR.cell (p:=⟨b,3,none⟩) (fun h=>h) k0;have k1':=HR.cell (p:=⟨b,4,none⟩) (fun h=>h) k1;rcases (show i=0 \/ i=1 \/ i=2 \/ i=3 \/ i=4 \/ i=5 \/ i=6 \/ i=7 \/ i=8 \/ i=9 \/ i=10 \/ i=11 \/ i=12 \/ i=13 by omega) with rfl | rfl | rfl | rfl | rfl | rfl | rfl | rfl | rfl | rfl | rfl | rfl | rfl | rfl
  all_goals (simp only [yC,yD,yP] at ho;subst ho;simp only [zJ,yC,yD,yN,Option.bind,Act.put,yE,yK,yF] at hK ⊢;clear hi)
  ·go_wp2_with fail
   exact hK _ _ (yB _ _) rfl
  ·exact J115 _
  ·exact J120 _
  ·exact J118 _
  ·have e3:vs 3=_:=hd 3 (by kernel_rfl)
   rw [e3] at hK ⊢;clear hd;go_wp2_with (go_at_call 32;refine (HC0.out _ HR).mono ?_;rintro e W1 ⟨ad,cap,rfl,g1,g2,g3⟩)
   exact hK _ _ g2 ⟨ad,cap,rfl,g1,fun kb e=>yU hB (g3 kb e)⟩
  ·obtain ⟨ad,cap,e4,h1,h2⟩:=(hd 4 (by kernel_rfl):∃ ad cap,vs 4=.slice ad xs.length cap /\ W.ownsRow 0 3 1 (vs 4) xs.length (ints xs) /\ ∀ kb,(vs 4).ownBlock=some kb -> w.heap.size+1 <= kb)
   rw [e4] at hK h1 h2 ⊢;clear hd;go_wp2_with (go_at_call 63;refine (zGQ _ ad _ cap xs h1).mono ?_;rintro e W1 ⟨rfl,rfl⟩)
   exact hK _ _ (yB _ _) ⟨ad,rfl,zAO.clip h1 h2⟩
  ·go_wp2_with fail
   exact hK _ _ (yB _ _) rfl
  ·exact J141 _
  ·exact J129 _
  ·exact J128 _
  ·have e9:vs 9=_:=hd 9 (by kernel_rfl)
   rw [e9] at hK ⊢;clear hd;go_wp2_with (go_at_call 32;refine (HC1.out _ HR).mono ?_;rintro e W1 ⟨ad,cap,rfl,g1,g2,g3⟩)
   exact hK _ _ g2 ⟨ad,cap,rfl,g1,fun kb e=>yU hB (g3 kb e)⟩
  ·obtain ⟨ad,cap,e10,h1,h2⟩:=(hd 10 (by kernel_rfl):∃ ad cap,vs 10=.slice ad ys.length cap /\ W.ownsRow 0 3 1 (vs 10) ys.length (ints ys) /\ ∀ kb,(vs 10).ownBlock=some kb -> w.heap.size+1 <= kb)
   rw [e10] at hK h1 h2 ⊢;clear hd;go_wp2_with (go_at_call 63;refine (zGQ _ ad _ cap ys h1).mono ?_;rintro e W1 ⟨rfl,rfl⟩)
   exact hK _ _ (yB _ _) ⟨ad,rfl,zAO.clip h1 h2⟩
  ·obtain ⟨a1,e5,h1⟩:=(hd 5 (by kernel_rfl):∃ ad,vs 5=.slice ad xs.length xs.length /\ zAO W (w.heap.size+1) (vs 5) xs.length (ints xs))
   obtain ⟨a2,e11,h2⟩:=(hd 11 (by kernel_rfl):∃ ad,vs 11=.slice ad ys.length ys.length /\ zAO W (w.heap.size+1) (vs 11) ys.length (ints ys));rw [e5] at h1;rw [e11] at h2;rw [e5,e11] at hK ⊢;clear hd;go_wp2_with fail
   exact hK _ _ (yB _ _) ⟨a1,a2,rfl,h1,h2⟩
  ·clear hd
   go_wp2_with fail
   exact hK _ _ ((yB _ _).alloc _) ⟨_,rfl,hB,yM (yG W _)⟩
 ·intro vs W hR hF
  have HR:Keeps zA w W:=(((yB zA w).alloc _).drew).zB hR;obtain ⟨a1,a2,e12,h1,h2⟩:=(hF 12 (by decide):∃ a1 a2,vs 12=.agg #[.slice a1 xs.length xs.length, .slice a2 ys.length ys.length, .slice none 0 0, .slice none 0 0] /\ zAO W (w.heap.size+1) (.slice a1 xs.length xs.length) xs.length (ints xs) /\ zAO W (w.heap.size+1) (.slice a2 ys.length ys.length) ys.length (ints ys));obtain ⟨z,e13,h3,h4⟩:=(hF 13 (by decide):∃ z,vs 13=.pointer (some ⟨z,0,none⟩) /\ w.heap.size+1 <= z /\ zC W z [zBx,zBx,zBx,zBx]);simp only [zJ,yC,yD,yN,Option.bind,Act.put,yE,yK,yF,yT,yQ];rw [e12,e13];clear hF;generalize vs 0=u0;generalize vs 1=u1;generalize vs 2=u2;generalize vs 3=u3;generalize vs 4=u4;generalize vs 5=u5;generalize vs 6=u6;generalize vs 7=u7;generalize vs 8=u8;generalize vs 9=u9;generalize vs 10=u10;generalize vs 11=u11;clear e12 e13;have H1:=yA h1;have H2:=yA h2;have H4:=yA h4;have HRR:=yA HR;have HRR2:=yA hR;have z0:=h4.cell (k:=0) (v:=zBx) rfl;have z1:=h4.cell (k:=1) (v:=zBx) rfl;have z2:=h4.cell (k:=2) (v:=zBx) rfl;have z3:=h4.cell (k:=3) (v:=zBx) rfl;have f0:=h4.free (k:=0) (by decide);have f1:=h4.free (k:=1) (by decide);have f2:=h4.free (k:=2) (by decide);have f3:=h4.free (k:=3) (by decide);have H3:=yA h3;clear h1 h2 h3 h4 HR hR;go_upto_region 2 with fail
  have hrow:zC (((((W.setCell ⟨z,0,none⟩ (.slice a1 xs.length xs.length)).setCell ⟨z,1,none⟩ (.slice a2 ys.length ys.length)).setCell ⟨z,2,none⟩ (.slice none 0 0)).setCell ⟨z,3,none⟩ (.slice none 0 0))) z [.slice a1 xs.length xs.length, .slice a2 ys.length ys.length,zBx,zBx]:=(((H4.out.set 0 (by simp) _).set 1 (by simp) _).set 2 (by simp) _).set 3 (by simp) _
  have hks:Keeps (fun q=>q=z) W (((((W.setCell ⟨z,0,none⟩ (.slice a1 xs.length xs.length)).setCell ⟨z,1,none⟩ (.slice a2 ys.length ys.length)).setCell ⟨z,2,none⟩ (.slice none 0 0)).setCell ⟨z,3,none⟩ (.slice none 0 0))) :=
   ((((yB (fun q=>q=z) W).setCell (p:=⟨z,0,none⟩) (fun _=>rfl) _).setCell (p:=⟨z,1,none⟩) (fun _=>rfl) _).setCell (p:=⟨z,2,none⟩) (fun _=>rfl) _).setCell (p:=⟨z,3,none⟩) (fun _=>rfl) _
  generalize ((((W.setCell ⟨z,0,none⟩ (.slice a1 xs.length xs.length)).setCell ⟨z,1,none⟩ (.slice a2 ys.length ys.length)).setCell ⟨z,2,none⟩ (.slice none 0 0)).setCell ⟨z,3,none⟩ (.slice none 0 0))=wS at hrow hks ⊢;have HRW:Hid (zC wS z [.slice a1 xs.length xs.length, .slice a2 ys.length ys.length,zBx,zBx]):=hrow;have HZ0:w.heap.size <= z:=by have:=H3.out;omega
  have HKS:Hid (Keeps zA w wS):=HRR.out.trans hks (fun k hlt e=>absurd hlt (by omega));have HF1:Hid (zAO wS (w.heap.size+1) (.slice a1 xs.length xs.length) xs.length (ints xs)):=H1.out.zFU hks (fun g hn hr _=>zD7 hr hn H4.out) (by simp [ints]);have HF2:Hid (zAO wS (w.heap.size+1) (.slice a2 ys.length ys.length) ys.length (ints ys)):=H2.out.zFU hks (fun g hn hr _=>zD7 hr hn H4.out) (by simp [ints]);have HY0:Hid (zC wS w.heap.size [zBx,zBx,zBx,zBx]):=((yM (yG w _)).drewN 1 |>.keeps HRR2.out (fun h=>h)).keeps hks (fun e=>by have e':w.heap.size=z:=e;have:=H3.out;omega);have k3':=HKS.out.cell (p:=⟨b,5,none⟩) (fun h=>h) k3;clear k0 k1 k3 hrow hks z0 z1 z2 z3 f0 f1 f2 f3 H1 H2 H4 HRR HRR2 HC0 HC1;obtain ⟨i0,hi0,hz0,hz1,hz2⟩:=info_parts zBs;obtain ⟨j0,hj0,hy0,hy1,hy2⟩:=info_parts zKm;obtain ⟨n,hn⟩:∃ n,n=m.zL.length:=⟨_,rfl⟩
  have hn8:n <= 8:=by rw [hn];exact HUU.out.2
  have HN:Hid (n=m.zL.length):=hn;obtain ⟨c1,hc1⟩:∃ c,c=Value.slice a1 xs.length xs.length:=⟨_,rfl⟩
  obtain ⟨c2,hc2⟩:∃ c,c=Value.slice a2 ys.length ys.length:=⟨_,rfl⟩
  obtain ⟨B2,hB2⟩:∃ B,B=wS.heap.size:=⟨_,rfl⟩
  have HB2:Hid (B2=wS.heap.size):=hB2;have HAP:Hid (∀ g (l:List Int),zC wS g (ints l) -> l.length ≠ 0 -> g ≠ z):=fun g l hr hn=>zD7 hr hn HRW.out
  have HCE1:Hid (c1=Value.slice a1 xs.length xs.length):=hc1;have HCE2:Hid (c2=Value.slice a2 ys.length ys.length):=hc2;rw [<- hc1] at HRW HF1;rw [<- hc2] at HRW HF2;rw [<- hn] at k3';clear hn hc1 hc2 hB2;go_wp2_with fail
  go_loopw [24] (fun kv wr=>∃ k a3 q3 a4 q4,k <= n /\ kv=.int .i64 (k:Nat) /\ Hid (StL w wS m z B2 c1 c2 k (.slice a3 k q3) (.slice a4 k q4) wr)) (fun kv _=>n - (intOf kv).toNat)
  case atStart=>exact ⟨0,none,0,none,0,yH _,rfl,⟨HRW.out,xB _ _ _ _,xB _ _ _ _,fun kb e=>by exact J153 _,fun kb e=>by exact J153 _,fun kb e=>by exact J153 _,yB _ _⟩⟩
  case round =>
   obtain ⟨k,a3,q3,a4,q4,hk,rfl,hS⟩:=hrel;by_cases hlt:k < n
   ·have HKR:Hid (Keeps zA w wr):=HKS.out.trans hS.out.keep (fun q hq e=>by exact J193 _)
    have HVr:=yA (HMA.out wr HKR.out);have hkf:k < m.zL.length:=by rw [<- HN.out];exact hlt
    have hf:m.zL[k]?=some m.zL[k]:=yJ hkf;obtain ⟨f,ef⟩:∃ f,f=m.zL[k]:=⟨_,rfl⟩
    rw [<- ef] at hf;clear ef;have HF:=yA hf;have HNX:=yA (zJ0 hf)
    obtain ⟨ra,rn,rc,pa,pn,pc,t0,t1,t2⟩:∃ ra rn rc pa pn pc,wr.cell? ⟨gf,k*3,none⟩=some (.int .i64 f.st) /\ wr.cell? ⟨gf,k*3+1,none⟩=some (.slice ra rn rc) /\ wr.cell? ⟨gf,k*3+2,none⟩=some (.slice pa pn pc):=by
     obtain ⟨rv,fv,hH,⟨ra,rc,e1,_⟩,⟨_,_,_,_,⟨pa,pc,e2⟩,_⟩⟩:=HVr.out.zL.get hf;rw [HGF.out];have:=zAF HVr.out.zL.row hH
     rw [e1,e2] at this;exact ⟨ra,_,rc,pa,_,pc,this⟩
    have HA:Hid (∀ W,Keeps zA w W -> Calls Tryz.prog 48 #[.pointer (some ⟨b,0,none⟩), .int .i64 k] W fun e w'=>e=.returned (.agg #[.int .i64 (zAa m k).1, .int .i64 (zAa m k).2]) /\ Keeps zA W w'):=fun W hk=>zEB (HMA.out W hk) HG.out hkf
    clear hf hkf;have i1:(0:Int) <= k:=by omega
    have i2:(k:Int) < n:=by omega
    have zr2:=hS.out.row.cell (k:=2) (v:=.slice a3 k q3) rfl;have zf2:=hS.out.row.free (k:=2) (by simp);have lz:z < wr.heap.size:=hS.out.row.lt (by simp);have lg:gf < wr.heap.size:=xP wr _ t0;have nz:z ≠ wr.heap.size:=by omega
    have ng:gf ≠ wr.heap.size:=by omega
    have LZ:Hid (z < B2):=by have:=HRW.out.lt (by simp);rw [HB2.out];exact this
    clear k3' hk;go_upto_region 6 with (at_builtin;refine zH _ (by rfl) _ _ 22 (by rfl) 0 3 i0 _ 1 8 xO hi0 hz0 hz1 hz2 rfl (by decide) (.slice a3 k q3) k (ints (zEe m k)) (by rfl) (zF hS.out.own3 (S:=zA) (((yB _ _).alloc _).alloc _) (fun _ _ h=>h)) (.slice (some ⟨wr.heap.size+1,0,none⟩) 1 1) 1 [.int .i64 f.st] (by rfl) (xN (yM (zf _ _ _))) rfl (by simp [Value.oneCell']) (by unfold maxLen;omega) (by omega) (yH _) ?_;intro a3' q3' w6 hout;have HO:=yA hout;have HK6:Hid (Keeps (fun q=>(Value.slice a3 k q3).ownBlock=some q) wr w6):=hout.keeps (((yB _ _).alloc _).alloc _) (fun q e _=>e);have HR6:Hid (zC w6 z [c1,c2, .slice a3 k q3, .slice a4 k q4]):=hS.out.row.keeps HK6.out (fun e=>by have h1:=hS.out.new3 z e;have h2:=LZ.out;omega);have zr6:=HR6.out.cell (k:=2) (v:=.slice a3 k q3) rfl;have zf6:=HR6.out.free (k:=2) (by simp);clear hout)
    have hm1:zC (w6.setCell ⟨z,2,none⟩ (.slice a3' (k+1) q3')) z [c1,c2, .slice a3' (k+1) q3', .slice a4 k q4]:=HR6.out.set 2 (by simp) _
    have hnz3:∀ kb,(Value.slice a3' (k+1) q3').ownBlock=some kb -> B2 <= kb:=fun kb e=>by
     rcases HO.out.2.2 kb e with h1 | h1
     ·exact hS.out.new3 kb h1
     ·have h2:=hS.out.keep.size;have h3:=HB2.out;rw [h1];simp;omega
    have hK7:Keeps (fun q=>q=z \/ B2 <= q) wS (w6.setCell ⟨z,2,none⟩ (.slice a3' (k+1) q3')):=(hS.out.keep.trans HK6.out (fun q _ e=>.inr (hS.out.new3 q e))).setCell (p:=⟨z,2,none⟩) (fun _=>.inl rfl) _
    have hm2:(w6.setCell ⟨z,2,none⟩ (.slice a3' (k+1) q3')).ownsRow 0 3 1 (.slice a3' (k+1) q3') (k+1) (ints (zEe m (k+1))):=by
     rw [HNX.out];exact zF HO.out.1 (Keeps.setCell (S:=fun q=>q=z) (p:=⟨z,2,none⟩) (yB _ _) (fun _=>rfl) _) (fun q e e'=>by have h1:=hnz3 q e;have h2:=LZ.out;have e'':q=z:=e';omega)
    have hm3:(w6.setCell ⟨z,2,none⟩ (.slice a3' (k+1) q3')).ownsRow 0 91 2 (.slice a4 k q4) k (zDz m k):=by
     refine zF (zF hS.out.own4 HK6.out (fun q e e'=>hS.out.ne q e' e)) (Keeps.setCell (S:=fun q=>q=z) (p:=⟨z,2,none⟩) (yB _ _) (fun _=>rfl) _) (fun q e e'=>by have h1:=hS.out.new4 q e;have h2:=LZ.out;have e'':q=z:=e';omega)
    have hne:∀ kb,(Value.slice a3' (k+1) q3').ownBlock=some kb -> (Value.slice a4 k q4).ownBlock ≠ some kb:=fun kb e e'=>by
     rcases HO.out.2.2 kb e with h1 | h1
     ·exact hS.out.ne kb h1 e'
     ·have h2:=zM hS.out.own4 e'
      simp at h1
      have h3:wr.heap.size <= wr.heap.size:=yV _;omega
    generalize w6.setCell ⟨z,2,none⟩ (.slice a3' (k+1) q3')=w7 at hm1 hm2 hm3 hK7 ⊢;have HM1:=yA hm1;have HM2:=yA hm2;have HM3:=yA hm3;have HNZ3:=yA hnz3;have HNE:=yA hne;have HK7:=yA hK7;have HK7':Hid (Keeps zA w w7):=HKS.out.trans HK7.out (fun q hq e=>by exact J193 _);obtain ⟨p,hp⟩:∃ p,p=zAa m k:=⟨_,rfl⟩
    have HP:Hid (zDz m (k+1)=zDz m k++zBe p):=by rw [hp];exact zIJ m k
    rw [<- hp] at HA;clear hm1 hm2 hm3 hnz3 hne hK7 hp t0 t1 t2 zr2 zf2 lz lg nz ng zr6 zf6 HR6 HO HK6 HNX HF HVr;refine zP 6 (by kernel_rfl) (by kernel_rfl) (Keeps zA) (yB zA) (fun a b c h h'=>xD h h') (zKF b z k (.slice a4 k q4) p) zKF.st ?_ ?_
    ·intro i o hi ho vs W Q' hR hd hK
     have HR:Keeps zA w7 W:=((yB zA w7).drew).zB hR;have z3:=(HM1.out.keeps HR (fun h=>h)).cell (k:=3) (v:=.slice a4 k q4) rfl;rcases (show i=0 \/ i=1 \/ i=2 \/ i=3 \/ i=4 \/ i=5 by omega) with rfl | rfl | rfl | rfl | rfl | rfl
     all_goals (simp only [yC,yD,yP] at ho;subst ho;simp only [zJ,yC,yD,yN,Option.bind,Act.put,yE,yK,yF] at hK ⊢;clear hi)
     ·exact J3 _
     ·exact J115 _
     ·exact J3 _
     ·exact J3 _
     ·have e2:vs 2=_:=hd 2 (by kernel_rfl)
      have e3:vs 3=_:=hd 3 (by kernel_rfl);rw [e2,e3] at hK ⊢;clear hd;go_wp2_with (go_at_call 48;refine (HA.out _ (HK7'.out.zB HR)).mono ?_;rintro e W1 ⟨rfl,g1⟩)
      exact hK _ _ g1 rfl
     ·have e4:vs 4=_:=hd 4 (by kernel_rfl)
      rw [e4] at hK ⊢;exact J41 _
    ·intro vs W hR hF
     have HR:Keeps zA w7 W:=((yB zA w7).drew).zB hR;have e1:vs 1=_:=hF 1 (by decide);obtain ⟨g,e5,h5⟩:=(hF 5 (by decide):∃ g,vs 5=.slice (some ⟨g,0,none⟩) 1 1 /\ zC W g (zBe p));simp only [zJ,yC,yD,yN,Option.bind,Act.put,yE,yK,yF,yT,yQ];rw [e1,e5];clear hF e1 e5;generalize vs 0=y0;generalize vs 2=y2;generalize vs 3=y3;generalize vs 4=y4;have H5:=yA h5;have HRK:=yA HR;have hl8:k+1 <= 8:=by omega
     clear h5 HR hR HA;go_wp2_with (at_builtin;refine zH _ (by rfl) _ _ 49 (by rfl) 0 91 j0 _ 2 16 Tryz.underlying49 hj0 hy0 hy1 hy2 rfl (by decide) (.slice a4 k q4) k (zDz m k) (by rfl) (zF HM3.out HRK.out (fun _ _ h=>h)) (.slice (some ⟨g,0,none⟩) 1 1) 1 (zBe p) (by rfl) (xN H5.out) rfl (by simp [zBe,Value.oneCell']) (by unfold maxLen;omega) (by omega) (yH _) ?_;intro a4' q4' w8 hout;have HO:=yA hout;have HK8:Hid (Keeps (fun q=>(Value.slice a4 k q4).ownBlock=some q) w7 w8):=hout.keeps (HRK.out.mono (fun _ _ h=>h.elim)) (fun q e _=>e);have HR8:Hid (zC w8 z [c1,c2, .slice a3' (k+1) q3', .slice a4 k q4]):=HM1.out.keeps HK8.out (fun e=>by have h1:=hS.out.new4 z e;have h2:=LZ.out;omega);have zr8:=HR8.out.cell (k:=3) (v:=.slice a4 k q4) rfl;have zf8:=HR8.out.free (k:=3) (by simp);clear hout)
     refine ⟨⟨k+1,a3',q3',a4',q4',by omega,by go_num,?_⟩,by simp [intOf];omega⟩
     have hB:B2 <= W.heap.size:=by have h1:=HK7.out.size;have h2:=HRK.out.size;have h3:=HB2.out;omega
     have hn4:∀ kb,(Value.slice a4' (k+1) q4').ownBlock=some kb -> B2 <= kb:=fun kb e=>by
      rcases HO.out.2.2 kb e with h1 | h1
      ·exact hS.out.new4 kb h1
      ·omega
     have hzz:∀ (v:Value) (q:Nat),(∀ kb,v.ownBlock=some kb -> B2 <= kb) -> v.ownBlock=some q -> ¬ (q=z):=fun v q h e e'=>by have h1:=h q e;have h2:=LZ.out;omega
     refine ⟨HR8.out.set 3 (by simp) _,?_,?_,HNZ3.out,hn4,fun kb e e'=>?_,(HK7.out.trans HK8.out (fun q _ e=>.inr (hS.out.new4 q e))).setCell (p:=⟨z,3,none⟩) (fun _=>.inl rfl) _⟩
     ·exact zF (zF HM2.out HK8.out (fun q e e'=>HNE.out q e e')) (Keeps.setCell (S:=fun q=>q=z) (p:=⟨z,3,none⟩) (yB _ _) (fun _=>rfl) _) (fun q e=>hzz _ q HNZ3.out e)
     ·rw [HP.out]
      exact zF HO.out.1 (Keeps.setCell (S:=fun q=>q=z) (p:=⟨z,3,none⟩) (yB _ _) (fun _=>rfl) _) (fun q e=>hzz _ q hn4 e)
     ·rcases HO.out.2.2 kb e' with h1 | h1
      ·exact HNE.out kb e h1
      ·have h2:=zM HM2.out e
       have h3:=HRK.out.size;omega
   ·have hkn:k=n:=by omega
    subst hkn;clear hlt k3';have hK:Keeps zA w wr:=HKS.out.trans hS.out.keep (fun q hq e=>by exact J193 _);have HK:=yA hK;have hY:zC wr w.heap.size [zBx,zBx,zBx,zBx]:=HY0.out.keeps hS.out.keep (fun e=>by have h1:=HY0.out.lt (by simp);have h2:=HB2.out;have h3:=H3.out;rcases e with e | e <;> omega);have HY1:=yA hY;have y0:=hY.cell (k:=0) (v:=zBx) rfl;have y1:=hY.cell (k:=1) (v:=zBx) rfl;have y2:=hY.cell (k:=2) (v:=zBx) rfl;have y3:=hY.cell (k:=3) (v:=zBx) rfl;have g0:=hY.free (k:=0) (by decide);have g1:=hY.free (k:=1) (by decide);have g2:=hY.free (k:=2) (by decide);have g3:=hY.free (k:=3) (by decide);have hz:=hS.out.row;have x0:=hz.cell (k:=0) (v:=c1) rfl;have x1:=hz.cell (k:=1) (v:=c2) rfl;have x2:=hz.cell (k:=2) (v:=.slice a3 k q3) rfl;have x3:=hz.cell (k:=3) (v:=.slice a4 k q4) rfl;have HFF1:Hid (zAO wr (w.heap.size+1) c1 xs.length (ints xs)):=HF1.out.zFU hS.out.keep (fun g hn hr hlt e=>by have h2:=HB2.out;rcases e with e | e;exact HAP.out g xs hr hn e;omega) (by simp [ints]);have HFF2:Hid (zAO wr (w.heap.size+1) c2 ys.length (ints ys)):=HF2.out.zFU hS.out.keep (fun g hn hr hlt e=>by have h2:=HB2.out;rcases e with e | e;exact HAP.out g ys hr hn e;omega) (by simp [ints]);have hB:w.heap.size+1 <= B2:=by have h1:=HY0.out.lt (by simp);have h2:=HB2.out;omega
    have HFF3:Hid (zAO wr (w.heap.size+1) (.slice a3 k q3) k (ints (zEe m k))):=zAO.of hS.out.own3 (fun kb e=>by have:=hS.out.new3 kb e;omega);have HFF4:Hid (zAO wr (w.heap.size+1) (.slice a4 k q4) k (zDz m k)):=zAO.of hS.out.own4 (fun kb e=>by have:=hS.out.new4 kb e;omega);rw [HCE1.out] at x0 HFF1;rw [HCE2.out] at x1 HFF2;clear hY hK hz hB HF1 HF2 hS;go_wp2_with fail
    have hrow:zC ((((wr.setCell ⟨w.heap.size,0,none⟩ (.slice a1 xs.length xs.length)).setCell ⟨w.heap.size,1,none⟩ (.slice a2 ys.length ys.length)).setCell ⟨w.heap.size,2,none⟩ (.slice a3 k q3)).setCell ⟨w.heap.size,3,none⟩ (.slice a4 k q4)) w.heap.size [.slice a1 xs.length xs.length, .slice a2 ys.length ys.length, .slice a3 k q3, .slice a4 k q4]:=(((HY1.out.set 0 (by simp) _).set 1 (by simp) _).set 2 (by simp) _).set 3 (by simp) _
    have hks:Keeps (fun q=>q=w.heap.size) wr ((((wr.setCell ⟨w.heap.size,0,none⟩ (.slice a1 xs.length xs.length)).setCell ⟨w.heap.size,1,none⟩ (.slice a2 ys.length ys.length)).setCell ⟨w.heap.size,2,none⟩ (.slice a3 k q3)).setCell ⟨w.heap.size,3,none⟩ (.slice a4 k q4)) :=
     ((((yB (fun q=>q=w.heap.size) wr).setCell (p:=⟨w.heap.size,0,none⟩) (fun _=>rfl) _).setCell (p:=⟨w.heap.size,1,none⟩) (fun _=>rfl) _).setCell (p:=⟨w.heap.size,2,none⟩) (fun _=>rfl) _).setCell (p:=⟨w.heap.size,3,none⟩) (fun _=>rfl) _
    generalize (((wr.setCell ⟨w.heap.size,0,none⟩ (.slice a1 xs.length xs.length)).setCell ⟨w.heap.size,1,none⟩ (.slice a2 ys.length ys.length)).setCell ⟨w.heap.size,2,none⟩ (.slice a3 k q3)).setCell ⟨w.heap.size,3,none⟩ (.slice a4 k q4)=wE at hrow hks ⊢;have hfr:∀ (v:Value) (n:Nat) (cs:List Value),zAO wr (w.heap.size+1) v n cs -> zAO wE w.heap.size v n cs:=fun v n cs h=>(h.keeps hks (fun q hq e=>by have e':q=w.heap.size:=e;omega)).mono (Nat.le_succ _)
    refine xM (v:=.agg #[.slice a1 xs.length xs.length, .slice a2 ys.length ys.length, .slice a3 k q3, .slice a4 k q4]) (by simp [results,Tryz.results27,go_sem,hrow.cell (k:=0) rfl,hrow.cell (k:=1) rfl,hrow.cell (k:=2) rfl,hrow.cell (k:=3) rfl]) rfl ?_
    have e1:=HX.out;have e2:=HY.out;have e3:=HN.out;subst e1 e2;rw [e3] at HFF3 HFF4 ⊢;exact ⟨a1,a2,_,_,rfl,HK.out.trans hks (fun q hq e=>by have e':q=w.heap.size:=e;omega),hfr _ _ _ HFF1.out,hfr _ _ _ HFF2.out,hfr _ _ _ HFF3.out,hfr _ _ _ HFF4.out⟩
end Go.Proofs.YtfokdllgnblamaaGreatDoor
