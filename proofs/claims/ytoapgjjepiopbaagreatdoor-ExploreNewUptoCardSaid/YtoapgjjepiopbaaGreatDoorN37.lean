/- Layer N: texts joined. -/
import Derived.Test.YtoapgjjepiopbaaGreatDoorN34
import Derived.Test.YtoapgjjepiopbaaGreatDoorN36
set_option linter.all false
set_option maxHeartbeats 4000000
set_option maxRecDepth 8000
namespace Go.Proofs.YtoapgjjepiopbaaGreatDoor
open Go.RowKit
theorem zJi {u:Un} (h:zu u=true):u.threads.length <= 8:=by
 rcases Nat.lt_or_ge 8 u.threads.length with h1 | h1
 ·rw [zET (fun hh=>by have:=hh.2.1;omega)] at h;cases h
 ·exact h1
theorem zIX (a b:Option Addr) (l1 c1 l2 c2:Nat) (w:World):(Instr.field 53 (.agg #[.slice a l1 c1, .slice b l2 c2]) 0).run Tryz.prog w=.ok (.slice a l1 c1) w:=by
 simp [Instr.field,asAgg,go_sem,underlying,Tryz.underlying53]
theorem zIG (a b:Option Addr) (l1 c1 l2 c2:Nat) (w:World):(Instr.field 53 (.agg #[.slice a l1 c1, .slice b l2 c2]) 1).run Tryz.prog w=.ok (.slice b l2 c2) w:=by
 simp [Instr.field,asAgg,go_sem,underlying,Tryz.underlying53]
theorem zEv (cs:List Int) (mu:Int) (bs:List Bd) (w:World) (F:Nat -> Prop) (uca uta:Option Addr) (ucc utc:Nat) (hcs:zAn w F cs uca) (hbd:zBa w F bs uta) (hF:∀ k,F k -> k < w.heap.size) (hkd:∀ b,b ∈ bs -> Ac.zBD b.acts) (hsz:zAb bs < 900000000) (hl1:cs.length < 1000000000) (hl2:bs.length < 1000000000) :
 Calls Tryz.prog 6 #[.agg #[.slice uca cs.length ucc, .int .i64 mu, .slice uta bs.length utc]] w fun e w'=>e=.returned (.int .i64 (zCI (zu ⟨cs,mu,bs⟩) (unS bs) (unW bs))) /\ Keeps zA w w':=by
 obtain ⟨v,hv⟩:=eX (zCI (zu ⟨cs,mu,bs⟩) (unS bs) (unW bs));rw [<- hv];obtain ⟨r,hr⟩:=eX (zu ⟨cs,mu,bs⟩);have HR:=Lib.hid hr;rw [<- hr] at hv;have HV:=Lib.hid hv;clear hv;have HRT:Hid (∀ W,Keeps zA w W -> Calls Tryz.prog 16 #[.agg #[.slice uca cs.length ucc, .int .i64 mu, .slice uta bs.length utc]] W fun e w'=>e=.returned (.bool r) /\ Keeps zA W w'):=fun W hk=>hr ▸ zDE cs mu bs W F uca uta ucc utc (hcs.keeps hk (fun _ _ h=>h)) (hbd.keeps hk (fun _ _ h=>h)) (fun k h=>Nat.lt_of_lt_of_le (hF k h) hk.size) hkd hsz hl1 hl2
 have HBO:Hid (r=true -> ∀ W,Keeps zA w W -> Calls Tryz.prog 17 #[.agg #[.slice uca cs.length ucc, .int .i64 mu, .slice uta bs.length utc]] W fun e w'=>∃ z1 z2,e=.returned (.agg #[z1,z2]) /\ zO w' (fun _=>True) 1000000000 (unS bs) z1 /\ zO w' (fun _=>True) 1000000000 (unW bs) z2 /\ Keeps zA W w'):=fun hr1 W hk=>zJD cs mu bs W F uca uta ucc utc (hbd.keeps hk (fun _ _ h=>h)) (fun k h=>Nat.lt_of_lt_of_le (hF k h) hk.size) (zCr (u:=⟨cs,mu,bs⟩) (hr.symm.trans hr1)) hsz hl2
 have HDL:Hid (r=true -> ∀ m,m <= unW bs+1 -> (zw 1000000000 m).length <= 10000000000):=fun hr1 m hm=>Nat.le_trans (zK0 (by decide) (zCr (u:=⟨cs,mu,bs⟩) (hr.symm.trans hr1)) hsz (zJi (u:=⟨cs,mu,bs⟩) (hr.symm.trans hr1)) hm) (by decide)
 have HSW:Hid (unS bs <= unW bs):=zFS bs;clear hcs hbd hF hsz hl1 hl2 hr hkd;go_enter Tryz.func6,Tryz.ntmps6
 go_upto_region 1 with fail
 obtain ⟨b1,hb1⟩:=eX w.heap.size;have hr1:zC (w.alloc (.cells #[.slice uca cs.length ucc, .int .i64 mu, .slice uta bs.length utc] 25)) b1 [.slice uca cs.length ucc, .int .i64 mu, .slice uta bs.length utc]:=J150 _;have hk1:Keeps zA w (w.alloc (.cells #[.slice uca cs.length ucc, .int .i64 mu, .slice uta bs.length utc] 25)):=(Keeps.refl _ _).alloc _;rw [<- hb1];generalize w.alloc (.cells #[.slice uca cs.length ucc, .int .i64 mu, .slice uta bs.length utc] 25)=w1 at hr1 hk1 ⊢;have R1:=Lib.hid hr1;have K1:=Lib.hid hk1;obtain ⟨y0,y1,y2⟩:=hr1.three;clear hr1 hk1 hb1;generalize cs.length=n0 at y0 R1 HRT HBO;generalize bs.length=n2 at y2 R1 HRT HBO;clear HR;cases r
 ·go_wp2_with (go_at_call 16;refine (HRT.out _ K1.out).mono ?_;rintro e w2 ⟨rfl,g2⟩;have c:=(R1.out.keeps g2 (fun h=>h)).three;clear y0 y1 y2;obtain ⟨y0,y1,y2⟩:=c;have K2:Hid (Keeps zA w w2):=K1.out.zB g2;clear g2)
  go_ret
  exact ⟨by rw [HV.out];rfl,K2.out⟩
 ·have HBO2:=Lib.hid (HBO.out rfl)
  have HDL2:=Lib.hid (HDL.out rfl);clear HBO HDL;go_upto_region 3 with (go_at_call 16;refine (HRT.out _ K1.out).mono ?_;rintro e w2 ⟨rfl,g2⟩;have c:=(R1.out.keeps g2 (fun h=>h)).three;clear y0 y1 y2;obtain ⟨y0,y1,y2⟩:=c;have K2:Hid (Keeps zA w w2):=K1.out.zB g2;clear g2)
  obtain ⟨a,ha⟩:=eX (decide (60 < unS bs));obtain ⟨b,hb⟩:=eX (decide (10000 < unW bs))
  have HVV:Hid (v=if a then 70 else (if b then 71 else 0)):=by
   show _=_
   rw [HV.out,ha,hb];unfold zCI;by_cases h1:60 < unS bs
   ·simp [h1]
   ·by_cases h2:10000 < unW bs
    ·simp [h1,h2]
    ·simp [h1,h2]
  have HAB:=Lib.hid (fun (W:World) (k:Nat) (v u:Value) (F:Nat -> Prop) (hk:k <= unW bs) (h1:zO W F 1000000000 k v) (h2:zO W F 1000000000 60 u)=>zKs h1 h2 (by have:=HDL2.out k (by omega);omega) (by have h:=zCg (b:=1000000000) (n:=60) (i:=1) (by decide) (by decide);omega));have HAC:=Lib.hid (fun (W:World) (k:Nat) (v u:Value) (F:Nat -> Prop) (hk:k <= unW bs) (h1:zO W F 1000000000 k v) (h2:zO W F 1000000000 10000 u)=>zKs h1 h2 (by have:=HDL2.out k (by omega);omega) (by have h:=zCg (b:=1000000000) (n:=10000) (i:=1) (by decide) (by decide);omega));have HA:=Lib.hid ha;have HB:=Lib.hid hb;clear ha hb HV HDL2;go_upto_region 4 with (go_at_call 17;refine (HBO2.out _ K2.out).mono ?_;rintro e w3 ⟨z1,z2,rfl,n1,n2,g3⟩;have N1:=Lib.hid n1;have N2:=Lib.hid n2;obtain ⟨p1,r1,rfl,_⟩:=n1;generalize (zw 1000000000 (unS bs)).length=q1 at N1 ⊢;obtain ⟨p2,r2,rfl,_⟩:=n2;generalize (zw 1000000000 (unW bs)).length=q2 at N2 ⊢;have K3:Hid (Keeps zA w w3):=K2.out.zB g3;have hfl:=zIX p1 p2 q1 r1 q2 r2 w3;have hfm:=zIG p1 p2 q1 r1 q2 r2 w3;clear g3)
  obtain ⟨b3,hb3⟩:=eX w3.heap.size;have hr3:zC (w3.alloc (.cells #[.slice p1 q1 r1, .slice p2 q2 r2] 53)) b3 [.slice p1 q1 r1, .slice p2 q2 r2]:=by rw [hb3];exact zC.zG (heap_alloc_new w3 _)
  have hk3:Keeps zA w3 (w3.alloc (.cells #[.slice p1 q1 r1, .slice p2 q2 r2] 53)):=(Keeps.refl _ _).alloc _;rw [<- hb3];generalize w3.alloc (.cells #[.slice p1 q1 r1, .slice p2 q2 r2] 53)=w4 at hr3 hk3 ⊢;have R3:=Lib.hid hr3;have K4:Hid (Keeps zA w w4):=K3.out.zB hk3;have N14:=Lib.hid (N1.out.zD hk3);have N24:=Lib.hid (N2.out.zD hk3);clear hr3 hk3 hb3 N1 N2 K3 y0 y1 y2 HRT HBO2
  refine ze 4 (by kernel_rfl) (by kernel_rfl) (Keeps zA) (Keeps.refl zA) (fun a b c h h'=>Keeps.zB h h') (zA3 [some (.pointer (some ⟨b3,0,none⟩)),some (.slice p1 q1 r1)] (fun j v W=>match j with
   | 2=>zO W (fun _=>True) 1000000000 60 v
   | _=>v=.bool (decide (60 < unS bs)))) (zA3.st (fun j v W W' h hk=>by
     revert h
     split
     ·exact fun h=>h.zD hk
     ·exact fun h=>h)) ?_ ?_
  ·intro q oo hq ho vs W Q' hR0 hd hK
   have hR:Keeps zA w4 W:=((Keeps.refl zA w4).drew).zB hR0;obtain ⟨y0,y1⟩:=(R3.out.keeps (hR) (fun h=>h)).two;have NW:=Lib.hid (N14.out.zD hR);clear hR hR0;rcases (show q=0 \/ q=1 \/ q=2 \/ q=3 by omega) with rfl | rfl | rfl | rfl
   all_goals (simp only [List.getElem?_cons_zero,List.getElem?_cons_succ,Option.some.injEq] at ho;subst ho;simp only [zJ,List.getElem?_cons_zero,List.getElem?_cons_succ,Option.bind_some,Option.bind,Act.put,List.setIfInBounds_toArray,List.set_cons_zero,List.set_cons_succ] at hK ⊢;clear hq)
   ·exact J3 _
   ·exact J117 _
   ·clear hd
    go_wp2_with (go_at_call 19;refine (zEW 60 (by decide) _).mono ?_;rintro e W1 ⟨z,rfl,n1,g1⟩)
    exact J41 _
   ·have e1:vs 1=_:=hd 1 (by kernel_rfl)
    obtain ⟨z2,e2,h2⟩:∃ z,vs 2=z /\ zO W (fun _=>True) 1000000000 60 z:=⟨_,rfl,hd 2 (by kernel_rfl)⟩
    have H2:=Lib.hid h2;rw [e1,e2] at hK ⊢;clear h2;clear hd;go_wp2_with (go_at_call 18;refine (HAB.out W _ _ _ (fun _=>True) (by have:=HSW.out;omega) NW.out H2.out).mono ?_;rintro e W1 ⟨rfl,rfl⟩)
    exact hK _ _ (Keeps.refl _ _) rfl
  ·intro vs W4 hR0 hF
   have hR:Keeps zA w4 W4:=((Keeps.refl zA w4).drew).zB hR0;have K4':Hid (Keeps zA w W4):=K4.out.zB hR;have e3:vs 3=_:=(hF 3 (by decide):vs 3=.bool (decide (60 < unS bs)));simp only [zJ,List.getElem?_cons_zero,List.getElem?_cons_succ,Option.bind_some,Option.bind,Act.put,List.setIfInBounds_toArray,List.set_cons_zero,List.set_cons_succ,List.drop_succ_cons,List.drop_zero];rw [e3];clear hF e3;generalize vs 0=y0;generalize vs 1=y1;generalize vs 2=y2;rw [<- HA.out];have R34:=Lib.hid (R3.out.keeps hR (fun h=>h));have N25:=Lib.hid (N24.out.zD hR);clear hR hR0 HA N14 N24 HAB R3;cases a
   ·go_upto_region 6 with fail
    refine ze 4 (by kernel_rfl) (by kernel_rfl) (Keeps zA) (Keeps.refl zA) (fun a b c h h'=>Keeps.zB h h') (zA3 [some (.pointer (some ⟨b3,1,none⟩)),some (.slice p2 q2 r2)] (fun j v W=>match j with
     | 2=>zO W (fun _=>True) 1000000000 10000 v
     | _=>v=.bool (decide (10000 < unW bs)))) (zA3.st (fun j v W W' h hk=>by
       revert h
       split
       ·exact fun h=>h.zD hk
       ·exact fun h=>h)) ?_ ?_
    ·intro q oo hq ho vs W Q' hR0 hd hK
     have hR:Keeps zA W4 W:=((Keeps.refl zA W4).drew).zB hR0;obtain ⟨y0,y1⟩:=(R34.out.keeps (hR) (fun h=>h)).two;have NW:=Lib.hid (N25.out.zD hR);clear hR hR0;rcases (show q=0 \/ q=1 \/ q=2 \/ q=3 by omega) with rfl | rfl | rfl | rfl
     all_goals (simp only [List.getElem?_cons_zero,List.getElem?_cons_succ,Option.some.injEq] at ho;subst ho;simp only [zJ,List.getElem?_cons_zero,List.getElem?_cons_succ,Option.bind_some,Option.bind,Act.put,List.setIfInBounds_toArray,List.set_cons_zero,List.set_cons_succ] at hK ⊢;clear hq)
     ·exact J3 _
     ·exact J117 _
     ·clear hd
      go_wp2_with (go_at_call 19;refine (zEW 10000 (by decide) _).mono ?_;rintro e W1 ⟨z,rfl,n1,g1⟩)
      exact J41 _
     ·have e1:vs 1=_:=hd 1 (by kernel_rfl)
      obtain ⟨z2,e2,h2⟩:∃ z,vs 2=z /\ zO W (fun _=>True) 1000000000 10000 z:=⟨_,rfl,hd 2 (by kernel_rfl)⟩
      have H2:=Lib.hid h2;rw [e1,e2] at hK ⊢;clear h2;clear hd;go_wp2_with (go_at_call 18;refine (HAC.out W _ _ _ (fun _=>True) (Nat.le_refl _) NW.out H2.out).mono ?_;rintro e W1 ⟨rfl,rfl⟩)
      exact hK _ _ (Keeps.refl _ _) rfl
    ·intro vs W6 hR0 hF
     have hR:Keeps zA W4 W6:=((Keeps.refl zA W4).drew).zB hR0;have K6':Hid (Keeps zA w W6):=K4'.out.zB hR;have e3:vs 3=_:=(hF 3 (by decide):vs 3=.bool (decide (10000 < unW bs)));simp only [zJ,List.getElem?_cons_zero,List.getElem?_cons_succ,Option.bind_some,Option.bind,Act.put,List.setIfInBounds_toArray,List.set_cons_zero,List.set_cons_succ,List.drop_succ_cons,List.drop_zero];rw [e3];clear hF e3;generalize vs 0=y0;generalize vs 1=y1;generalize vs 2=y2;rw [<- HB.out];clear hR hR0 HB;cases b
     ·go_wp2_with fail
      go_ret
      exact ⟨by rw [HVV.out];rfl,K6'.out⟩
     ·go_wp2_with fail
      go_ret
      exact ⟨by rw [HVV.out];rfl,K6'.out⟩
   ·go_wp2_with fail
    go_ret
    exact ⟨by rw [HVV.out];rfl,K4'.out⟩
def zPF:HTh:=⟨0, .slice none 0 0, .slice none 0 0⟩
theorem zAn.src {w:World} {F:Nat -> Prop} {cs:List Int} {ad:Option Addr} {cap:Nat} (h:zAn w F cs ad):zU w (.slice ad cs.length cap) cs.length (ints cs):=by
 refine ⟨ad,cap,rfl,fun hn=>?_⟩
 obtain ⟨g,o,e,hg,hc⟩:=h 0 (by omega);refine ⟨g,o,e,fun j v hj=>?_⟩
 have hjl:j < cs.length:=by have:=(List.getElem?_eq_some_iff.1 hj).1;rwa [zCX] at this
 obtain ⟨g2,o2,e2,_,hc2⟩:=h j hjl;rw [e] at e2;cases e2;rw [zCd cs j hjl] at hj;cases hj;have:cs.getD j 0=cs[j]:=by simp [List.getD,hjl]
 rw [this];exact hc2
def zNy (w W:World) (n:Nat) (cs:List Int) (v:Value):Prop:=∃ ad cap,v=.slice ad n cap /\ W.ownsRow 0 3 1 (.slice ad n cap) n (ints cs) /\ ∀ g,(Value.slice ad n cap).ownBlock=some g -> w.heap.size <= g
def zNb (w W:World) (n:Nat) (v:Value):Prop:=∃ g,v=.slice (some ⟨g,0,none⟩) n n /\ W.ownsRow 0 132 3 (.slice (some ⟨g,0,none⟩) n n) n (zCt (List.replicate n zPF)) /\ w.heap.size <= g
theorem zNy.keeps {w W W':World} {n:Nat} {cs:List Int} {v:Value} (h:zNy w W n cs v) (hk:Keeps zA W W'):zNy w W' n cs v:=by
 obtain ⟨ad,cap,e,h1,h2⟩:=h;exact ⟨ad,cap,e,zF h1 hk (fun _ _ h=>h),h2⟩
theorem zNb.keeps {w W W':World} {n:Nat} {v:Value} (h:zNb w W n v) (hk:Keeps zA W W'):zNb w W' n v:=by
 exact J84 _
section
variable {cs:List Int} {mu:Int} {bs:List Bd} {w:World} {F:Nat -> Prop} {uca uta:Option Addr} {ucc utc:Nat}
end
def zMA:Value:=.slice none 0 0
theorem zLd:(Tryz.prog.info? 138).map (fun i=>(i.zero,i.size,i.bytes))=some (some (.agg #[.int .i64 0, .int .i64 0]),2,16):=by kernel_rfl
def zME (m:WMa) (k:Nat):List Int:=(m.ths.take k).map (·.st)
def zI3 (m:WMa) (k:Nat):List (Int × Int):=(List.range k).map (zG5 m)
def zBZ (p:Int × Int):List Value:=[.int .i64 p.1, .int .i64 p.2]
def zO9 (m:WMa) (k:Nat):List Value:=(zI3 m k).flatMap zBZ
structure zGp (w:World) (m:WMa) (c1 c2 c3 c4:Value) (w':World):Prop where
 keeps:Keeps zA w w'
 cells:zBL w' w.heap.size c1 m.cells.length (ints m.cells)
 owners:zBL w' w.heap.size c2 m.owners.length (ints m.owners)
 sts:zBL w' w.heap.size c3 m.ths.length (ints (zME m m.ths.length))
 next:zBL w' w.heap.size c4 m.ths.length (zO9 m m.ths.length)
def zM2 (b B:Nat) (cv ov:Value) (xs ys:List Int) (j:Nat) (v:Value) (W:World):Prop :=
 match j with
 | 0=>v=.pointer (some ⟨b,0,none⟩)
 | 1=>v=.pointer (some ⟨b,0,none⟩)
 | 2=>v=.pointer (some ⟨b,3,none⟩)
 | 3=>v=cv
 | 4=>∃ ad cap,v=.slice ad xs.length cap /\ W.ownsRow 0 3 1 v xs.length (ints xs) /\ ∀ kb,v.ownBlock=some kb -> B <= kb
 | 5=>∃ ad,v=.slice ad xs.length xs.length /\ zBL W B v xs.length (ints xs)
 | 6=>v=.pointer (some ⟨b,0,none⟩)
 | 7=>v=.pointer (some ⟨b,0,none⟩)
 | 8=>v=.pointer (some ⟨b,4,none⟩)
 | 9=>v=ov
 | 10=>∃ ad cap,v=.slice ad ys.length cap /\ W.ownsRow 0 3 1 v ys.length (ints ys) /\ ∀ kb,v.ownBlock=some kb -> B <= kb
 | 11=>∃ ad,v=.slice ad ys.length ys.length /\ zBL W B v ys.length (ints ys)
 | 12=>∃ a1 a2,v=.agg #[.slice a1 xs.length xs.length, .slice a2 ys.length ys.length, .slice none 0 0, .slice none 0 0] /\ zBL W B (.slice a1 xs.length xs.length) xs.length (ints xs) /\ zBL W B (.slice a2 ys.length ys.length) ys.length (ints ys)
 | 13=>∃ z,v=.pointer (some ⟨z,0,none⟩) /\ B <= z /\ zC W z [zMA,zMA,zMA,zMA]
 | _=>True
theorem zBL.zD {w w':World} {B:Nat} {v:Value} {n:Nat} {cs:List Value} (h:zBL w B v n cs) (hk:Keeps zA w w'):zBL w' B v n cs:=h.keeps hk (fun _ _ h=>h)
theorem zM2.st {b B:Nat} {cv ov:Value} {xs ys:List Int} (j:Nat) (v:Value) (W W':World) (h:zM2 b B cv ov xs ys j v W) (hk:Keeps zA W W'):zM2 b B cv ov xs ys j v W':=by
 unfold zM2 at *;split at h
 case h_5=>obtain ⟨ad,cap,e,h1,h2⟩:=h;exact ⟨ad,cap,e,zF h1 hk (fun _ _ h=>h),h2⟩
 case h_6=>obtain ⟨ad,e,h1⟩:=h;exact ⟨ad,e,h1.zD hk⟩
 case h_11=>obtain ⟨ad,cap,e,h1,h2⟩:=h;exact ⟨ad,cap,e,zF h1 hk (fun _ _ h=>h),h2⟩
 case h_12=>obtain ⟨ad,e,h1⟩:=h;exact ⟨ad,e,h1.zD hk⟩
 case h_13=>obtain ⟨a1,a2,e,h1,h2⟩:=h;exact ⟨a1,a2,e,h1.zD hk,h2.zD hk⟩
 case h_14=>obtain ⟨z,e,h1,h2⟩:=h;exact ⟨z,e,h1,h2.keeps hk (fun h=>h)⟩
 all_goals first | exact h | trivial
theorem zBL.mono {w:World} {B B' n:Nat} {v:Value} {cs:List Value} (h:zBL w B v n cs) (hB:B' <= B):zBL w B' v n cs:=by
 obtain ⟨ad,cap,e,e1,e2,h1⟩:=h;refine ⟨ad,cap,e,e1,e2,fun hn=>?_⟩
 obtain ⟨g,h2,h3,h4⟩:=h1 hn;exact ⟨g,h2,Nat.le_trans hB h3,h4⟩
def zNB (b z k:Nat) (v4:Value) (p:Int × Int) (j:Nat) (v:Value) (W:World):Prop :=
 match j with
 | 0=>v=.pointer (some ⟨z,3,none⟩)
 | 1=>v=v4
 | 2=>v=.pointer (some ⟨b,0,none⟩)
 | 3=>v=.int .i64 k
 | 4=>v=.agg #[.int .i64 p.1, .int .i64 p.2]
 | 5=>∃ g,v=.slice (some ⟨g,0,none⟩) 1 1 /\ zC W g (zBZ p)
 | _=>True
theorem zNB.st {b z k:Nat} {v4:Value} {p:Int × Int} (j:Nat) (v:Value) (W W':World) (h:zNB b z k v4 p j v W) (hk:Keeps zA W W'):zNB b z k v4 p j v W':=by
 unfold zNB at *;split at h
 case h_6=>obtain ⟨g,e,h1⟩:=h;exact ⟨g,e,h1.keeps hk (fun h=>h)⟩
 all_goals first | exact h | trivial
end Go.Proofs.YtoapgjjepiopbaaGreatDoor
namespace Go.Proofs.YtoapgjjepiopbaaGreatDoor
def WMa.idle (m:WMa):Prop:=∀ j,j < m.ths.length -> (m.get j).st=1 -> (m.get j).regs=[] /\ (m.get j).fs=[]
theorem zJZ {u:Un} (hr:zu u=true):(zFu u).idle:=by
 intro j hj h1
 have hb:=(zIh hr).ths;by_cases h0:j=0
 ·subst h0
  have h8:0 < u.threads.length:=by have:=(zCp hr).1;omega
  have e:(zFu u).get 0=zLy (u.body 0):=by unfold zFu zLL;exact WMa.zLv _ _ _ (by simpa using h8)
  rw [e] at h1;unfold zLy at h1;cases h1
 ·have e:(zFu u).get j=(⟨1,[],[]⟩:WTh):=by
   unfold zFu zLL;rw [WMa.zMc _ _ (fun h=>h0 h.symm)];have hj':j < u.threads.length:=by rw [<- hb];exact hj
   simp [WMa.get,List.getD,hj']
  rw [e];exact ⟨rfl,rfl⟩
end Go.Proofs.YtoapgjjepiopbaaGreatDoor
namespace Go.Proofs.YtoapgjjepiopbaaGreatDoor
open Go.RowKit
structure zCN (w:World) (F:Nat -> Prop) (cs:List Int) (bs:List Bd) (uca uta:Option Addr):Prop where
 nums:zAn w F cs uca
 bds:zBa w F bs uta
 low:∀ k,F k -> k < w.heap.size
 kinds:∀ b,b ∈ bs -> Ac.zBD b.acts
 sz:zAb bs < 900000000
 l1:cs.length < 1000000000
 l2:bs.length < 1000000000
theorem zCN.keeps {S F:Nat -> Prop} {w w':World} {cs:List Int} {bs:List Bd} {uca uta:Option Addr} (h:zCN w F cs bs uca uta) (hk:Keeps S w w') (hS:∀ k,F k -> ¬ S k):zCN w' F cs bs uca uta :=
 ⟨h.nums.keeps hk hS,h.bds.keeps hk hS,fun k e=>Nat.lt_of_lt_of_le (h.low k e) hk.size,h.kinds,h.sz,h.l1,h.l2⟩
theorem zCN.zD {F:Nat -> Prop} {w w':World} {cs:List Int} {bs:List Bd} {uca uta:Option Addr} (h:zCN w F cs bs uca uta) (hk:Keeps zA w w'):zCN w' F cs bs uca uta:=h.keeps hk (fun _ _ h=>h)
structure zBH (R:zBA WFr) (sz:Nat) (ty:TypeId) (B:zDx) (D N:Nat -> Prop) (w:World) (b:Nat) (u:Un) (m:WMa):Prop where
 L:zAN R sz
 LB:BOk B
 low:∀ q,N q -> q < w.heap.size
 right:zu u=true
 ok:m.ok u
 idle:m.idle
 ex:∃ T F p H,MaP R sz ty B w T F 0 b u p m H /\ (∀ q,zFr T 0 q -> ¬ N q) /\ ∀ q,F q -> D q \/ ¬ N q
section
variable {R:zBA WFr} {sz:Nat} {ty:TypeId} {B:zDx} {D N N' S:Nat -> Prop} {w w':World} {b:Nat} {u:Un} {m:WMa}
theorem zBH.mono (h:zBH R sz ty B D N w b u m) (hN:∀ q,N' q -> N q):zBH R sz ty B D N' w b u m:=by
 obtain ⟨T,F,p,H,h1,h2,h3⟩:=h.ex;exact ⟨h.L,h.LB,fun q hq=>h.low q (hN q hq),h.right,h.ok,h.idle,T,F,p,H,h1,fun q hq e=>h2 q hq (hN q e),fun q hq=>(h3 q hq).imp (fun h=>h) fun h e=>h (hN q e)⟩
theorem zBH.lt (h:zBH R sz ty B D N w b u m) {T:zAA} {F:Nat -> Prop} {p:zDP} {H:List HTh} (h1:MaP R sz ty B w T F 0 b u p m H) {q:Nat} (hq:zFr T 0 q \/ F q):q < w.heap.size:=by
 rcases hq with hq | hq
 ·obtain ⟨t,e⟩:=hq
  exact h1.ths.sep.ok q _ e
 ·exact h1.ths.sep.low q hq
theorem zBH.zLt (h:zBH R sz ty B D N w b u m) (hk:Keeps S w w') (hS:∀ q,S q -> N q /\ ¬ D q):zBH R sz ty B D (fun q=>N q \/ (w.heap.size <= q /\ q < w'.heap.size)) w' b u m:=by
 obtain ⟨T,F,p,H,h1,h2,h3⟩:=h.ex;refine ⟨h.L,h.LB,fun q hq=>?_,h.right,h.ok,h.idle,T,F,p,H,MaP.keeps h.L h.LB h1 hk (fun q hq e=>hq.elim (fun g=>h2 q g (hS q e).1) fun g=>(h3 q g).elim (hS q e).2 fun g=>g (hS q e).1),fun q hq e=>?_,fun q hq=>(h3 q hq).imp (fun h=>h) fun g e=>?_⟩
 ·rcases hq with hq | hq
  ·exact Nat.lt_of_lt_of_le (h.low q hq) hk.size
  ·exact hq.2
 ·have:=h.lt h1 (.inl hq)
  exact e.elim (h2 q hq) (fun e=>by omega)
 ·have:=h.lt h1 (.inr hq)
  exact e.elim g (fun e=>by omega)
theorem zBH.zNY (h:zBH R sz ty B D N w b u m) (hk:Keeps S w w') (hS:∀ q,S q -> N q /\ ¬ D q):zBH R sz ty B D N w' b u m:=(h.zLt hk hS).mono fun _ h=>.inl h
theorem zBH.zD (h:zBH R sz ty B D N w b u m) (hk:Keeps zA w w'):zBH R sz ty B D N w' b u m:=h.zNY hk fun _ h=>h.elim
theorem zBH.fresh (h:zBH R sz ty B D N w b u m) (hk:Keeps zA w w'):zBH R sz ty B D (fun q=>N q \/ (w.heap.size <= q /\ q < w'.heap.size)) w' b u m:=h.zLt hk fun _ h=>h.elim
theorem zBH.new {T':zAA} {F:Nat -> Prop} {p:zDP} {H:List HTh} (L:zAN R sz) (LB:BOk B) (hr:zu u=true) (h1:MaP R sz ty B w' T' F 0 b u p (zFu u) H) (h2:zCT (fun _=>none) T' 0 w) (hk:Keeps zA w w') (h4:∀ q,F q -> D q \/ w.heap.size <= q):zBH R sz ty B D (fun q=>q < w.heap.size) w' b u (zFu u):=by
 refine ⟨L,LB,fun q hq=>Nat.lt_of_lt_of_le hq hk.size,hr,zIh hr,zJZ hr,T',F,p,H,h1,fun q hq e=>?_,fun q hq=>(h4 q hq).imp (fun h=>h) fun g e=>by have e:q < w.heap.size:=e;omega⟩
 have e:q < w.heap.size:=e;obtain ⟨t,et⟩:=hq;rcases h2.2 q _ et with g | g
 ·cases g
 ·omega
end
def newR (u:Un):Int:=zCI (zu u) (unS u.threads) (unW u.threads)
theorem zFM {u:Un} (h:newR u=0):zu u=true:=by
 cases hr:zu u with
 | true=>rfl
 | false=>unfold newR at h;rw [hr] at h;revert h;unfold zCI;simp
section
variable {cs:List Int} {mu:Int} {bs:List Bd} {w:World} {F:Nat -> Prop} {uca uta:Option Addr} {ucc utc:Nat}
theorem zCN.within (h:zCN w F cs bs uca uta):Calls Tryz.prog 6 #[.agg #[.slice uca cs.length ucc, .int .i64 mu, .slice uta bs.length utc]] w fun e w'=>e=.returned (.int .i64 (newR ⟨cs,mu,bs⟩)) /\ Keeps zA w w' :=
 zEv cs mu bs w F uca uta ucc utc h.nums h.bds h.low h.kinds h.sz h.l1 h.l2
end
end Go.Proofs.YtoapgjjepiopbaaGreatDoor
