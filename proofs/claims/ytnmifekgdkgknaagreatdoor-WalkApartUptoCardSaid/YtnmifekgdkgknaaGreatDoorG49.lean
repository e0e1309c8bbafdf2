/- Layer G: texts joined. -/
import Derived.Test.YtnmifekgdkgknaaGreatDoorG47
import Derived.Test.YtnmifekgdkgknaaGreatDoorG38
import Derived.BigQuiet
set_option linter.unusedVariables false
set_option linter.unusedSimpArgs false
set_option linter.unnecessarySimpa false
namespace Go.Proofs.YtnmifekgdkgknaaGreatDoor
open Go.RowKit
theorem SrcAt.ints {w:World} {v:Value} {xs:List Int} (h:SrcAt w v xs.length (ints xs)):∃ ad cap,v=.slice ad xs.length cap /\ ∀ k,k < xs.length -> ∃ g o,ad=some ⟨g,o,none⟩ /\ w.cell? ⟨g,o+k,none⟩=some (.int .i64 (xs.getD k 0)):=by
 obtain ⟨ad,cap,e,h1⟩:=h;refine ⟨ad,cap,e,fun k hk=>?_⟩
 obtain ⟨g,o,e1,h2⟩:=h1 (by omega);exact ⟨g,o,e1,h2 k _ (ints_get xs k hk)⟩
theorem SrcAt.keeps0 {w w':World} {v:Value} {n:Nat} {cs:List Value} (h:SrcAt w v n cs) (hk:Keeps NoBlk w w'):SrcAt w' v n cs:=h.keeps hk (fun _ _ h=>h)
theorem list_ext {xs ys:List Int} (hl:xs.length=ys.length) (h:∀ j,j < xs.length -> xs.getD j 0=ys.getD j 0):xs=ys:=by
 apply List.ext_getElem hl
 intro j h1 h2
 have:=h j h1
 simpa [List.getD,h1,h2] using this
set_option maxRecDepth 8000 in
set_option maxHeartbeats 1000000 in
theorem sameInts_any (w:World) (v1 v2:Value) (xs ys:List Int) (h1:SrcAt w v1 xs.length (ints xs)) (h2:SrcAt w v2 ys.length (ints ys)) (hm:xs.length <= 1000) :
 Calls Tryz.prog 68 #[v1,v2] w fun e w'=>e=.returned (.bool (decide (xs=ys))) /\ Keeps NoBlk w w':=by
 have H1:=Lib.hid h1;have H2:=Lib.hid h2;obtain ⟨a1,c1,rfl,k1⟩:=h1.ints;obtain ⟨a2,c2,rfl,k2⟩:=h2.ints;clear h1 h2;by_cases hl:xs.length=ys.length
 ·have HL:=Lib.hid hl
  rw [<- hl];have hb:((xs.length:Int) != xs.length)=false:=by simp
  obtain ⟨n,hn⟩:∃ n,n=xs.length:=⟨_,rfl⟩
  have HN:=Lib.hid hn;rw [<- hn] at hm ⊢;clear k1 k2 hl hn hb;go_enter Tryz.func68,Tryz.ntmps68
  go_wp2_with fail
  go_loopw [5] (fun i wr=>∃ k:Nat,k <= n /\ i=.int .i64 k /\ Hid (∀ j,j < k -> xs.getD j 0=ys.getD j 0) /\ Hid (Keeps NoBlk w wr)) (fun i _=>n - (intOf i).toNat)
  case atStart=>exact ⟨0,Nat.zero_le _,rfl,fun j hj=>absurd hj (Nat.not_lt_zero _),Keeps.refl _ _⟩
  case round =>
   obtain ⟨k,hk,rfl,hag,hkp⟩:=hrel;by_cases hlt:k < n
   ·obtain ⟨ad,cap,e1,q1⟩:=(H1.out.keeps0 hkp.out).ints
    obtain ⟨ad',cap',e2,q2⟩:=(H2.out.keeps0 hkp.out).ints;obtain ⟨g1,o1,e3,d1⟩:=q1 k (by rw [<- HN.out];exact hlt);obtain ⟨g2,o2,e4,d2⟩:=q2 k (by rw [<- HL.out,<- HN.out];exact hlt);cases e1;cases e2;subst e3 e4;have i1:(0:Int) <= k:=by omega
    have i2:(k:Int) < n:=by omega
    clear q1 q2 hk;by_cases he:xs.getD k 0=ys.getD k 0
    ·have hb:(xs.getD k 0 != ys.getD k 0)=false:=by rw [he];simp
     have HA:Hid (∀ j,j < k+1 -> xs.getD j 0=ys.getD j 0):=fun j hj=>by
      by_cases e:j=k
      ·subst e;exact he
      ·exact hag.out j (by omega)
     generalize xs.getD k 0=u1 at d1 he hb;generalize ys.getD k 0=u2 at d2 he hb;clear he hag;go_wp2_with fail
     go_region
     all_goals (
      go_wp2_with fail
      first
      | exact ⟨⟨k+1,by omega,by go_num,HA,hkp.out.drew⟩,by simp [intOf];omega⟩
      | trace_state)
    ·have hb:(xs.getD k 0 != ys.getD k 0)=true:=bne_iff_ne.2 he
     have HNE:Hid (decide (xs=ys)=false):=decide_eq_false (fun e=>he (by rw [e]));generalize xs.getD k 0=u1 at d1 he hb;generalize ys.getD k 0=u2 at d2 he hb;clear he hag;go_wp2_with fail
     go_region
     all_goals (
      go_wp2_with fail
      go_ret
      exact ⟨congrArg (fun b=>Ending.returned (.bool b)) HNE.out.symm,hkp.out.drew⟩)
   ·have hkn:k=n:=by omega
    subst hkn;clear hlt;have HE:Hid (decide (xs=ys)=true):=decide_eq_true (list_ext HL.out (fun j hj=>hag.out j (by rw [HN.out];exact hj)));go_wp2_with fail
    go_ret
    exact ⟨congrArg (fun b=>Ending.returned (.bool b)) HE.out.symm,hkp.out⟩
 ·have hb:((xs.length:Int) != ys.length)=true:=by rw [bne_iff_ne];omega
  have HNE:Hid (decide (xs=ys)=false):=decide_eq_false (fun e=>hl (by rw [e]));clear k1 k2;generalize xs.length=n1 at hb hl;generalize ys.length=n2 at hb hl;clear hl;go_enter Tryz.func68,Tryz.ntmps68
  go_wp2_with fail
  go_ret
  exact ⟨congrArg (fun b=>Ending.returned (.bool b)) HNE.out.symm,Keeps.refl _ _⟩
theorem SrcAt.acts {w:World} {v:Value} {ps:List (Int × Int)} (h:SrcAt w v ps.length (ps.flatMap actC)):∃ ad cap,v=.slice ad ps.length cap /\ ∀ k p,ps[k]?=some p -> ∃ g o,ad=some ⟨g,o,none⟩ /\ w.cell? ⟨g,o+k*2,none⟩=some (.int .i64 p.1) /\ w.cell? ⟨g,o+k*2+1,none⟩=some (.int .i64 p.2):=by
 obtain ⟨ad,cap,e,h1⟩:=h;refine ⟨ad,cap,e,fun k p hk=>?_⟩
 have hlt:=(List.getElem?_eq_some_iff.1 hk).1;obtain ⟨g,o,e1,h2⟩:=h1 (by omega);refine ⟨g,o,e1,?_,?_⟩
 ·exact h2 (k*2) _ (by have:=get_cells actC 2 (fun _=>rfl) ps k 0 (by decide);rw [hk] at this;simpa [actC] using this)
 ·have:=h2 (k*2+1) (.int .i64 p.2) (by have:=get_cells actC 2 (fun _=>rfl) ps k 1 (by decide);rw [hk] at this;simpa [actC] using this)
  rw [Nat.add_assoc];exact this
structure StaSrc (w:World) (c1 c2 c3 c4:Value) (xs ys ss:List Int) (ps:List (Int × Int)):Prop where
 cells:SrcAt w c1 xs.length (ints xs)
 owners:SrcAt w c2 ys.length (ints ys)
 sts:SrcAt w c3 ss.length (ints ss)
 next:SrcAt w c4 ps.length (ps.flatMap actC)
theorem StaSrc.keeps {w w':World} {c1 c2 c3 c4:Value} {xs ys ss:List Int} {ps:List (Int × Int)} (h:StaSrc w c1 c2 c3 c4 xs ys ss ps) (hk:Keeps NoBlk w w'):StaSrc w' c1 c2 c3 c4 xs ys ss ps :=
 ⟨h.cells.keeps0 hk,h.owners.keeps0 hk,h.sts.keeps0 hk,h.next.keeps0 hk⟩
set_option maxRecDepth 8000 in
set_option maxHeartbeats 2000000 in
theorem sameState_any (w:World) (c1 c2 c3 c4 d1 d2 d3 d4:Value) (xs ys ss:List Int) (ps:List (Int × Int)) (hc:StaSrc w c1 c2 c3 c4 xs ys ss ps) (hd:StaSrc w d1 d2 d3 d4 xs ys ss ps) (hx:xs.length <= 1000) (hy:ys.length <= 1000) (hs:ss.length <= 1000) (hp:ps.length <= 1000) :
 Calls Tryz.prog 26 #[.agg #[c1,c2,c3,c4], .agg #[d1,d2,d3,d4]] w fun e w'=>e=.returned (.bool true) /\ Keeps NoBlk w w':=by
 have HC:=Lib.hid hc;have HD:=Lib.hid hd
 have H1:Hid (∀ W,Keeps NoBlk w W -> Calls Tryz.prog 68 #[c1,d1] W fun e w'=>e=.returned (.bool true) /\ Keeps NoBlk W w'):=fun W hk=>by
  have:=sameInts_any W c1 d1 xs xs (hc.keeps hk).cells (hd.keeps hk).cells hx
  rwa [decide_eq_true rfl] at this
 have H2:Hid (∀ W,Keeps NoBlk w W -> Calls Tryz.prog 68 #[c2,d2] W fun e w'=>e=.returned (.bool true) /\ Keeps NoBlk W w'):=fun W hk=>by
  have:=sameInts_any W c2 d2 ys ys (hc.keeps hk).owners (hd.keeps hk).owners hy
  rwa [decide_eq_true rfl] at this
 have H3:Hid (∀ W,Keeps NoBlk w W -> Calls Tryz.prog 68 #[c3,d3] W fun e w'=>e=.returned (.bool true) /\ Keeps NoBlk W w'):=fun W hk=>by
  have:=sameInts_any W c3 d3 ss ss (hc.keeps hk).sts (hd.keeps hk).sts hs
  rwa [decide_eq_true rfl] at this
 obtain ⟨p4,q4,rfl,_⟩:=hc.next.acts;obtain ⟨r4,s4,rfl,_⟩:=hd.next.acts;obtain ⟨p1,n1,q1,rfl⟩:∃ a n c,c1=.slice a n c:=by obtain ⟨a,c,e,_⟩:=hc.cells;exact ⟨a,_,c,e⟩
 obtain ⟨p2,n2,q2,rfl⟩:∃ a n c,c2=.slice a n c:=by obtain ⟨a,c,e,_⟩:=hc.owners;exact ⟨a,_,c,e⟩
 obtain ⟨p3,n3,q3,rfl⟩:∃ a n c,c3=.slice a n c:=by obtain ⟨a,c,e,_⟩:=hc.sts;exact ⟨a,_,c,e⟩
 obtain ⟨r1,m1,s1,rfl⟩:∃ a n c,d1=.slice a n c:=by obtain ⟨a,c,e,_⟩:=hd.cells;exact ⟨a,_,c,e⟩
 obtain ⟨r2,m2,s2,rfl⟩:∃ a n c,d2=.slice a n c:=by obtain ⟨a,c,e,_⟩:=hd.owners;exact ⟨a,_,c,e⟩
 obtain ⟨r3,m3,s3,rfl⟩:∃ a n c,d3=.slice a n c:=by obtain ⟨a,c,e,_⟩:=hd.sts;exact ⟨a,_,c,e⟩
 obtain ⟨n,hn⟩:∃ n,n=ps.length:=⟨_,rfl⟩
 have HN:=Lib.hid hn;rw [<- hn] at hp HC HD ⊢;clear hc hd hx hy hs hn;go_enter Tryz.func26,Tryz.ntmps26
 go_upto_region 1 with fail
 obtain ⟨ba,hba⟩:∃ y,y=w.heap.size:=⟨_,rfl⟩
 obtain ⟨bb,hbb⟩:∃ y,y=w.heap.size+1:=⟨_,rfl⟩
 have hra:RowAt ((w.alloc (.cells #[.slice p1 n1 q1, .slice p2 n2 q2, .slice p3 n3 q3, .slice p4 n q4] 48)).alloc (.cells #[.slice r1 m1 s1, .slice r2 m2 s2, .slice r3 m3 s3, .slice r4 n s4] 48)) ba [.slice p1 n1 q1, .slice p2 n2 q2, .slice p3 n3 q3, .slice p4 n q4]:=by rw [hba];exact (RowAt.ofBlock (heap_alloc_new w _)).alloc _
 have hrb:RowAt ((w.alloc (.cells #[.slice p1 n1 q1, .slice p2 n2 q2, .slice p3 n3 q3, .slice p4 n q4] 48)).alloc (.cells #[.slice r1 m1 s1, .slice r2 m2 s2, .slice r3 m3 s3, .slice r4 n s4] 48)) bb [.slice r1 m1 s1, .slice r2 m2 s2, .slice r3 m3 s3, .slice r4 n s4]:=by rw [hbb];exact RowAt.ofBlock (heap_alloc2 w _ _)
 have hk0:Keeps NoBlk w ((w.alloc (.cells #[.slice p1 n1 q1, .slice p2 n2 q2, .slice p3 n3 q3, .slice p4 n q4] 48)).alloc (.cells #[.slice r1 m1 s1, .slice r2 m2 s2, .slice r3 m3 s3, .slice r4 n s4] 48)):=((Keeps.refl _ _).alloc _).alloc _;rw [<- hbb,<- hba];generalize ((w.alloc (.cells #[.slice p1 n1 q1, .slice p2 n2 q2, .slice p3 n3 q3, .slice p4 n q4] 48)).alloc (.cells #[.slice r1 m1 s1, .slice r2 m2 s2, .slice r3 m3 s3, .slice r4 n s4] 48))=w0 at hra hrb hk0 ⊢;have HRA:=Lib.hid hra;have HRB:=Lib.hid hrb;have HK0:=Lib.hid hk0;have x0:=hra.cell (k:=0) (v:=.slice p1 n1 q1) rfl;have y0:=hrb.cell (k:=0) (v:=.slice r1 m1 s1) rfl;clear hra hrb hk0 hba hbb;go_upto_region 2 with (go_at_call 68;refine (H1.out _ HK0.out).mono ?_;rintro e w1 ⟨rfl,g1⟩;have K1:Hid (Keeps NoBlk w0 w1):=g1;have x1:=(HRA.out.keeps g1 (fun h=>h)).cell (k:=1) (v:=.slice p2 n2 q2) rfl;have y1:=(HRB.out.keeps g1 (fun h=>h)).cell (k:=1) (v:=.slice r2 m2 s2) rfl;clear g1)
 go_upto_region 3 with (go_at_call 68;refine (H2.out _ (HK0.out.trans0 K1.out)).mono ?_;rintro e w2 ⟨rfl,g1⟩;have K2:Hid (Keeps NoBlk w0 w2):=K1.out.trans0 g1;have x2:=(HRA.out.keeps K2.out (fun h=>h)).cell (k:=2) (v:=.slice p3 n3 q3) rfl;have y2:=(HRB.out.keeps K2.out (fun h=>h)).cell (k:=2) (v:=.slice r3 m3 s3) rfl;clear g1)
 go_upto_region 4 with (go_at_call 68;refine (H3.out _ (HK0.out.trans0 K2.out)).mono ?_;rintro e w3 ⟨rfl,g1⟩;have K3:Hid (Keeps NoBlk w0 w3):=K2.out.trans0 g1;have x3:=(HRA.out.keeps K3.out (fun h=>h)).cell (k:=3) (v:=.slice p4 n q4) rfl;have y3:=(HRB.out.keeps K3.out (fun h=>h)).cell (k:=3) (v:=.slice r4 n s4) rfl;clear g1)
 clear x0 y0 x1 y1 x2 y2 H1 H2 H3;go_wp2_with fail
 go_loopw [8] (fun i wr=>∃ k:Nat,k <= n /\ i=.int .i64 k /\ Hid (Keeps NoBlk w3 wr)) (fun i _=>n - (intOf i).toNat)
 case atStart=>exact ⟨0,Nat.zero_le _,rfl,Keeps.refl _ _⟩
 case round =>
  obtain ⟨k,hk,rfl,hkp⟩:=hrel;have KR:Hid (Keeps NoBlk w wr):=(HK0.out.trans0 K3.out).trans0 hkp.out;have x3':=hkp.out.cell (p:=⟨ba,3,none⟩) (fun h=>h) x3;have y3':=hkp.out.cell (p:=⟨bb,3,none⟩) (fun h=>h) y3;by_cases hlt:k < n
  ·obtain ⟨p,hp⟩:∃ p,ps[k]?=some p:=⟨_,List.getElem?_eq_getElem (by rw [<- HN.out];exact hlt)⟩
   have hcn:=(HC.out.keeps KR.out).next;have hdn:=(HD.out.keeps KR.out).next;rw [HN.out] at hcn hdn;obtain ⟨ad,cap,e1,f1⟩:=hcn.acts;obtain ⟨ad',cap',e2,f2⟩:=hdn.acts;obtain ⟨g1,o1,e3,d1,d1'⟩:=f1 k p hp;obtain ⟨g2,o2,e4,d2,d2'⟩:=f2 k p hp;cases e1;cases e2;subst e3 e4;have i1:(0:Int) <= k:=by omega
   have i2:(k:Int) < n:=by omega
   clear f1 f2 hk hcn hdn hp;go_wp2_with fail
   go_quiet (fail)
   go_wp2_with fail
   exact ⟨⟨k+1,by omega,by go_num,hkp.out.drewN nq⟩,by simp [intOf];omega⟩
  ·have hkn:k=n:=by omega
   subst hkn;clear hlt;go_wp2_with fail
   go_ret
   exact ⟨rfl,KR.out⟩
def IntsIn (w:World) (p:Option Addr) (n:Nat) (A:Nat -> Int):Prop:=∀ W,Keeps NoBlk w W -> ∀ j,j < n -> ∃ g o,p=some ⟨g,o,none⟩ /\ W.cell? ⟨g,o+j,none⟩=some (.int .i64 (A j))
def ActsIn (w:World) (p:Option Addr) (n:Nat) (A:Nat -> Int × Int):Prop:=∀ W,Keeps NoBlk w W -> ∀ j,j < n -> ∃ g o,p=some ⟨g,o,none⟩ /\ W.cell? ⟨g,o+j*2,none⟩=some (.int .i64 (A j).1) /\ W.cell? ⟨g,o+j*2+1,none⟩=some (.int .i64 (A j).2)
section
variable {w:World} {p1 p2 p3 p4 r1 r2 r3 r4:Option Addr} {c1 c2 c3 c4 d1 d2 d3 d4 nx ny nt:Nat} {A1 A2 A3 B1 B2 B3:Nat -> Int} {A4 B4:Nat -> Int × Int}
set_option maxRecDepth 8000 in
set_option maxHeartbeats 8000000 in
theorem apart_no (b2 b3 b4 b5 b6:Bool) (x:Evt) (l1:nx <= 1000) (l2:ny <= 1000) (l3:nt <= 1000) (e2:(x.kind==2)=b2) (e3:(x.kind==3)=b3) (e4:(x.kind==4)=b4) (e5:(x.kind==5)=b5) (e6:(x.kind==6)=b6)
 (hb:(b2,b3,b4,b5,b6) ∈ [(true,false,false,false,false),(false,true,false,false,false),(false,false,true,false,false),(false,false,false,true,false),(false,false,false,false,false)])
 (f1:IntsIn w p1 nx A1) (f2:IntsIn w p2 ny A2) (f3:IntsIn w p3 nt A3) (f4:ActsIn w p4 nt A4) (g1:IntsIn w r1 nx B1) (g2:IntsIn w r2 ny B2) (g3:IntsIn w r3 nt B3) (g4:ActsIn w r4 nt B4)
 (h1:∀ k,k < nx -> A1 k=B1 k \/ ((b2=true \/ b3=true) /\ (k:Int)=x.obj)) (h2:∀ k,k < ny -> A2 k=B2 k \/ ((b4=true \/ b5=true) /\ (k:Int)=x.obj))
 (h3:∀ k,k < nt -> (A3 k=B3 k /\ A4 k=B4 k) \/ (k:Int)=x.thread \/ (b6=true /\ x.bad=0 /\ (k:Int)=x.obj)) :
 Calls Tryz.prog 27 #[.agg #[.slice p1 nx c1, .slice p2 ny c2, .slice p3 nt c3, .slice p4 nt c4], .agg #[.slice r1 nx d1, .slice r2 ny d2, .slice r3 nt d3, .slice r4 nt d4],evV x] w fun e w'=>e=.returned (.bool true) /\ Keeps NoBlk w w':=by
 have F1:=Lib.hid f1;have F2:=Lib.hid f2;have F3:=Lib.hid f3;have F4:=Lib.hid f4;have G1:=Lib.hid g1;have G2:=Lib.hid g2;have G3:=Lib.hid g3;have G4:=Lib.hid g4;have H1:=Lib.hid h1;have H2:=Lib.hid h2;have H3:=Lib.hid h3;have hn1:((nx:Int) != (nx:Int))=false:=by simp
 have hn2:((ny:Int) != (ny:Int))=false:=by simp
 have hn3:((nt:Int) != (nt:Int))=false:=by simp
 obtain ⟨xt,xk,xo,xv,xb⟩:=x;simp only at e2 e3 e4 e5 e6 H1 H2 H3;clear f1 f2 f3 f4 g1 g2 g3 g4 h1 h2 h3;unfold evV;simp only
 go_enter Tryz.func27,Tryz.ntmps27
 go_upto_region 1 with fail
 obtain ⟨bk1,w1,x1,z1,R1,K1,s1⟩:=newRow w [.slice p1 nx c1, .slice p2 ny c2, .slice p3 nt c3, .slice p4 nt c4] 48;try rw [x1]
 try rw [z1]
 obtain ⟨bk2,w2,x2,z2,R2,K2,s2⟩:=newRow w1 [.slice r1 nx d1, .slice r2 ny d2, .slice r3 nt d3, .slice r4 nt d4] 48;try rw [x2]
 try rw [z2]
 obtain ⟨bk3,w3,x3,z3,R3,K3,s3⟩:=newRow w2 [.int .i64 xt, .int .i64 xk, .int .i64 xo, .int .i64 xv, .int .i64 xb] 40;try rw [x3]
 try rw [z3]
 have n1:bk1+1=bk2:=s1.out.symm.trans x2;have n2:bk2+1=bk3:=s2.out.symm.trans x3;try rw [n1]
 try rw [n2]
 clear n1 n2 s1 s2 s3;have yA:=(R1.keeps (K2.trans0 K3) (fun h=>h)).all4;have yB:=(R2.keeps K3 (fun h=>h)).all4;have yX:=R3.five;have k0:=keep0 w3;have HK:=Lib.hid ((K1.trans0 K2).trans0 K3);clear x1 z1 x2 z2 x3 z3 R1 R2 R3 K1 K2 K3;simp only [List.mem_cons,Prod.mk.injEq,List.not_mem_nil,or_false] at hb;rcases hb with ⟨rfl,rfl,rfl,rfl,rfl⟩ | ⟨rfl,rfl,rfl,rfl,rfl⟩ | ⟨rfl,rfl,rfl,rfl,rfl⟩ | ⟨rfl,rfl,rfl,rfl,rfl⟩ | ⟨rfl,rfl,rfl,rfl,rfl⟩
 all_goals (
  obtain ⟨a0,a1,a2,a3⟩:=yA _ (Keeps.refl _ _);obtain ⟨d0,d1',d2',d3'⟩:=yB _ (Keeps.refl _ _);obtain ⟨v0,v1,v2,v3,v4⟩:=yX _ (Keeps.refl _ _);have HS:Hid (Keeps NoBlk w3 w3):=Keeps.refl _ _;go_wp2_with fail
  clear a0 a1 a2 a3 d0 d1' d2' d3' v0 v1 v2 v3 v4;go_loopw [9] (fun i wr=>∃ k:Nat,k <= nx /\ i=.int .i64 k /\ Hid (Keeps NoBlk w3 wr)) (fun i _=>nx - (intOf i).toNat)
  case atStart=>exact ⟨0,Nat.zero_le _,rfl,HS.out⟩
  case round =>
   obtain ⟨k,hk,rfl,hkp⟩:=hrel;obtain ⟨a0,a1,a2,a3⟩:=yA _ hkp.out;obtain ⟨d0,d1',d2',d3'⟩:=yB _ hkp.out;obtain ⟨v0,v1,v2,v3,v4⟩:=yX _ hkp.out;by_cases hlt:k < nx
   ·obtain ⟨ga,oa,ea,ca⟩:=F1.out _ (HK.out.trans0 hkp.out) k hlt
    obtain ⟨gb,ob,eb,cb⟩:=G1.out _ (HK.out.trans0 hkp.out) k hlt;subst ea eb;have i1:(0:Int) <= k:=by omega
    have i2:(k:Int) < nx:=by omega
    by_cases he:A1 k=B1 k
    ·have hne:(A1 k != B1 k)=false:=by rw [he];simp
     generalize A1 k=u1 at ca hne he;generalize B1 k=u2 at cb hne he;clear he hk;go_upto_region 8 with fail
     go_quiet (fail)
     go_wp2_with fail
     exact ⟨⟨k+1,by omega,by go_num,hkp.out.drewN _⟩,by simp [intOf];omega⟩
    ·have hne:(A1 k != B1 k)=true:=bne_iff_ne.2 he
     rcases H1.out k hlt with h | ⟨hc,ho⟩
     ·exact absurd h he
     ·first
      | (exfalso;revert hc;simp;done)
      | (clear hc
         subst ho;have hs:((k:Int) != (k:Int))=false:=by simp
         generalize A1 k=u1 at ca hne he;generalize B1 k=u2 at cb hne he;clear he hk;go_upto_region 8 with fail
         go_quiet (fail)
         go_wp2_with fail
         exact ⟨⟨k+1,by omega,by go_num,hkp.out.drewN _⟩,by simp [intOf];omega⟩)
   ·have hkn:k=nx:=by omega
    subst hkn;clear hlt hk;have HS:=hkp;go_wp2_with fail
    clear a0 a1 a2 a3 d0 d1' d2' d3' v0 v1 v2 v3 v4;clear hkp;go_loopw [10] (fun i wr=>∃ k:Nat,k <= ny /\ i=.int .i64 k /\ Hid (Keeps NoBlk w3 wr)) (fun i _=>ny - (intOf i).toNat)
    case atStart=>exact ⟨0,Nat.zero_le _,rfl,HS.out⟩
    case round =>
     obtain ⟨k,hk,rfl,hkp⟩:=hrel;obtain ⟨a0,a1,a2,a3⟩:=yA _ hkp.out;obtain ⟨d0,d1',d2',d3'⟩:=yB _ hkp.out;obtain ⟨v0,v1,v2,v3,v4⟩:=yX _ hkp.out;by_cases hlt:k < ny
     ·obtain ⟨ga,oa,ea,ca⟩:=F2.out _ (HK.out.trans0 hkp.out) k hlt
      obtain ⟨gb,ob,eb,cb⟩:=G2.out _ (HK.out.trans0 hkp.out) k hlt;subst ea eb;have i1:(0:Int) <= k:=by omega
      have i2:(k:Int) < ny:=by omega
      by_cases he:A2 k=B2 k
      ·have hne:(A2 k != B2 k)=false:=by rw [he];simp
       generalize A2 k=u1 at ca hne he;generalize B2 k=u2 at cb hne he;clear he hk;go_upto_region 13 with fail
       go_quiet (fail)
       go_wp2_with fail
       exact ⟨⟨k+1,by omega,by go_num,hkp.out.drewN _⟩,by simp [intOf];omega⟩
      ·have hne:(A2 k != B2 k)=true:=bne_iff_ne.2 he
       rcases H2.out k hlt with h | ⟨hc,ho⟩
       ·exact absurd h he
       ·first
        | (exfalso;revert hc;simp;done)
        | (clear hc
           subst ho;have hs:((k:Int) != (k:Int))=false:=by simp
           generalize A2 k=u1 at ca hne he;generalize B2 k=u2 at cb hne he;clear he hk;go_upto_region 13 with fail
           go_quiet (fail)
           go_wp2_with fail
           exact ⟨⟨k+1,by omega,by go_num,hkp.out.drewN _⟩,by simp [intOf];omega⟩)
     ·have hkn:k=ny:=by omega
      subst hkn;clear hlt hk;have HS:=hkp;go_wp2_with fail
      clear a0 a1 a2 a3 d0 d1' d2' d3' v0 v1 v2 v3 v4;clear hkp;go_loopw [11] (fun i wr=>∃ k:Nat,k <= nt /\ i=.int .i64 k /\ Hid (Keeps NoBlk w3 wr)) (fun i _=>nt - (intOf i).toNat)
      case atStart=>exact ⟨0,Nat.zero_le _,rfl,HS.out⟩
      case round =>
       obtain ⟨k,hk,rfl,hkp⟩:=hrel;obtain ⟨a0,a1,a2,a3⟩:=yA _ hkp.out;obtain ⟨d0,d1',d2',d3'⟩:=yB _ hkp.out;obtain ⟨v0,v1,v2,v3,v4⟩:=yX _ hkp.out;by_cases hlt:k < nt
       ·obtain ⟨ga,oa,ea,ca⟩:=F3.out _ (HK.out.trans0 hkp.out) k hlt
        obtain ⟨gb,ob,eb,cb⟩:=G3.out _ (HK.out.trans0 hkp.out) k hlt;obtain ⟨ha,pa,fa,da,da'⟩:=F4.out _ (HK.out.trans0 hkp.out) k hlt;obtain ⟨hb,pb,fb,db,db'⟩:=G4.out _ (HK.out.trans0 hkp.out) k hlt;subst ea eb fa fb;have i1:(0:Int) <= k:=by omega
        have i2:(k:Int) < nt:=by omega
        by_cases hA:A3 k=B3 k /\ A4 k=B4 k
        ·obtain ⟨h3,h4⟩:=hA
         have hne:(A3 k != B3 k)=false:=by rw [h3];simp
         rw [<- h4] at db db';generalize A3 k=u1 at ca hne h3;generalize B3 k=u2 at cb hne h3;generalize A4 k=pr at da da' db db' h4;clear h3 h4 hk;go_upto_region 19 with fail
         go_quiet (fail)
         go_wp2_with fail
         exact ⟨⟨k+1,by omega,by go_num,hkp.out.drewN _⟩,by simp [intOf];omega⟩
        ·rcases H3.out k hlt with h | ho | ⟨h6,_⟩
         ·exact absurd h hA
         ·subst ho
          have hs:((k:Int) != (k:Int))=false:=by simp
          by_cases h3:A3 k=B3 k
          ·have hne:(A3 k != B3 k)=false:=by rw [h3];simp
           by_cases q1:(A4 k).1=(B4 k).1
           ·have q2:(A4 k).2 ≠ (B4 k).2:=fun h=>hA ⟨h3,Prod.ext q1 h⟩
            have z1:((A4 k).1==(B4 k).1)=true:=by rw [q1];simp
            have z2:((A4 k).2==(B4 k).2)=false:=beq_false_of_ne q2;clear q1 q2 h3 hA hk;generalize A3 k=u1 at ca hne;generalize B3 k=u2 at cb hne;generalize (A4 k).1=v1 at da z1;generalize (A4 k).2=v2 at da' z2;generalize (B4 k).1=v3 at db z1;generalize (B4 k).2=v4 at db' z2;go_upto_region 19 with fail
            go_quiet (fail)
            go_wp2_with fail
            exact ⟨⟨k+1,by omega,by go_num,hkp.out.drewN _⟩,by simp [intOf];omega⟩
           ·have z1:((A4 k).1==(B4 k).1)=false:=beq_false_of_ne q1
            clear q1 h3 hA hk;generalize A3 k=u1 at ca hne;generalize B3 k=u2 at cb hne;generalize (A4 k).1=v1 at da z1;generalize (A4 k).2=v2 at da';generalize (B4 k).1=v3 at db z1;generalize (B4 k).2=v4 at db';go_upto_region 19 with fail
            go_quiet (fail)
            go_wp2_with fail
            exact ⟨⟨k+1,by omega,by go_num,hkp.out.drewN _⟩,by simp [intOf];omega⟩
          ·have hne:(A3 k != B3 k)=true:=bne_iff_ne.2 h3
           generalize A3 k=u1 at ca hne h3;generalize B3 k=u2 at cb hne h3;clear h3 hA hk;go_upto_region 19 with fail
           go_quiet (fail)
           go_wp2_with fail
           exact ⟨⟨k+1,by omega,by go_num,hkp.out.drewN _⟩,by simp [intOf];omega⟩
         ·cases h6
       ·have hkn:k=nt:=by omega
        subst hkn;clear hlt hk;go_wp2_with fail
        go_ret
        exact ⟨rfl,HK.out.trans0 hkp.out⟩)
end
end Go.Proofs.YtnmifekgdkgknaaGreatDoor
