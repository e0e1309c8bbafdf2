/- Layer G: texts joined. -/
import Derived.Test.YtnmifekgdkgknaaGreatDoorG49
set_option linter.unusedVariables false
set_option linter.unusedSimpArgs false
set_option linter.unnecessarySimpa false
namespace Go.Proofs.YtnmifekgdkgknaaGreatDoor
open Go.RowKit
section
variable {w:World} {p1 p2 p3 p4 r1 r2 r3 r4:Option Addr} {c1 c2 c3 c4 d1 d2 d3 d4 nx ny nt:Nat} {A1 A2 A3 B1 B2 B3:Nat -> Int} {A4 B4:Nat -> Int × Int}
set_option maxRecDepth 8000 in
set_option maxHeartbeats 8000000 in
theorem apart_st (b2 b3 b4 b5 b6:Bool) (x:Evt) (l1:nx <= 1000) (l2:ny <= 1000) (l3:nt <= 1000) (e2:(x.kind==2)=b2) (e3:(x.kind==3)=b3) (e4:(x.kind==4)=b4) (e5:(x.kind==5)=b5) (e6:(x.kind==6)=b6)
 (hb:(b2,b3,b4,b5,b6)=(false,false,false,false,true))
 (f1:IntsIn w p1 nx A1) (f2:IntsIn w p2 ny A2) (f3:IntsIn w p3 nt A3) (f4:ActsIn w p4 nt A4) (g1:IntsIn w r1 nx B1) (g2:IntsIn w r2 ny B2) (g3:IntsIn w r3 nt B3) (g4:ActsIn w r4 nt B4)
 (h1:∀ k,k < nx -> A1 k=B1 k \/ ((b2=true \/ b3=true) /\ (k:Int)=x.obj)) (h2:∀ k,k < ny -> A2 k=B2 k \/ ((b4=true \/ b5=true) /\ (k:Int)=x.obj))
 (h3:∀ k,k < nt -> (A3 k=B3 k /\ A4 k=B4 k) \/ (k:Int)=x.thread \/ (b6=true /\ x.bad=0 /\ (k:Int)=x.obj)) :
 Calls Tryz.prog 27 #[.agg #[.slice p1 nx c1, .slice p2 ny c2, .slice p3 nt c3, .slice p4 nt c4], .agg #[.slice r1 nx d1, .slice r2 ny d2, .slice r3 nt d3, .slice r4 nt d4],evV x] w fun e w'=>e=.returned (.bool true) /\ Keeps NoBlk w w':=by
 have F1:=Lib.hid f1;have F2:=Lib.hid f2;have F3:=Lib.hid f3;have F4:=Lib.hid f4;have G1:=Lib.hid g1;have G2:=Lib.hid g2;have G3:=Lib.hid g3;have G4:=Lib.hid g4;have H1:=Lib.hid h1;have H2:=Lib.hid h2;have H3:=Lib.hid h3;have hn1:((nx:Int) != (nx:Int))=false:=by simp
 have hn2:((ny:Int) != (ny:Int))=false:=by simp
 have hn3:((nt:Int) != (nt:Int))=false:=by simp
 obtain ⟨xt,xk,xo,xv,xb⟩:=x;simp only at e2 e3 e4 e5 e6 H1 H2 H3;clear f1 f2 f3 f4 g1 g2 g3 g4 h1 h2 h3;unfold evV;simp only
 go_enter Tryz.func27,Tryz.ntmps27
 go_upto_region 1 with fail
 obtain ⟨bk1,w1,x1,z1,R1,K1,s1⟩:=newRow w [.slice p1 nx c1, .slice p2 ny c2, .slice p3 nt c3, .slice p4 nt c4] 48;try rw [x1]
 try rw [z1]
 obtain ⟨bk2,w2,x2,z2,R2,K2,s2⟩:=newRow w1 [.slice r1 nx d1, .slice r2 ny d2, .slice r3 nt d3, .slice r4 nt d4] 48;try rw [x2]
 try rw [z2]
 obtain ⟨bk3,w3,x3,z3,R3,K3,s3⟩:=newRow w2 [.int .i64 xt, .int .i64 xk, .int .i64 xo, .int .i64 xv, .int .i64 xb] 40;try rw [x3]
 try rw [z3]
 have n1:bk1+1=bk2:=s1.out.symm.trans x2;have n2:bk2+1=bk3:=s2.out.symm.trans x3;try rw [n1]
 try rw [n2]
 clear n1 n2 s1 s2 s3;have yA:=(R1.keeps (K2.trans0 K3) (fun h=>h)).all4;have yB:=(R2.keeps K3 (fun h=>h)).all4;have yX:=R3.five;have k0:=keep0 w3;have HK:=Lib.hid ((K1.trans0 K2).trans0 K3);clear x1 z1 x2 z2 x3 z3 R1 R2 R3 K1 K2 K3;simp only [Prod.mk.injEq] at hb;obtain ⟨rfl,rfl,rfl,rfl,rfl⟩:=hb;obtain ⟨a0,a1,a2,a3⟩:=yA _ (Keeps.refl _ _);obtain ⟨d0,d1',d2',d3'⟩:=yB _ (Keeps.refl _ _);obtain ⟨v0,v1,v2,v3,v4⟩:=yX _ (Keeps.refl _ _);have HS:Hid (Keeps NoBlk w3 w3):=Keeps.refl _ _;go_wp2_with fail
 clear a0 a1 a2 a3 d0 d1' d2' d3' v0 v1 v2 v3 v4;go_loopw [9] (fun i wr=>∃ k:Nat,k <= nx /\ i=.int .i64 k /\ Hid (Keeps NoBlk w3 wr)) (fun i _=>nx - (intOf i).toNat)
 case atStart=>exact ⟨0,Nat.zero_le _,rfl,HS.out⟩
 case round =>
  obtain ⟨k,hk,rfl,hkp⟩:=hrel;obtain ⟨a0,a1,a2,a3⟩:=yA _ hkp.out;obtain ⟨d0,d1',d2',d3'⟩:=yB _ hkp.out;obtain ⟨v0,v1,v2,v3,v4⟩:=yX _ hkp.out;by_cases hlt:k < nx
  ·obtain ⟨ga,oa,ea,ca⟩:=F1.out _ (HK.out.trans0 hkp.out) k hlt
   obtain ⟨gb,ob,eb,cb⟩:=G1.out _ (HK.out.trans0 hkp.out) k hlt;subst ea eb;have i1:(0:Int) <= k:=by omega
   have i2:(k:Int) < nx:=by omega
   by_cases he:A1 k=B1 k
   ·have hne:(A1 k != B1 k)=false:=by rw [he];simp
    generalize A1 k=u1 at ca hne he;generalize B1 k=u2 at cb hne he;clear he hk;go_upto_region 8 with fail
    go_quiet (fail)
    go_wp2_with fail
    exact ⟨⟨k+1,by omega,by go_num,hkp.out.drewN _⟩,by simp [intOf];omega⟩
   ·have hne:(A1 k != B1 k)=true:=bne_iff_ne.2 he
    rcases H1.out k hlt with h | ⟨hc,ho⟩
    ·exact absurd h he
    ·first
     | (exfalso;revert hc;simp;done)
     | (clear hc
        subst ho;have hs:((k:Int) != (k:Int))=false:=by simp
        generalize A1 k=u1 at ca hne he;generalize B1 k=u2 at cb hne he;clear he hk;go_upto_region 8 with fail
        go_quiet (fail)
        go_wp2_with fail
        exact ⟨⟨k+1,by omega,by go_num,hkp.out.drewN _⟩,by simp [intOf];omega⟩)
  ·have hkn:k=nx:=by omega
   subst hkn;clear hlt hk;have HS:=hkp;go_wp2_with fail
   clear a0 a1 a2 a3 d0 d1' d2' d3' v0 v1 v2 v3 v4;clear hkp;go_loopw [10] (fun i wr=>∃ k:Nat,k <= ny /\ i=.int .i64 k /\ Hid (Keeps NoBlk w3 wr)) (fun i _=>ny - (intOf i).toNat)
   case atStart=>exact ⟨0,Nat.zero_le _,rfl,HS.out⟩
   case round =>
    obtain ⟨k,hk,rfl,hkp⟩:=hrel;obtain ⟨a0,a1,a2,a3⟩:=yA _ hkp.out;obtain ⟨d0,d1',d2',d3'⟩:=yB _ hkp.out;obtain ⟨v0,v1,v2,v3,v4⟩:=yX _ hkp.out;by_cases hlt:k < ny
    ·obtain ⟨ga,oa,ea,ca⟩:=F2.out _ (HK.out.trans0 hkp.out) k hlt
     obtain ⟨gb,ob,eb,cb⟩:=G2.out _ (HK.out.trans0 hkp.out) k hlt;subst ea eb;have i1:(0:Int) <= k:=by omega
     have i2:(k:Int) < ny:=by omega
     by_cases he:A2 k=B2 k
     ·have hne:(A2 k != B2 k)=false:=by rw [he];simp
      generalize A2 k=u1 at ca hne he;generalize B2 k=u2 at cb hne he;clear he hk;go_upto_region 13 with fail
      go_quiet (fail)
      go_wp2_with fail
      exact ⟨⟨k+1,by omega,by go_num,hkp.out.drewN _⟩,by simp [intOf];omega⟩
     ·have hne:(A2 k != B2 k)=true:=bne_iff_ne.2 he
      rcases H2.out k hlt with h | ⟨hc,ho⟩
      ·exact absurd h he
      ·first
       | (exfalso;revert hc;simp;done)
       | (clear hc
          subst ho;have hs:((k:Int) != (k:Int))=false:=by simp
          generalize A2 k=u1 at ca hne he;generalize B2 k=u2 at cb hne he;clear he hk;go_upto_region 13 with fail
          go_quiet (fail)
          go_wp2_with fail
          exact ⟨⟨k+1,by omega,by go_num,hkp.out.drewN _⟩,by simp [intOf];omega⟩)
    ·have hkn:k=ny:=by omega
     subst hkn;clear hlt hk;have HS:=hkp;go_wp2_with fail
     clear a0 a1 a2 a3 d0 d1' d2' d3' v0 v1 v2 v3 v4;clear hkp;go_loopw [11] (fun i wr=>∃ k:Nat,k <= nt /\ i=.int .i64 k /\ Hid (Keeps NoBlk w3 wr)) (fun i _=>nt - (intOf i).toNat)
     case atStart=>exact ⟨0,Nat.zero_le _,rfl,HS.out⟩
     case round =>
      obtain ⟨k,hk,rfl,hkp⟩:=hrel;obtain ⟨a0,a1,a2,a3⟩:=yA _ hkp.out;obtain ⟨d0,d1',d2',d3'⟩:=yB _ hkp.out;obtain ⟨v0,v1,v2,v3,v4⟩:=yX _ hkp.out;by_cases hlt:k < nt
      ·obtain ⟨ga,oa,ea,ca⟩:=F3.out _ (HK.out.trans0 hkp.out) k hlt
       obtain ⟨gb,ob,eb,cb⟩:=G3.out _ (HK.out.trans0 hkp.out) k hlt;obtain ⟨ha,pa,fa,da,da'⟩:=F4.out _ (HK.out.trans0 hkp.out) k hlt;obtain ⟨hb,pb,fb,db,db'⟩:=G4.out _ (HK.out.trans0 hkp.out) k hlt;subst ea eb fa fb;have i1:(0:Int) <= k:=by omega
       have i2:(k:Int) < nt:=by omega
       have hst3:((xb==0)=false) \/ ((xb==0)=true /\ ((k:Int)==xo)=false) \/ ((xb==0)=true /\ ((k:Int)==xo)=true):=by
        cases h1:(xb==0)
        ·exact .inl rfl
        ·cases h2:((k:Int)==xo)
         ·exact .inr (.inl ⟨rfl,rfl⟩)
         ·exact .inr (.inr ⟨rfl,rfl⟩)
       by_cases hA:A3 k=B3 k /\ A4 k=B4 k
       ·obtain ⟨h3,h4⟩:=hA
        have hne:(A3 k != B3 k)=false:=by rw [h3];simp
        rw [<- h4] at db db';generalize A3 k=u1 at ca hne h3;generalize B3 k=u2 at cb hne h3;generalize A4 k=pr at da da' db db' h4;clear h3 h4 hk;rcases hst3 with s1 | ⟨s1,s2⟩ | ⟨s1,s2⟩
        all_goals (
         go_upto_region 19 with fail
         go_quiet (fail)
         go_wp2_with fail
         exact ⟨⟨k+1,by omega,by go_num,hkp.out.drewN _⟩,by simp [intOf];omega⟩)
       ·by_cases ho:(k:Int)=xt
        ·subst ho
         have hs:((k:Int) != (k:Int))=false:=by simp
         by_cases h3:A3 k=B3 k
         ·have hne:(A3 k != B3 k)=false:=by rw [h3];simp
          by_cases q1:(A4 k).1=(B4 k).1
          ·have q2:(A4 k).2 ≠ (B4 k).2:=fun h=>hA ⟨h3,Prod.ext q1 h⟩
           have z1:((A4 k).1==(B4 k).1)=true:=by rw [q1];simp
           have z2:((A4 k).2==(B4 k).2)=false:=beq_false_of_ne q2;clear q1 q2 h3 hA hk;generalize A3 k=u1 at ca hne;generalize B3 k=u2 at cb hne;generalize (A4 k).1=v1 at da z1;generalize (A4 k).2=v2 at da' z2;generalize (B4 k).1=v3 at db z1;generalize (B4 k).2=v4 at db' z2;rcases hst3 with s1 | ⟨s1,s2⟩ | ⟨s1,s2⟩
           all_goals (
            go_upto_region 19 with fail
            go_quiet (fail)
            go_wp2_with fail
            exact ⟨⟨k+1,by omega,by go_num,hkp.out.drewN _⟩,by simp [intOf];omega⟩)
          ·have z1:((A4 k).1==(B4 k).1)=false:=beq_false_of_ne q1
           clear q1 h3 hA hk;generalize A3 k=u1 at ca hne;generalize B3 k=u2 at cb hne;generalize (A4 k).1=v1 at da z1;generalize (A4 k).2=v2 at da';generalize (B4 k).1=v3 at db z1;generalize (B4 k).2=v4 at db';rcases hst3 with s1 | ⟨s1,s2⟩ | ⟨s1,s2⟩
           all_goals (
            go_upto_region 19 with fail
            go_quiet (fail)
            go_wp2_with fail
            exact ⟨⟨k+1,by omega,by go_num,hkp.out.drewN _⟩,by simp [intOf];omega⟩)
         ·have hne:(A3 k != B3 k)=true:=bne_iff_ne.2 h3
          generalize A3 k=u1 at ca hne h3;generalize B3 k=u2 at cb hne h3;clear h3 hA hk;rcases hst3 with s1 | ⟨s1,s2⟩ | ⟨s1,s2⟩
          all_goals (
           go_upto_region 19 with fail
           go_quiet (fail)
           go_wp2_with fail
           exact ⟨⟨k+1,by omega,by go_num,hkp.out.drewN _⟩,by simp [intOf];omega⟩)
        ·have hs:((k:Int) != xt)=true:=bne_iff_ne.2 ho
         have hq:xb=0 /\ (k:Int)=xo:=by
          rcases H3.out k hlt with h | h | ⟨_,h⟩
          ·exact absurd h hA
          ·exact absurd h ho
          ·exact h
         have s1:(xb==0)=true:=by rw [hq.1];rfl
         have s2:((k:Int)==xo)=true:=by rw [hq.2];simp
         clear hst3 hq ho;by_cases h3:A3 k=B3 k
         ·have hne:(A3 k != B3 k)=false:=by rw [h3];simp
          by_cases q1:(A4 k).1=(B4 k).1
          ·have q2:(A4 k).2 ≠ (B4 k).2:=fun h=>hA ⟨h3,Prod.ext q1 h⟩
           have z1:((A4 k).1==(B4 k).1)=true:=by rw [q1];simp
           have z2:((A4 k).2==(B4 k).2)=false:=beq_false_of_ne q2;clear q1 q2 h3 hA hk;generalize A3 k=u1 at ca hne;generalize B3 k=u2 at cb hne;generalize (A4 k).1=v1 at da z1;generalize (A4 k).2=v2 at da' z2;generalize (B4 k).1=v3 at db z1;generalize (B4 k).2=v4 at db' z2;go_upto_region 19 with fail
           go_quiet (fail)
           go_wp2_with fail
           exact ⟨⟨k+1,by omega,by go_num,hkp.out.drewN _⟩,by simp [intOf];omega⟩
          ·have z1:((A4 k).1==(B4 k).1)=false:=beq_false_of_ne q1
           clear q1 h3 hA hk;generalize A3 k=u1 at ca hne;generalize B3 k=u2 at cb hne;generalize (A4 k).1=v1 at da z1;generalize (A4 k).2=v2 at da';generalize (B4 k).1=v3 at db z1;generalize (B4 k).2=v4 at db';go_upto_region 19 with fail
           go_quiet (fail)
           go_wp2_with fail
           exact ⟨⟨k+1,by omega,by go_num,hkp.out.drewN _⟩,by simp [intOf];omega⟩
         ·have hne:(A3 k != B3 k)=true:=bne_iff_ne.2 h3
          generalize A3 k=u1 at ca hne h3;generalize B3 k=u2 at cb hne h3;clear h3 hA hk;go_upto_region 19 with fail
          go_quiet (fail)
          go_wp2_with fail
          exact ⟨⟨k+1,by omega,by go_num,hkp.out.drewN _⟩,by simp [intOf];omega⟩
      ·have hkn:k=nt:=by omega
       subst hkn;clear hlt hk;go_wp2_with fail
       go_ret
       exact ⟨rfl,HK.out.trans0 hkp.out⟩
end
def pickN (n:Int) (l:List Int):Int:=if 100 <= n /\ l ≠ [] then l.getD (n.toNat % l.length) 0 else n
set_option maxRecDepth 8000 in
set_option maxHeartbeats 1000000 in
theorem pick_any (w:World) (n:Int) (v:Value) (l:List Int) (h:SrcAt w v l.length (ints l)) (hl:l.length <= 1000) :
 Calls Tryz.prog 16 #[.int .i64 n,v] w fun e w'=>e=.returned (.int .i64 (pickN n l)) /\ Keeps NoBlk w w':=by
 obtain ⟨ad,cap,rfl,hc⟩:=h.ints;clear h;by_cases h1:100 <= n
 ·have q1:decide (100 <= n)=true:=decide_eq_true h1
  by_cases h2:l.length=0
  ·have HP:Hid (pickN n l=n):=by
    show _=_
    unfold pickN;rw [if_neg (fun h=>h.2 (List.eq_nil_of_length_eq_zero h2))]
   rw [h2];clear h1 h2 hc hl;go_enter Tryz.func16,Tryz.ntmps16
   go_wp2_with fail
   go_ret
   exact ⟨congrArg (fun b=>Ending.returned (.int .i64 b)) HP.out.symm,Keeps.refl _ _⟩
  ·have hlt:n.toNat % l.length < l.length:=Nat.mod_lt _ (by omega)
   obtain ⟨g,o,rfl,c0⟩:=hc _ hlt
   have HP:Hid (pickN n l=l.getD (n.toNat % l.length) 0):=by
    show _=_
    unfold pickN;rw [if_pos ⟨h1,fun e=>h2 (by rw [e];rfl)⟩]
   obtain ⟨r,hr⟩:∃ r,r=n.toNat % l.length:=⟨_,rfl⟩
   have hrem:Int.tmod n (l.length:Int)=(r:Int):=by
    obtain ⟨k,rfl⟩:∃ k:Nat,n=k:=⟨n.toNat,by omega⟩
    rw [hr,Int.toNat_natCast];exact Int.ofNat_tmod k l.length
   rw [<- hr] at hlt c0 HP;generalize l.getD r 0=u at c0 HP;obtain ⟨m,hm⟩:∃ m,m=l.length:=⟨_,rfl⟩
   rw [<- hm] at hlt hrem h2 hl ⊢;have q2:decide (0 < (m:Int))=true:=decide_eq_true (by omega);have i1:(0:Int) <= r:=by omega
   have i2:(r:Int) < m:=by omega
   have i3:(m:Int) ≠ 0:=by omega
   have i4:((m:Int)==0)=false:=beq_false_of_ne i3;clear hr hm h1 h2 hc;go_enter Tryz.func16,Tryz.ntmps16
   go_wp2_with fail
   go_ret
   exact ⟨congrArg (fun b=>Ending.returned (.int .i64 b)) HP.out.symm,Keeps.refl _ _⟩
 ·have q1:decide (100 <= n)=false:=decide_eq_false h1
  have HP:Hid (pickN n l=n):=by
   show _=_
   unfold pickN;rw [if_neg (fun h=>h1 h.1)]
  clear h1 hc;go_enter Tryz.func16,Tryz.ntmps16
  go_wp2_with fail
  go_ret
  exact ⟨congrArg (fun b=>Ending.returned (.int .i64 b)) HP.out.symm,Keeps.refl _ _⟩
end Go.Proofs.YtnmifekgdkgknaaGreatDoor
