/- Layer N: texts joined. -/
import Derived.Test.YtoapgjjepiopbaaGreatDoorN42
import Derived.Test.YtoapgjjepiopbaaGreatDoorN39
import Derived.Laws.EntriesVeiled
set_option linter.all false
set_option maxHeartbeats 4000000
set_option maxRecDepth 20000
namespace Go.Proofs.YtoapgjjepiopbaaGreatDoor
open Go.RowKit
theorem J178 (P:Prop) (h:P:=by repeat' first | assumption | exact Keeps.refl _ _ | apply Keeps.drewN | apply Keeps.alloc):P:=h
theorem J216 (P:Prop) (h:P:=by repeat' first | exact Keeps.refl _ _ | apply Keeps.drewN | apply Keeps.alloc):P:=h
structure zBI (B:Nat) (w:World) (b n:Nat) (T:List (Int × Int)) (O:List Int):Prop where
 tl:T.length=8
 ol:O.length=8
 low:B <= b
 ex:∃ la lc ba bc xs ys,zC w b (zAf la lc ba bc n T O) /\ w.ownsRow 0 67 5 (.slice la n lc) n xs /\ w.ownsRow 0 322 1 (.slice ba n bc) n ys /\ (∀ g,(Value.slice la n lc).ownBlock=some g -> B <= g /\ g ≠ b /\ (Value.slice ba n bc).ownBlock ≠ some g) /\ ∀ g,(Value.slice ba n bc).ownBlock=some g -> B <= g /\ g ≠ b
theorem zBI.keeps {B b n:Nat} {w w':World} {T:List (Int × Int)} {O:List Int} (h:zBI B w b n T O) {S:Nat -> Prop} (hk:Keeps S w w') (hS:∀ q,B <= q -> ¬ S q):zBI B w' b n T O:=by
 obtain ⟨la,lc,ba,bc,xs,ys,h1,h2,h3,h4,h5⟩:=h.ex;exact ⟨h.tl,h.ol,h.low,la,lc,ba,bc,xs,ys,h1.keeps hk (hS b h.low),zF h2 hk (fun q e=>hS q (h4 q e).1),zF h3 hk (fun q e=>hS q (h5 q e).1),h4,h5⟩
theorem zBI.row {B b n:Nat} {w:World} {T:List (Int × Int)} {O:List Int} (h:zBI B w b n T O):∃ la lc ba bc,zC w b (zAf la lc ba bc n T O):=by
 obtain ⟨la,lc,ba,bc,xs,ys,h1,_⟩:=h.ex;exact ⟨la,lc,ba,bc,h1⟩
def zHO (k:Int) (t o:Nat) (T:List (Int × Int)) (O:List Int):Int :=
 if k=5 then (if O.getD o 0=t then 0 else 2) else if k=6 then (if (T.getD o (0,0)).1=1 then 0 else 4) else if k=7 then (if (T.getD o (0,0)).1=1 then 3 else 0) else 0
section
variable {B b n:Nat} {w:World} {T:List (Int × Int)} {O:List Int}
theorem zH7 (h:zBI B w b n T O) (t:Nat) (ht:t < 8):Calls Tryz.prog 252 #[.pointer (some ⟨b,0,none⟩), .int .i64 t] w fun e w'=>e=.returned (.int .i64 (T.getD t (0,0)).1) /\ Keeps zA w w':=by
 obtain ⟨la,lc,ba,bc,hr⟩:=h.row;have c:=(zCo hr (t:=t) (by rw [h.tl];exact ht)).1;generalize (T.getD t (0,0)).1=s at c ⊢;have i1:(0:Int) <= t:=by omega
 have i2:(t:Int) < 8:=by omega
 have HI:Hid ((0:Int) <= t /\ (t:Int) < 8):=⟨i1,i2⟩;clear h hr ht;go_enter Tryz.func252,Tryz.ntmps252
 go_wp2_with (go_at_call 277;refine (zCw _ _ HI.out).mono ?_;rintro e w5 ⟨rfl,rfl⟩)
 first | go_quiet (fail) | skip
 go_wp2_with fail
 go_ret
 exact ⟨rfl,(J216 _)⟩
theorem zL7 (h:zBI B w b n T O) (t o:Nat) (k:Int) (ho:o < 8) (hk:1 <= k /\ k <= 9):Calls Tryz.prog 268 #[.pointer (some ⟨b,0,none⟩), .int .i64 t, .agg #[.int .i64 k, .int .i64 o]] w fun e w'=>e=.returned (.int .i64 (zHO k t o T O)) /\ Keeps zA w w':=by
 obtain ⟨b1,w1,e1,e2,R1,K1,_⟩:=newRow w [.int .i64 k, .int .i64 o] 138;obtain ⟨la,lc,ba,bc,hr⟩:=h.row;have hr:=hr.keeps K1 (fun h=>h);have c:=(zCo hr (t:=o) (by rw [h.tl];exact ho)).1;have d:=zGn hr h.tl (k:=o) (by rw [h.ol];exact ho);obtain ⟨bv,hbv⟩:=eX (zHO k t o T O);rw [<- hbv];unfold zHO at hbv;generalize (T.getD o (0,0)).1=s at c hbv;generalize O.getD o 0=r at d hbv;have y0:=R1.cell (k:=0) rfl;have y1:=R1.cell (k:=1) rfl;have HK:=Lib.hid K1;have i1:(0:Int) <= o:=by omega
 have i2:(o:Int) < 8:=by omega
 clear h hr ho K1 R1;rcases (show k=1 \/ k=2 \/ k=3 \/ k=4 \/ k=5 \/ k=6 \/ k=7 \/ k=8 \/ k=9 by omega) with rfl | rfl | rfl | rfl | rfl | rfl | rfl | rfl | rfl
 all_goals (
  simp only [Int.reduceEq,if_true,if_false] at hbv;try (by_cases hs:s=1)
  all_goals try (by_cases hq:r=(t:Int))
  all_goals (
   try simp only [hs,hq,if_true,if_false] at hbv
   have HBV:=Lib.hid hbv;try have hs1:(s==1)=false:=beq_false_of_ne hs
   try have hs2:(s != 1)=true:=bne_iff_ne.2 hs
   try have hq2:(r != (t:Int))=true:=bne_iff_ne.2 hq
   clear hbv;try subst hs
   try subst hq
   go_enter Tryz.func268,Tryz.ntmps268
   go_upto_region 1 with fail
   try rw [e1]
   try rw [e2]
   go_quiet (fail)
   go_wp2_with fail
   try (go_quiet (fail);go_wp2_with fail)
   try (go_quiet (fail);go_wp2_with fail)
   go_ret
   exact ⟨by rw [HBV.out];rfl,HK.out.zB (J216 _)⟩))
end
section
variable {B b n:Nat} {w:World} {T:List (Int × Int)} {O:List Int}
theorem zMW (h:zBI B w b n T O) (t o:Nat) (k:Int) (ht:t < 8) (ho:o < 8) (hk:1 <= k /\ k <= 9) (hst:(T.getD t (0,0)).1=2) (HR:Hid (okE ⟨t,k,o,if k=8 then 1 else 0,0⟩)) (h4:k=4 -> O.getD o 0 < 0) (h7:k=7 -> (T.getD o (0,0)).1=1 \/ (T.getD o (0,0)).1=3) :
 Calls Tryz.prog 251 #[.pointer (some ⟨b,0,none⟩), .int .i64 t, .agg #[.int .i64 k, .int .i64 o]] w fun e w'=>e=.returned (.bool true) /\ Keeps zA w w':=by
 obtain ⟨la,lc,ba,bc,hr⟩:=h.row
 have c:∀ W,Keeps zA w W -> W.cell? ⟨b,2+t*2,none⟩=some (.int .i64 2):=by
  have:=(zCo hr (t:=t) (by rw [h.tl];exact ht)).1
  rw [hst] at this;exact zL this
 have d:=zL (zCo hr (t:=o) (by rw [h.tl];exact ho)).1;have f:=zL (zGn hr h.tl (k:=o) (by rw [h.ol];exact ho));generalize (T.getD o (0,0)).1=s at d h7;generalize O.getD o 0=r at f h4;have i1:(0:Int) <= o:=by omega
 have i2:(o:Int) < 8:=by omega
 have i3:(0:Int) <= t:=by omega
 have i4:(t:Int) < 8:=by omega
 clear h hr hst ht ho;go_enter Tryz.func251,Tryz.ntmps251
 go_upto_region 1 with fail
 obtain ⟨b1,w1,e1,e2,R1,K1,s1⟩:=newRow w [.int .i64 k, .int .i64 o] 138;try rw [e1]
 try rw [e2]
 have y0:=R1.cell (k:=0) rfl;have y1:=R1.cell (k:=1) rfl;clear e1 e2;go_upto_region 2 with fail
 obtain ⟨b7,w2,x1,x2,R2,K2,s2⟩:=newRow w1 [.int .i64 t, .int .i64 k, .int .i64 o, .int .i64 0, .int .i64 0] 67;try rw [x1]
 try rw [x2]
 have ya:=(R1.keeps K2 (fun h=>h)).cell (k:=0) rfl;have yb:=(R1.keeps K2 (fun h=>h)).cell (k:=1) rfl;have kk:Keeps zA w w2:=K1.zB K2;have KK:=Lib.hid kk;have H1:Hid (zC w1 b1 [.int .i64 k, .int .i64 o] /\ zC w2 b7 [.int .i64 t, .int .i64 k, .int .i64 o, .int .i64 0, .int .i64 0] /\ b1 ≠ b7):=⟨R1,R2,by have:=s1.out;omega⟩;have H2:Hid (w.heap.size <= b7):=by have:=K1.size;show _ <= _;omega
 have z7:=R2.five;have f7:=zBK R2 3 (by simp);clear x1 x2 y0 y1 s1 s2 K1 K2 R1 R2;by_cases h8:k=8
 ·subst h8
  have k2:=zH w2;go_upto_region 4 with fail
  have RS:zC (w2.setCell ⟨b7,3,none⟩ (.int .i64 1)) b7 [.int .i64 t, .int .i64 8, .int .i64 o, .int .i64 1, .int .i64 0]:=H1.out.2.1.set 3 (by simp) (.int .i64 1);have KS:Keeps (fun q=>q=b7) w2 (w2.setCell ⟨b7,3,none⟩ (.int .i64 1)):=(Keeps.refl (fun q=>q=b7) w2).setCell (p:=⟨b7,3,none⟩) (fun _=>rfl) _;have ya3:=KS.cell (p:=⟨b1,0,none⟩) (fun h=>H1.out.2.2 h) ya;have yb3:=KS.cell (p:=⟨b1,1,none⟩) (fun h=>H1.out.2.2 h) yb;have kk3:Keeps zA w (w2.setCell ⟨b7,3,none⟩ (.int .i64 1)):=KK.out.setCell (p:=⟨b7,3,none⟩) (fun h=>absurd h (by have:=H2.out;show ¬ b7 < _;omega)) _;generalize w2.setCell ⟨b7,3,none⟩ (.int .i64 1)=w3 at RS KS ya3 yb3 kk3 ⊢;have KK:=Lib.hid kk3;have k3:=zH w3;have z3:=RS.five;clear z7 f7 ya yb kk k2 RS KS h4 h7;go_wp2_with (go_at_call 267;refine (zDN ⟨_,_,_,_,_⟩ HR.out _).mono ?_;rintro e w5 ⟨rfl,k5⟩;have q5:=Keeps.zB KK.out k5;have c5:=c w5 q5;have d5:=d w5 q5;have f5:=f w5 q5;have y5:=k5.cell (p:=⟨b1,0,none⟩) (fun h=>h) ya3;have z5:=k5.cell (p:=⟨b1,1,none⟩) (fun h=>h) yb3;clear c d f ya3 yb3 kk3)
  go_ret
  exact ⟨rfl,(J178 _)⟩
 ·rw [if_neg h8] at HR
  have hb8:(k==8)=false:=beq_false_of_ne h8;rcases (show k=1 \/ k=2 \/ k=3 \/ k=4 \/ k=5 \/ k=6 \/ k=7 \/ k=9 by omega) with rfl | rfl | rfl | rfl | rfl | rfl | rfl | rfl
  all_goals (
   clear hk h8;have k2:=zH w2;try have g4:decide (r < 0)=true:=decide_eq_true (h4 rfl)
   clear h4;first
   | (have h7:=h7 rfl
      rcases h7 with rfl | rfl
      all_goals (
       go_wp2_with (go_at_call 267;refine (zDN ⟨_,_,_,_,_⟩ HR.out _).mono ?_;rintro e w5 ⟨rfl,k5⟩;have q5:=Keeps.zB KK.out k5;have c5:=c w5 q5;have d5:=d w5 q5;have f5:=f w5 q5;have y5:=k5.cell (p:=⟨b1,0,none⟩) (fun h=>h) ya;have z5:=k5.cell (p:=⟨b1,1,none⟩) (fun h=>h) yb;clear c d f ya yb kk)
       try (go_quiet (fail);go_wp2_with fail)
       go_ret
       exact ⟨rfl,(J178 _)⟩))
   | (clear h7
      go_wp2_with (go_at_call 267;refine (zDN ⟨_,_,_,_,_⟩ HR.out _).mono ?_;rintro e w5 ⟨rfl,k5⟩;have q5:=Keeps.zB KK.out k5;have c5:=c w5 q5;have d5:=d w5 q5;have f5:=f w5 q5;have y5:=k5.cell (p:=⟨b1,0,none⟩) (fun h=>h) ya;have z5:=k5.cell (p:=⟨b1,1,none⟩) (fun h=>h) yb;clear c d f ya yb kk)
      try (go_quiet (fail);go_wp2_with fail)
      go_ret
      exact ⟨rfl,(J178 _)⟩))
end
theorem zGr {α:Type} {n i:Nat} (a b:α) (hi:i < n):(List.replicate i a++List.replicate (n - i) b).set i a=List.replicate (i+1) a++List.replicate (n - (i+1)) b:=by
 obtain ⟨q,hq⟩:∃ q,n - i=q+1:=⟨n - i - 1,by omega⟩
 rw [List.set_append_right _ _ (by rw [List.length_replicate];exact Nat.le_refl _),List.length_replicate,Nat.sub_self,hq,List.replicate_succ,List.set_cons_zero,show n - (i+1)=q by omega,List.replicate_succ',List.append_assoc];rfl
def T0:List (Int × Int):=(2,-1) :: List.replicate 7 (1,-1)
def O0:List Int:=List.replicate 8 (-1)
theorem zH9 (w:World):Calls Tryz.prog 234 #[] w fun e w'=>∃ b,e=.returned (.pointer (some ⟨b,0,none⟩)) /\ zBI w.heap.size w' b 0 T0 O0 /\ Keeps zA w w':=by
 go_enter Tryz.func234,Tryz.ntmps234
 go_upto_region 2 with fail
 obtain ⟨b,w1,x1,x2,R1,K1,_⟩:=newRow w [.slice none 0 0, .slice none 0 0, .int .i64 0, .int .i64 0, .int .i64 0, .int .i64 0, .int .i64 0, .int .i64 0, .int .i64 0, .int .i64 0, .int .i64 0, .int .i64 0, .int .i64 0, .int .i64 0, .int .i64 0, .int .i64 0, .int .i64 0, .int .i64 0, .int .i64 0, .int .i64 0, .int .i64 0, .int .i64 0, .int .i64 0, .int .i64 0, .int .i64 0, .int .i64 0] 406;try rw [x1]
 try rw [x2]
 have HR1:Hid (zC w1 b (zAf none 0 none 0 0 (List.replicate 0 (1,-1)++List.replicate (8 - 0) (0,0)) (List.replicate 8 0))):=R1;have HK1:Hid (Keeps zA w w1 /\ w.heap.size <= b):=⟨K1,Nat.le_of_eq x1⟩;clear x1 x2 R1 K1;go_wp2_with fail
 go_loopw [6] (fun iv wr=>∃ i:Nat,i <= 8 /\ iv=.int .i64 i /\ Hid (zC wr b (zAf none 0 none 0 0 (List.replicate i (1,-1)++List.replicate (8 - i) (0,0)) (List.replicate 8 0)) /\ Keeps (fun q=>q=b) w1 wr)) (fun iv _=>8 - (intOf iv).toNat)
 case atStart=>exact ⟨0,Nat.zero_le _,rfl,HR1.out,Keeps.refl _ _⟩
 case round =>
  obtain ⟨i,hi,rfl,HI⟩:=hrel;clear HR1;by_cases hlt:i < 8
  ·have hT:(List.replicate i ((1,-1):Int × Int)++List.replicate (8 - i) (0,0)).length=8:=by simp;omega
   have hO:(List.replicate 8 (0:Int)).length=8:=rfl;have f0:wr.frozen? ⟨b,2+i*2,none⟩=false:=zBK HI.out.1 (2+i*2) (by rw [zCB hT hO];omega) wr (Keeps.refl _ _);have f1:wr.frozen? ⟨b,2+i*2+1,none⟩=false:=zBK HI.out.1 (2+i*2+1) (by rw [zCB hT hO];omega) wr (Keeps.refl _ _);obtain ⟨c0,c1⟩:=zCo HI.out.1 (t:=i) (by rw [hT];exact hlt);have h1:=zEy HI.out.1 (t:=i) (by rw [hT];exact hlt) 1;have h2:=zI0 h1 (t:=i) (by rw [List.length_set,hT];exact hlt) (-1)
   have e1:(((List.replicate i ((1,-1):Int × Int)++List.replicate (8 - i) (0,0)).set i (1,((List.replicate i ((1,-1):Int × Int)++List.replicate (8 - i) (0,0)).getD i (0,0)).2)).set i ((((List.replicate i ((1,-1):Int × Int)++List.replicate (8 - i) (0,0)).set i (1,((List.replicate i ((1,-1):Int × Int)++List.replicate (8 - i) (0,0)).getD i (0,0)).2)).getD i (0,0)).1,-1))=List.replicate (i+1) (1,-1)++List.replicate (8 - (i+1)) (0,0):=by
    have hg:∀ (L:List (Int × Int)) q,i < L.length -> (L.set i q).getD i (0,0)=q:=fun L q h=>by simp [List.getD,h]
    rw [hg _ _ (by rw [hT];exact hlt),List.set_set];exact zGr _ _ hlt
   rw [e1] at h2;have H2:=Lib.hid h2;generalize ((List.replicate i ((1,-1):Int × Int)++List.replicate (8 - i) (0,0)).getD i (0,0)).1=z0 at c0;generalize ((List.replicate i ((1,-1):Int × Int)++List.replicate (8 - i) (0,0)).getD i (0,0)).2=z1 at c1;have HK:=Lib.hid HI.out.2;have i1:(0:Int) <= i:=by omega
   have i2:(i:Int) < 8:=by omega
   clear h1 h2 e1 hT hO HI hi;go_wp2_with fail
   exact ⟨⟨i+1,by omega,by go_num,H2.out,(HK.out.setCell (p:=⟨b,2+i*2,none⟩) (fun _=>rfl) _).setCell (p:=⟨b,2+i*2+1,none⟩) (fun _=>rfl) _⟩,by simp [intOf];omega⟩
  ·have hi8:i=8:=by omega
   subst hi8;have HR2:Hid (zC wr b (zAf none 0 none 0 0 (List.replicate 8 (1,-1)) (List.replicate 0 (-1)++List.replicate (8 - 0) 0))):=HI.out.1;have HK2:=Lib.hid HI.out.2;clear hi hlt HI;go_wp2_with fail
   go_loopw [16] (fun iv wq=>∃ i:Nat,i <= 8 /\ iv=.int .i64 i /\ Hid (zC wq b (zAf none 0 none 0 0 (List.replicate 8 (1,-1)) (List.replicate i (-1)++List.replicate (8 - i) 0)) /\ Keeps (fun q=>q=b) w1 wq)) (fun iv _=>8 - (intOf iv).toNat)
   case atStart=>exact ⟨0,Nat.zero_le _,rfl,HR2.out,HK2.out⟩
   case round =>
    obtain ⟨i,hi,rfl,HI⟩:=hrel;clear HR2 HK2;by_cases hlt:i < 8
    ·have hO:(List.replicate i (-1:Int)++List.replicate (8 - i) 0).length=8:=by simp;omega
     have f0:wr.frozen? ⟨b,18+i,none⟩=false:=zBK HI.out.1 (18+i) (by rw [zCB rfl hO];omega) wr (Keeps.refl _ _);have c0:=zGn HI.out.1 rfl (k:=i) (by rw [hO];exact hlt);have h1:=zIt HI.out.1 rfl (k:=i) (by rw [hO];exact hlt) (-1);rw [zGr _ _ hlt] at h1;have H2:=Lib.hid h1;generalize (List.replicate i (-1:Int)++List.replicate (8 - i) 0).getD i 0=z0 at c0;have HK:=Lib.hid HI.out.2;have i1:(0:Int) <= i:=by omega
     have i2:(i:Int) < 8:=by omega
     clear h1 hO HI hi;go_wp2_with fail
     exact ⟨⟨i+1,by omega,by go_num,H2.out,HK.out.setCell (p:=⟨b,18+i,none⟩) (fun _=>rfl) _⟩,by simp [intOf];omega⟩
    ·have hi8:i=8:=by omega
     subst hi8;have HR3:zC wr b (zAf none 0 none 0 0 (List.replicate 8 (1,-1)) (List.replicate 8 (-1))):=HI.out.1;have f0:wr.frozen? ⟨b,2,none⟩=false:=zBK HR3 2 (by decide) wr (Keeps.refl _ _);have c0:wr.cell? ⟨b,2,none⟩=some (.int .i64 1):=(zCo HR3 (t:=0) (by decide)).1;have H4:Hid (zC (wr.setCell ⟨b,2,none⟩ (.int .i64 2)) b (zAf none 0 none 0 0 T0 O0)):=zEy HR3 (t:=0) (by decide) 2;have HK:=Lib.hid HI.out.2;clear hi hlt HI HR3;go_wp2_with fail
     go_ret
     refine ⟨b,rfl,⟨rfl,rfl,HK1.out.2,none,0,none,0,[],[],H4.out,World.ownsRow_nil _ _ _ _,World.ownsRow_nil _ _ _ _,fun g e=>by exact J152 _,fun g e=>by exact J152 _⟩,?_⟩
     exact HK1.out.1.trans (HK.out.setCell (p:=⟨b,2,none⟩) (fun _=>rfl) _) (fun q hq e=>by have e':q=b:=e;have:=HK1.out.2;omega)
theorem zC.cellW {w:World} {g:Nat} {cs:List Value} (r:zC w g cs) {k:Nat} {v:Value} (h:cs[k]?=some v):∀ W,Keeps zA w W -> W.cell? ⟨g,k,none⟩=some v:=zL (r.cell h)
theorem zAa.src {w:World} {v:Value} {xs:List Int} (h:zAa w v xs):zU w v xs.length (ints xs):=by
 obtain ⟨ad,cap,rfl,h1,h2⟩:=h;refine ⟨ad,cap,rfl,fun hn=>?_⟩
 cases ad with
 | none=>rw [h1 rfl] at hn;exact absurd rfl hn
 | some a =>
   obtain ⟨g,o,s⟩:=a;obtain ⟨rfl,hc⟩:=h2 g o s rfl;refine ⟨g,o,rfl,fun j v hj=>?_⟩
   have hj':j < xs.length:=by
    have:=(List.getElem?_eq_some_iff.1 hj).1
    rwa [zCX] at this
   rw [zCd xs j hj'] at hj;cases hj;exact hc j hj'
theorem zPB (w:World) (b:Nat) (v:Value) (h:zP w b v []):Calls Tryz.prog 80 #[(.pointer (some ⟨b,0,none⟩))] w fun e w'=>∃ v,e=.returned v /\ zU w' v 61 (ints (List.replicate 61 (18:Int))) /\ Keeps zA w w':=by
 have hv:v=.slice none 0 0 \/ ∃ g cap,v=.slice (some ⟨g,0,none⟩) 0 cap:=by
  rcases h.shape with ⟨e,_⟩ | ⟨g,cap,e,_⟩
  ·exact .inl e
  ·exact .inr ⟨g,cap,e⟩
 obtain ⟨ad,cap,hv⟩:∃ ad cap,v=.slice ad 0 cap:=by
  rcases hv with e | ⟨g,cap,e⟩
  ·exact ⟨_,_,e⟩
  ·exact ⟨_,_,e⟩
 have y:=zL h.cell0;rw [hv] at y;have k0:=zH w;clear h hv;go_enter Tryz.func80,Tryz.ntmps80
 go_upto_region 2 with (go_at_call 131;obtain ⟨g,w1,e1,e2,R1,K1,_⟩:=newRow w [.int .i64 18] 3;rw [e1,e2];have HK1:=Lib.hid K1;have HR1:=Lib.hid (R1.cell (k:=0) rfl);clear e1 e2 R1 K1 k0;refine (zII g 61 18 (by decide) w1 HR1.out).mono ?_;rintro e w2 ⟨e3,h1,h2⟩;simp only [List.length_replicate] at e3;subst e3;have HB1:=Lib.hid h1;have HB2:=Lib.hid h2;clear h1 h2;have y2:w2.cell? ⟨b,0,none⟩=some (.slice ad 0 cap):=(HB2.out.cell (World.block_lt_of_cell? w1 _ (y w1 HK1.out))).trans (y w1 HK1.out))
 go_wp2_with fail
 refine wp_loop_rounds 1 ?_
 rw [rounds_succ];go_wp2_with fail
 go_ret
 have r:=zC.zG HB1.out;exact ⟨_,rfl,zC.src r,(HK1.out.zB (Keeps.zBv HB2.out _))⟩
theorem zNo (w:World):Calls Tryz.prog 38 #[.slice none 0 0] w fun e w'=>e=.returned (.slice none 0 0) /\ w=w':=by
 go_enter Tryz.func38,Tryz.ntmps38
 go_wp2_with fail
 refine wp_loop_rounds 1 ?_
 rw [rounds_succ];exact J125 _
theorem zOO (w:World):Calls Tryz.prog 40 #[.slice none 0 0] w fun e w'=>∃ v,e=.returned v /\ zU w' v 61 (ints (List.replicate 61 (18:Int))) /\ Keeps zA w w':=by
 obtain ⟨i0,hi0,hz0,hz1,hz2⟩:=info_parts zA8;go_enter Tryz.func40,Tryz.ntmps40
 go_upto_region 2 with (at_make;refine wpList_make_full _ rfl _ _ _ rfl 0 3 i0 _ 1 Tryz.underlying22 hi0 hz0 hz1 _ _ _ _ 61 (by rfl) (by rfl) rfl rfl (by rw [hz2];omega) (by unfold maxLen;omega) (Nat.zero_le _) ?_;intro w1 hown hgr;have HO:=Lib.hid hown;have HGR:=Lib.hid hgr;clear hown hgr)
 have HK1:Hid (Keeps zA w w1):=(Keeps.refl zA w).grown HGR.out (by simp)
 have HR1:Hid (zC w1 w.heap.size (ints (List.replicate 61 (0:Int)))):=by
  have h:=HO.out;simp only [Value.cells] at h;rw [toList_madeCells_one] at h;have h2:=zC.zAM h;show zC _ _ _
  simpa [ints] using h2
 obtain ⟨g,hg⟩:=eX w.heap.size;have HG:=Lib.hid hg;rw [<- hg] at HR1 ⊢;clear HO HGR hg;go_wp2_with fail
 go_loopw [4] (fun iv wr=>∃ i:Nat,i <= 61 /\ iv=.int .i64 i /\ Hid (zC wr g (ints (List.replicate i (18:Int)++List.replicate (61 - i) (0:Int))) /\ Keeps (fun q=>q=g) w1 wr)) (fun iv _=>61 - (intOf iv).toNat)
 case atStart=>exact ⟨0,by decide,rfl,HR1.out,Keeps.refl _ _⟩
 case round =>
  obtain ⟨i,hi,rfl,HP⟩:=hrel;by_cases hlt:i < 61
  ·have i1:(0:Int) <= i:=by omega
   have i2:(i:Int) < 61:=by omega
   have hl:i < (ints (List.replicate i (18:Int)++List.replicate (61 - i) (0:Int))).length:=by simp [ints];omega
   have c0:=HP.out.1.cell (k:=i) (List.getElem?_eq_getElem hl);have f0:=HP.out.1.free (k:=i) hl;generalize (ints (List.replicate i (18:Int)++List.replicate (61 - i) (0:Int)))[i]=u0 at c0;go_wp2_with fail
   have hrow:=HP.out.1.set i hl (.int .i64 18);rw [ints_set,zGr _ _ hlt] at hrow;exact ⟨⟨i+1,by omega,by go_num,hrow,HP.out.2.setCell (p:=⟨g,i,none⟩) (fun _=>rfl) _⟩,by simp [intOf];omega⟩
  ·obtain rfl:i=61:=by omega
   go_wp2_with fail
   go_ret
   have h1:=HP.out.1;rw [Nat.sub_self,List.replicate_zero,List.append_nil] at h1;exact ⟨_,rfl,zC.src h1,HK1.out.trans HP.out.2 (fun q hq e=>by have e':q=g:=e;have:=HG.out;omega)⟩
def zNS:List (List UInt8 × List UInt8) :=
 [([],[]),
  ([99,111,110,115,116],[82,78]),
  ([109,111,118,101],[82,82]),
  ([110,101,103],[82,82]),
  ([110,111,116],[82,82]),
  ([97,100,100],[82,82,82]),
  ([115,117,98],[82,82,82]),
  ([109,117,108],[82,82,82]),
  ([100,105,118],[82,82,82]),
  ([114,101,109],[82,82,82]),
  ([101,113],[82,82,82]),
  ([110,101],[82,82,82]),
  ([108,116],[82,82,82]),
  ([108,101],[82,82,82]),
  ([103,116],[82,82,82]),
  ([103,101],[82,82,82]),
  ([97,110,100],[82,82,82]),
  ([111,114],[82,82,82]),
  ([106,117,109,112],[73]),
  ([117,110,108,101,115,115],[82,73]),
  ([97,103,97,105,110],[82,73]),
  ([114,101,97,100],[82,99]),
  ([119,114,105,116,101],[99,82]),
  ([102,101,116,99,104],[82,99,82]),
  ([108,111,99,107],[109]),
  ([117,110,108,111,99,107],[109]),
  ([115,116,97,114,116],[116]),
  ([106,111,105,110],[116]),
  ([97,115,115,101,114,116],[82]),
  ([101,110,100],[])]
def zKL (l:List UInt8):Value:=.string ⟨l.toArray⟩
def zPd (p:List UInt8 × List UInt8):List Value:=[zKL p.1,zKL p.2]
def zD8:List Value:=zNS.flatMap zPd
theorem zFT (w:World) :
 Calls Tryz.prog 242 #[] w fun e w'=>e=.returned (.slice (some ⟨w.heap.size,0,none⟩) 30 30) /\ w'=w.alloc (.cells zD8.toArray 379):=by
 go_enter Tryz.func242,Tryz.ntmps242
 go_wp2_with fail
 go_ret
 exact ⟨rfl,rfl⟩
theorem zKl:zD8[58]?=some (zKL [101,110,100]) /\ zD8[59]?=some (zKL []):=⟨by kernel_rfl,by kernel_rfl⟩
structure zC1 (w:World) (gt ot gI:Nat):Prop where
 t0:w.cell? ⟨gt,ot,none⟩=some (.int .i64 0)
 t1:w.cell? ⟨gt,ot+1,none⟩=some (.slice (some ⟨gI,0,none⟩) 1 1)
 i0:w.cell? ⟨gI,0,none⟩=some (.int .i64 29)
 i1:w.cell? ⟨gI,1,none⟩=some (.int .i64 0)
 i2:w.cell? ⟨gI,2,none⟩=some (.int .i64 0)
 i3:w.cell? ⟨gI,3,none⟩=some (.int .i64 0)
theorem zC1.keeps {S:Nat -> Prop} {w w':World} {gt ot gI:Nat} (h:zC1 w gt ot gI) (hk:Keeps S w w') (h1:¬ S gt) (h2:¬ S gI):zC1 w' gt ot gI :=
 ⟨hk.cell (p:=⟨gt,_,none⟩) h1 h.t0,hk.cell (p:=⟨gt,_,none⟩) h1 h.t1,hk.cell (p:=⟨gI,_,none⟩) h2 h.i0,hk.cell (p:=⟨gI,_,none⟩) h2 h.i1,hk.cell (p:=⟨gI,_,none⟩) h2 h.i2,hk.cell (p:=⟨gI,_,none⟩) h2 h.i3⟩
theorem zC1.zD {w w':World} {gt ot gI:Nat} (h:zC1 w gt ot gI) (hk:Keeps zA w w'):zC1 w' gt ot gI:=h.keeps hk (fun h=>h) (fun h=>h)
theorem zC1.all {w:World} {gt ot gI:Nat} (h:zC1 w gt ot gI):∀ W,Keeps zA w W -> W.cell? ⟨gt,ot,none⟩=some (.int .i64 0) /\ W.cell? ⟨gt,ot+1,none⟩=some (.slice (some ⟨gI,0,none⟩) 1 1) /\ W.cell? ⟨gI,0,none⟩=some (.int .i64 29) /\ W.cell? ⟨gI,1,none⟩=some (.int .i64 0) /\ W.cell? ⟨gI,2,none⟩=some (.int .i64 0) /\ W.cell? ⟨gI,3,none⟩=some (.int .i64 0):=fun W q=>by
 obtain ⟨a,b,c,d,e,f⟩:=h.zD q;exact ⟨a,b,c,d,e,f⟩
theorem zPA (w:World) (ca:Option Addr) (cc gt ot tc gI:Nat):Calls Tryz.prog 209 #[.agg #[.slice ca 0 cc, .int .i64 0, .slice (some ⟨gt,ot,none⟩) 1 tc], .agg #[.int .i64 0, .slice (some ⟨gI,0,none⟩) 1 1], .agg #[.int .i64 29, .int .i64 0, .int .i64 0, .int .i64 0]] w fun e w'=>e=.returned (.bool true) /\ Keeps zA w w':=by
 go_enter Tryz.func209,Tryz.ntmps209
 go_upto_region 1 with fail
 obtain ⟨b1,w1,e1,e2,R1,K1,S1⟩:=newRow w [.slice ca 0 cc, .int .i64 0, .slice (some ⟨gt,ot,none⟩) 1 tc] 78;rw [e1,e2];obtain ⟨b2,w2,e3,e4,R2,K2,S2⟩:=newRow w1 [.int .i64 0, .slice (some ⟨gI,0,none⟩) 1 1] 161;rw [<- S1.out,e3,e4];obtain ⟨b3,w3,e5,e6,R3,K3,_⟩:=newRow w2 [.int .i64 29, .int .i64 0, .int .i64 0, .int .i64 0] 158;rw [<- S2.out,e5,e6];have HK3:Hid (Keeps zA w w3):=(K1.zB K2).zB K3;have HR3:=Lib.hid R3;clear e1 e2 e3 e4 e5 e6 R1 R2 K1 K2 K3 S1 S2 R3;go_upto_region 2 with (go_at_call 242;refine (zFT _).mono ?_;rintro e w' ⟨rfl,rfl⟩)
 obtain ⟨bo,w4,e1,e2,R4,K4,_⟩:=newRow w3 zD8 379;rw [e1,e2];have y:=(HR3.out.keeps K4 (fun h=>h)).zAh;have o0:=zL (R4.cell (k:=58) zKl.1);have o1:=zL (R4.cell (k:=59) zKl.2);have k4:=zH w4;have HK4:Hid (Keeps zA w w4):=HK3.out.zB K4;clear e1 e2 R4 K4;unfold zKL at o0 o1;go_upto_region 6 with fail
 obtain ⟨b5,w5,e1,e2,R5,K5,_⟩:=newRow w4 [.int .i64 0, .int .i64 0, .int .i64 0] 3;try rw [e1]
 try rw [e2]
 have z:=R5.zAo;have k5:=zH w5;have HK5:Hid (Keeps zA w w5):=HK4.out.zB K5;clear e1 e2 R5 K5 y o0 o1 k4;go_wp2_with fail
 refine wp_loop_rounds 4 ?_
 rw [rounds_succ];go_wp2_with fail
 rw [rounds_succ];go_wp2_with fail
 rw [rounds_succ];go_wp2_with fail
 rw [rounds_succ];go_wp2_with fail
 go_ret
 exact ⟨rfl,HK5.out⟩
theorem zNc (w:World) (ca:Option Addr) (cc gt ot tc gI:Nat) (h:zC1 w gt ot gI):Calls Tryz.prog 174 #[.agg #[.slice ca 0 cc, .int .i64 0, .slice (some ⟨gt,ot,none⟩) 1 tc]] w fun e w'=>e=.returned (.bool true) /\ Keeps zA w w':=by
 have HI:=Lib.hid h;clear h;go_enter Tryz.func174,Tryz.ntmps174
 go_upto_region 1 with fail
 obtain ⟨b1,w1,e1,e2,R1,K1,_⟩:=newRow w [.slice ca 0 cc, .int .i64 0, .slice (some ⟨gt,ot,none⟩) 1 tc] 78;rw [e1,e2];have y:=R1.zAo;have t:=(HI.out.zD K1).all;have k1:=zH w1;have HR1:=Lib.hid R1;have HK1:=Lib.hid K1;clear e1 e2 R1 K1;go_wp2_with fail
 refine wp_loop_rounds 1 ?_
 rw [rounds_succ];go_wp2_with fail
 refine wp_loop_rounds 2 ?_
 rw [rounds_succ];go_upto_region 12 with fail
 obtain ⟨b2,w2,e1,e2,R2,K2,_⟩:=newRow w1 [.int .i64 0, .slice (some ⟨gI,0,none⟩) 1 1] 161;rw [e1,e2];have HK2:Hid (Keeps zA w w2):=HK1.out.zB K2;have HR12:=Lib.hid (HR1.out.keeps K2 (fun h=>h));have HR2:=Lib.hid R2;clear e1 e2 R2 K2 y t k1 HR1 HK1;have y:=HR12.out.zAo;have t:=(HI.out.zD HK2.out).all;have u:=HR2.out.all2;have k2:=zH w2;go_wp2_with fail
 refine wp_loop_rounds 2 ?_
 rw [rounds_succ];go_upto_region 21 with fail
 obtain ⟨b3,w3,e1,e2,R3,K3,_⟩:=newRow w2 [.int .i64 29, .int .i64 0, .int .i64 0, .int .i64 0] 158;rw [e1,e2];have HK3:Hid (Keeps zA w w3):=HK2.out.zB K3;have y3:=(HR12.out.keeps K3 (fun h=>h)).zAo;have u3:=(HR2.out.keeps K3 (fun h=>h)).all2;have z3:=R3.zAh;have k3:=zH w3;clear e1 e2 R3 K3 y t u k2;go_upto_region 22 with (go_at_call 209;refine (zPA _ ca cc gt ot tc gI).mono ?_;rintro e w4 ⟨rfl,g4⟩;have HK4:Hid (Keeps zA w w4):=HK3.out.zB g4;clear g4 y3 u3 z3 k3)
 go_wp2_with fail
 rw [rounds_succ];go_wp2_with fail
 rw [rounds_succ];go_wp2_with fail
 go_ret
 exact ⟨rfl,HK4.out⟩
end Go.Proofs.YtoapgjjepiopbaaGreatDoor
