/- Layer N: texts joined. -/
import Derived.Test.YtoapgjjepiopbaaGreatDoorN43
set_option linter.all false
set_option maxHeartbeats 8000000
set_option maxRecDepth 8000
namespace Go.Proofs.YtoapgjjepiopbaaGreatDoor
open Go.RowKit
theorem J95 (P:Prop) (h:P:=by
 clear hd;go_wp2_with fail
 exact hK _ _ ((Keeps.refl _ _).alloc _) (by show ∃ q,_;exact ⟨_,rfl,zC.zG (heap_alloc_new W _)⟩)):P:=h
theorem J167 (P:Prop) (h:P:=by repeat' first | assumption | exact Keeps.refl _ _ | apply Keeps.drew | apply Keeps.drewN | apply Keeps.alloc):P:=h
def zOe (x:Evt):Evt:=⟨x.thread,x.kind,x.obj,if x.kind=8 then 1 else 0,0⟩
theorem okE.can {x:Evt} (h:okE x):okE (zOe x):=by
 obtain ⟨h1,h2,h3⟩:=h;refine ⟨h1,h2,?_⟩
 unfold zOe;simp only
 rcases h3 with ⟨h,_⟩ | ⟨h,_⟩ | ⟨h,_⟩ | ⟨h,_⟩ | ⟨h,_⟩ | ⟨h,ho,_⟩ | ⟨h,ho,_⟩
 ·exact .inl ⟨h,(by trivial)⟩
 ·rw [if_neg (by omega)];exact .inr (.inl ⟨h,(by trivial),(by trivial)⟩)
 ·rw [if_neg (by omega)];exact .inr (.inr (.inl ⟨h,(by trivial), .inl (by trivial)⟩))
 ·rw [if_neg (by omega)];exact .inr (.inr (.inr (.inl ⟨h,(by trivial), .inl (by trivial)⟩)))
 ·rw [if_neg (by omega)];exact .inr (.inr (.inr (.inr (.inl ⟨h,(by trivial), .inl (by trivial)⟩))))
 ·rw [if_pos h];exact .inr (.inr (.inr (.inr (.inr (.inl ⟨h,ho, .inr ⟨by decide,(by trivial)⟩⟩)))))
 ·rw [if_neg (by omega)];exact .inr (.inr (.inr (.inr (.inr (.inr ⟨h,ho,(by trivial),(by trivial)⟩)))))
theorem zMD:(Tryz.prog.info? 322).map (fun i=>(i.zero,i.size,i.bytes))=some (some .nilIface,1,16):=by kernel_rfl
structure zG7 (T:List (Int × Int)) (O:List Int) (x:Evt):Prop where
 ok:okE x
 st:(T.getD x.thread.toNat (0,0)).1=2
 lock:x.kind=4 -> O.getD x.obj.toNat 0 < 0
 join:x.kind=7 -> (T.getD x.obj.toNat (0,0)).1=1 \/ (T.getD x.obj.toNat (0,0)).1=3
 bad:x.kind ≠ 8 -> x.bad=zHO x.kind x.thread.toNat x.obj.toNat T O
def zLe (n:Nat) (T:List (Int × Int)) (O:List Int) (t k o bd:Int):List (Int × Int) × List Int :=
 let T1:=T.set t.toNat ((T.getD t.toNat (0,0)).1,n)
 if bd ≠ 0 then (T1.set t.toNat (4,(T1.getD t.toNat (0,0)).2),O) else if k=4 then (T1,O.set o.toNat t) else if k=5 then (T1,O.set o.toNat (-1))
 else if k=6 then (T1.set o.toNat (2,(T1.getD o.toNat (0,0)).2),O) else if k=9 then (T1.set t.toNat (3,(T1.getD t.toNat (0,0)).2),O) else (T1,O)
section
variable {B b n:Nat} {w:World} {T:List (Int × Int)} {O:List Int}
theorem zMq (h:zBI B w b n T O) (t o:Nat) (k v bd:Int) (hx:zG7 T O ⟨t,k,o,v,bd⟩) (hn:n <= 1000) :
 Calls Tryz.prog 235 #[.pointer (some ⟨b,0,none⟩), .agg #[.int .i64 t, .int .i64 k, .int .i64 o, .int .i64 v, .int .i64 bd]] w fun e w'=>e=.returned (.int .i64 0) /\ zBI B w' b (n+1) (zLe n T O t k o bd).1 (zLe n T O t k o bd).2 /\ Keeps (fun q=>B <= q) w w':=by
 obtain ⟨T2,hT2⟩:=eX (zLe n T O t k o bd);rw [<- hT2];have HT2:=Lib.hid hT2;clear hT2;have ht:t < 8:=by have:=hx.ok.1;simp only at this;omega
 have ho:o < 8:=by have:=hx.ok.2.1;simp only at this;omega
 have hk:1 <= k /\ k <= 9:=by have:=hx.ok.2.2;simp only at this;omega
 have HRI:Hid (∀ W,Calls Tryz.prog 267 #[.agg #[.int .i64 t, .int .i64 k, .int .i64 o, .int .i64 v, .int .i64 bd]] W fun e w'=>e=.returned (.bool true) /\ Keeps zA W w'):=fun W=>zDN ⟨t,k,o,v,bd⟩ hx.ok W
 have HLG:Hid (∀ W,Keeps zA w W -> zBI B W b n T O):=fun W q=>h.keeps q (fun _ _ h=>h)
 have HCA:Hid (∀ W,Keeps zA w W -> Calls Tryz.prog 251 #[.pointer (some ⟨b,0,none⟩), .int .i64 t, .agg #[.int .i64 k, .int .i64 o]] W fun e w'=>e=.returned (.bool true) /\ Keeps zA W w'):=fun W q=>zMW (HLG.out W q) t o k ht ho hk hx.st hx.ok.can hx.lock hx.join
 have HBA:Hid (∀ W,Keeps zA w W -> Calls Tryz.prog 268 #[.pointer (some ⟨b,0,none⟩), .int .i64 t, .agg #[.int .i64 k, .int .i64 o]] W fun e w'=>e=.returned (.int .i64 (zHO k t o T O)) /\ Keeps zA W w'):=fun W q=>zL7 (HLG.out W q) t o k ho hk
 have HBV:Hid (k ≠ 8 -> zHO k t o T O=bd):=fun e=>(hx.bad e).symm
 generalize zHO k t o T O=bv at HBA HBV;obtain ⟨la,lc,ba,bc,xs,ys,hrow,how,hob,hsa,hsb⟩:=h.ex;have HROW:=Lib.hid hrow;have HOW:=Lib.hid how;have HOB:=Lib.hid hob;have HLT:Hid ((∀ q,(Value.slice la n lc).ownBlock=some q -> q < w.heap.size) /\ (∀ q,(Value.slice ba n bc).ownBlock=some q -> q < w.heap.size) /\ b < w.heap.size):=⟨fun q e=>zS how e,fun q e=>zS hob e,hrow.lt (by unfold zAf;simp)⟩;have HSA:=Lib.hid hsa;have HSB:=Lib.hid hsb;have HTO:Hid (T.length=8 /\ O.length=8 /\ B <= b):=⟨h.tl,h.ol,h.low⟩;clear h hx hrow how hob hsa hsb;go_enter Tryz.func235,Tryz.ntmps235
 go_upto_region 1 with fail
 obtain ⟨b3,w1,e1,e2,R1,K1,s1⟩:=newRow w [.int .i64 t, .int .i64 k, .int .i64 o, .int .i64 v, .int .i64 bd] 67;try rw [e1]
 try rw [e2]
 have y:=R1.five;have k1:=zH w1;have HK1:=Lib.hid K1;have HR1:=Lib.hid R1;have HB3:Hid (w.heap.size <= b3):=Nat.le_of_eq e1;clear e1 e2 K1 R1 s1;go_upto_region 4 with (go_at_call 267;refine (HRI.out _).mono ?_;rintro e w2 ⟨rfl,k2⟩;have HK2:=Lib.hid k2)
 obtain ⟨b5,w3,x1,x2,R3,K3,s3⟩:=newRow w2 [.int .i64 k, .int .i64 o] 138;try rw [x1]
 try rw [x2]
 have z0:=zL (R3.cell (k:=0) rfl);have z1:=zL (R3.cell (k:=1) rfl);have HKW3:=Lib.hid (HK1.out.zB (HK2.out.zB K3));have HK13:=Lib.hid (HK2.out.zB K3);have y3:=fun W (q:Keeps zA w3 W)=>y W (HK13.out.zB q)
 have k3:=zH w3;clear x1 x2 R3 K3 s3 k1 k2 y HRI;by_cases h8:k=8
 rotate_left
 focus (
  have hb8:(k != 8)=true:=bne_iff_ne.2 h8;have hbv:=HBV.out h8;rw [hbv] at HBA;go_region_held3 (fun w'=>Keeps zA w3 w') (first | assumption | repeat' first | assumption | exact Keeps.refl _ _ | apply Keeps.drew | apply Keeps.drewN | apply Keeps.alloc) (first | (go_at_call 251;refine (HCA.out _ (HKW3.out.zB (J167 _))).mono ?_;rintro e w5 ⟨rfl,k5⟩;have q5:=Keeps.zB (a:=w3) (J167 _) k5) | (go_at_call 268;refine (HBA.out _ (HKW3.out.zB (J167 _))).mono ?_;rintro e w6 ⟨rfl,k6⟩;have q6:=Keeps.zB (a:=w3) (J167 _) k6))
  have HQ3:=Lib.hid q6;clear k5 q5 k6 q6 hbv)
 rotate_left
 focus (
  have hb8:(k != 8)=false:=by rw [h8];rfl
  have H8:=Lib.hid h8;clear h8;refine zAs 20 (by kernel_rfl) [some (.pointer (some ⟨b,0,none⟩)),some (.pointer (some ⟨b3,0,none⟩)),some (.int .i64 t),some (.agg #[.int .i64 k, .int .i64 o]),some (.bool true),some (.bool false),some (.bool false),some (.pointer (some ⟨b3,1,none⟩)),some (.int .i64 k),some (.bool false),some (.bool false),none,none,none,none,none,none,none,none,some (.bool false)] rfl (fun _ _ _=>True) (fun _ _ _ _ _ _=>trivial) ?_ ?_
  ·refine ⟨?_,?_,?_,?_,?_,?_,?_,?_,?_,?_,?_,?_,?_,?_,?_,?_,?_,?_,?_,?_,trivial⟩ <;> (intro vs gs W Q' hR hd hK;have HRW:Keeps zA w3 W:=((zH w3).drew).zB hR;have u:=y3 W HRW;simp only [zA1,zAg,zBQ,zJ,tz,Option.bind,Act.put] at hd hK ⊢;try simp only [hd] at hK ⊢)
   all_goals try (try clear hd;go_wp2_with (go_at_call 251;refine (HCA.out _ (HKW3.out.zB HRW)).mono ?_;rintro e w5 ⟨rfl,k5⟩);first | exact hK _ _ (Keeps.refl _ _) rfl | exact hK _ _ (by assumption) rfl | exact hK _ _ (Keeps.refl _ _) trivial)
  intro vs w6 hR hFF
  have HRW:Keeps zA w3 w6:=((zH w3).drew).zB hR;have e4:vs 5=_:=hFF 5 (by decide);have e6:vs 6=_:=hFF 6 (by decide);have e19:vs 19=_:=hFF 19 (by decide);simp only [zJ,List.getElem?_cons_zero,List.getElem?_cons_succ,Option.bind_some,Option.bind,Act.put,List.setIfInBounds_toArray,List.set_cons_zero,List.set_cons_succ,List.drop_succ_cons,List.drop_zero];rw [e6,e19];clear hFF e4 e6 e19 hR;generalize vs 0=v0;generalize vs 1=v1;generalize vs 2=v2;generalize vs 3=v3;generalize vs 4=v4;generalize vs 5=v5;generalize vs 7=v7;generalize vs 8=v8;generalize vs 9=v9;generalize vs 10=v10;generalize vs 11=v11;generalize vs 12=v12;generalize vs 13=v13;generalize vs 14=v14;generalize vs 15=v15;generalize vs 16=v16;generalize vs 17=v17;generalize vs 18=v18;have HQ3:=Lib.hid HRW;clear HRW)
 all_goals (
  try clear h8
  clear hb8;have HKW:=Lib.hid (HKW3.out.zB HQ3.out);have y6:=fun W (q:Keeps zA w6 W)=>y3 W (HQ3.out.zB q)
  have c0:∀ W,Keeps zA w6 W -> W.cell? ⟨b,0,none⟩=some (.slice la n lc):=zL ((HROW.out.keeps HKW.out (fun h=>h)).cell (k:=0) rfl)
  have k6:=zH w6;clear HCA HBA HBV z0 z1 y3 k3 HLG;go_upto_region 6 with fail
  refine zCG 7 0 (by kernel_rfl) [some (.pointer (some ⟨b,0,none⟩)),some (.pointer (some ⟨b,0,none⟩)),some (.pointer (some ⟨b,0,none⟩)),some (.pointer (some ⟨b,0,none⟩)),some (.slice la n lc),some (.agg #[.int .i64 t, .int .i64 k, .int .i64 o, .int .i64 v, .int .i64 bd]),none] rfl (fun _ z W=>∃ q,z=.slice (some ⟨q,0,none⟩) 1 1 /\ zC W q [.int .i64 t, .int .i64 k, .int .i64 o, .int .i64 v, .int .i64 bd]) (fun _ z W W' h hk=>by obtain ⟨q,e,h1⟩:=h;exact ⟨q,e,h1.keeps hk (fun h=>h)⟩) _ rfl (fun _ _ _ _ h=>h) _ rfl (fun _ _ _=>by exact J156 _) ?_ ?_
  ·refine ⟨?_,?_,?_,?_,?_,?_,?_,trivial⟩ <;> (intro vs gs W Q' hR hd hK;have HRW:Keeps zA w6 W:=((zH w6).drew).zB hR;have u:=y6 W HRW;have v0:=c0 W HRW;simp only [zA1,zAg,zBQ,zJ,tz,Option.bind,Act.put] at hd hK ⊢;try simp only [hd] at hK ⊢)
   all_goals try (try clear hd;go_wp2_with (fail);first | exact hK _ _ (Keeps.refl _ _) rfl)
   ·exact J95 _
  ·intro vs W hR hFF
   have HRW:Keeps zA w6 W:=((zH w6).drew).zB hR;have e0:vs 0=_:=hFF 0 (by decide);have e4:vs 4=_:=hFF 4 (by decide);obtain ⟨q6,e6,hr6⟩:∃ q,vs 6=.slice (some ⟨q,0,none⟩) 1 1 /\ zC W q [.int .i64 t, .int .i64 k, .int .i64 o, .int .i64 v, .int .i64 bd]:=hFF 6 (by decide)
   simp only [zJ,List.getElem?_cons_zero,List.getElem?_cons_succ,Option.bind_some,Option.bind,Act.put,List.setIfInBounds_toArray,List.set_cons_zero,List.set_cons_succ,List.drop_succ_cons,List.drop_zero];rw [e0,e4,e6];generalize vs 1=v1;generalize vs 2=v2;generalize vs 3=v3;generalize vs 5=v5;have HR6:=Lib.hid hr6;have HWW:=Lib.hid (HKW.out.zB HRW);have HY:=Lib.hid (HR1.out.keeps (HK13.out.zB (HQ3.out.zB HRW)) (fun h=>h));obtain ⟨j0,hj0,jy0,jy1,jy2⟩:=info_parts zKg;clear hFF e0 e4 e6 hr6 hR HRW y6 c0 k6;go_upto_region 7 with (at_builtin;refine zI _ (by rfl) _ _ 31 (by rfl) 0 67 j0 _ 5 40 Tryz.underlying31 hj0 jy0 jy1 jy2 rfl (by decide) (.slice la n lc) n xs (by rfl) (zF HOW.out HWW.out (fun _ _ h=>h)) (.slice (some ⟨q6,0,none⟩) 1 1) 1 [.int .i64 t, .int .i64 k, .int .i64 o, .int .i64 v, .int .i64 bd] (by rfl) (zC.src HR6.out) rfl (by simp [Value.oneCell']) (by unfold maxLen;omega) (by omega) (Nat.zero_le _) ?_;intro ad9 cap9 w7 ha;have HAO:=Lib.hid ha;have k7:=zi.keeps ha (Keeps.refl (fun q=>(Value.slice la n lc).ownBlock=some q) W) (fun q e _=>e);have r7:=(HROW.out.keeps HWW.out (fun h=>h)).keeps k7 (fun e=>(HSA.out b e).2.1 rfl);have HR7:=Lib.hid r7;have HK7:=Lib.hid k7;have c70:=zL (r7.cell (k:=0) rfl);have f70:=zBK r7 0 (by unfold zAf;simp);have k77:=zH w7;clear ha k7 r7)
   have R8:zC (w7.setCell ⟨b,0,none⟩ (.slice ad9 (n+1) cap9)) b (.slice ad9 (n+1) cap9 :: .slice ba n bc :: (T.flatMap zBZ++ints O)):=HR7.out.set 0 (by unfold zAf;simp) _;have K8:Keeps (fun q=>q=b) w7 (w7.setCell ⟨b,0,none⟩ (.slice ad9 (n+1) cap9)):=(Keeps.refl (fun q=>q=b) w7).setCell (p:=⟨b,0,none⟩) (fun _=>rfl) _;generalize w7.setCell ⟨b,0,none⟩ (.slice ad9 (n+1) cap9)=w8 at R8 K8 ⊢
   have HN8:Hid (∀ q,(Value.slice ad9 (n+1) cap9).ownBlock=some q -> B <= q /\ q ≠ b /\ (Value.slice ba n bc).ownBlock ≠ some q):=fun q e=>by
    rcases HAO.out.2.2 q e with h | h
    ·exact HSA.out q h
    ·have h1:=HWW.out.size
     have h2:=HLT.out;have h3:=HTO.out.2.2;exact ⟨by omega,by omega,fun e=>by have:=h2.2.1 q e;omega⟩
   have HA8:Hid (w8.ownsRow 0 67 5 (.slice ad9 (n+1) cap9) (n+1) (xs++[.int .i64 t, .int .i64 k, .int .i64 o, .int .i64 v, .int .i64 bd])):=zF HAO.out.1 K8 (fun q e h=>(HN8.out q e).2.1 h);have HB8:Hid (w8.ownsRow 0 322 1 (.slice ba n bc) n ys):=zF (zF (zF HOB.out HWW.out (fun _ _ h=>h)) HK7.out (fun q e h=>(HSA.out q h).2.2 e)) K8 (fun q e h=>(HSB.out q e).2 h);have HY8:Hid (zC w8 b3 [.int .i64 t, .int .i64 k, .int .i64 o, .int .i64 v, .int .i64 bd]):=(HY.out.keeps HK7.out (fun e=>by have h1:=HLT.out.1 b3 e;have h2:=HB3.out;omega)).keeps K8 (fun e=>by have e':b3=b:=e;have h1:=HLT.out.2.2;have h2:=HB3.out;omega);have HW8:Hid (Keeps (fun q=>B <= q) w w8):=((HWW.out.mono (fun _ _ h=>h.elim)).trans HK7.out (fun q _ e=>(HSA.out q e).1)).trans K8 (fun q _ e=>by have e':q=b:=e;rw [e'];exact HTO.out.2.2);have HS8:Hid (w.heap.size <= w8.heap.size):=HW8.out.size;have HR8:=Lib.hid R8;have y8:=HY8.out.five;have c1:=zL (R8.cell (k:=1) rfl);have k8:=zH w8
   obtain ⟨ty,pv,hty⟩:∃ ty pv,(zKG ⟨t,k,o,v,bd⟩).val=.iface ty pv:=by
    generalize zKG ⟨t,k,o,v,bd⟩=X;cases X <;> exact ⟨_,_,rfl⟩
   have HOF:Hid (∀ W,Calls Tryz.prog 206 #[.agg #[.int .i64 t, .int .i64 k, .int .i64 o, .int .i64 v, .int .i64 bd]] W fun e w'=>e=.returned (.iface ty pv) /\ Keeps zA W w'):=fun W=>by rw [<- hty];exact zOS ⟨t,k,o,v,bd⟩ W
   obtain ⟨j1,hj1,jz0,jz1,jz2⟩:=info_parts zMD;clear R8 K8 hty HAO HR7 HK7 c70 f70 k77 HR6 HWW HY hj0 jy0 jy1 jy2;refine zCG 8 0 (by kernel_rfl) [some (.pointer (some ⟨b,0,none⟩)),some (.pointer (some ⟨b,0,none⟩)),some (.pointer (some ⟨b,0,none⟩)),some (.pointer (some ⟨b,1,none⟩)),some (.slice ba n bc),some (.agg #[.int .i64 t, .int .i64 k, .int .i64 o, .int .i64 v, .int .i64 bd]),some (.iface ty pv),none] rfl (fun _ z W=>∃ q,z=.slice (some ⟨q,0,none⟩) 1 1 /\ zC W q [.iface ty pv]) (fun _ z W W' h hk=>by obtain ⟨q,e,h1⟩:=h;exact ⟨q,e,h1.keeps hk (fun h=>h)⟩) _ rfl (fun _ _ _ _ h=>h) _ rfl (fun _ _ _=>by exact J156 _) ?_ ?_
   ·refine ⟨?_,?_,?_,?_,?_,?_,?_,?_,trivial⟩ <;> (intro vs gs W Q' hR hd hK;have HRW:Keeps zA w8 W:=((zH w8).drew).zB hR;have u:=y8 W HRW;have v0:=c1 W HRW;simp only [zA1,zAg,zBQ,zJ,tz,Option.bind,Act.put] at hd hK ⊢;try simp only [hd] at hK ⊢)
    all_goals try (try clear hd;go_wp2_with (go_at_call 206;refine (HOF.out _).mono ?_;rintro e w9 ⟨rfl,k9⟩);first | exact hK _ _ (Keeps.refl _ _) rfl | exact hK _ _ (by assumption) rfl)
    ·exact J95 _
   ·intro vs W hR hFF
    have HRW:Keeps zA w8 W:=((zH w8).drew).zB hR;have e0:vs 0=_:=hFF 0 (by decide);have e4:vs 4=_:=hFF 4 (by decide);obtain ⟨q7,e7,hr7⟩:∃ q,vs 7=.slice (some ⟨q,0,none⟩) 1 1 /\ zC W q [.iface ty pv]:=hFF 7 (by decide)
    simp only [zJ,List.getElem?_cons_zero,List.getElem?_cons_succ,Option.bind_some,Option.bind,Act.put,List.setIfInBounds_toArray,List.set_cons_zero,List.set_cons_succ,List.drop_succ_cons,List.drop_zero];rw [e0,e4,e7];generalize vs 1=v1;generalize vs 2=v2;generalize vs 3=v3;generalize vs 5=v5;generalize vs 6=v6;have HR7:=Lib.hid hr7;have HWW:=Lib.hid HRW;clear hFF e0 e4 e7 hr7 hR HRW y8 c1 k8 HOF;go_upto_region 8 with (at_builtin;refine zI _ (by rfl) _ _ 401 (by rfl) 0 322 j1 _ 1 16 Tryz.underlying401 hj1 jz0 jz1 jz2 rfl (by decide) (.slice ba n bc) n ys (by rfl) (zF HB8.out HWW.out (fun _ _ h=>h)) (.slice (some ⟨q7,0,none⟩) 1 1) 1 [.iface ty pv] (by rfl) (zC.src HR7.out) rfl (by simp [Value.oneCell']) (by unfold maxLen;omega) (by omega) (Nat.zero_le _) ?_;intro ad10 cap10 w9 ha;have HBO:=Lib.hid ha;have k9:=zi.keeps ha (Keeps.refl (fun q=>(Value.slice ba n bc).ownBlock=some q) W) (fun q e _=>e);have r9:=(HR8.out.keeps HWW.out (fun h=>h)).keeps k9 (fun e=>(HSB.out b e).2 rfl);have HR9:=Lib.hid r9;have HK9:=Lib.hid k9;have c91:=zL (r9.cell (k:=1) rfl);have f91:=zBK r9 1 (by simp);have k99:=zH w9;clear ha k9 r9)
    have R10:zC (w9.setCell ⟨b,1,none⟩ (.slice ad10 (n+1) cap10)) b (zAf ad9 cap9 ad10 cap10 (n+1) T O):=HR9.out.set 1 (by simp) _;have K10:Keeps (fun q=>q=b) w9 (w9.setCell ⟨b,1,none⟩ (.slice ad10 (n+1) cap10)):=(Keeps.refl (fun q=>q=b) w9).setCell (p:=⟨b,1,none⟩) (fun _=>rfl) _;generalize w9.setCell ⟨b,1,none⟩ (.slice ad10 (n+1) cap10)=w10 at R10 K10 ⊢
    have HM10:Hid (∀ q,(Value.slice ad10 (n+1) cap10).ownBlock=some q -> B <= q /\ q ≠ b /\ (Value.slice ad9 (n+1) cap9).ownBlock ≠ some q):=fun q e=>by
     rcases HBO.out.2.2 q e with h | h
     ·exact ⟨(HSB.out q h).1,(HSB.out q h).2,fun e=>(HN8.out q e).2.2 h⟩
     ·have h1:=HWW.out.size
      have h2:=HLT.out;have h3:=HTO.out.2.2;have h4:=HS8.out;exact ⟨by omega,by omega,fun e=>by have:=zS HA8.out e;omega⟩
    have HA10:Hid (w10.ownsRow 0 67 5 (.slice ad9 (n+1) cap9) (n+1) (xs++[.int .i64 t, .int .i64 k, .int .i64 o, .int .i64 v, .int .i64 bd])):=zF (zF (zF HA8.out HWW.out (fun _ _ h=>h)) HK9.out (fun q e h=>(HN8.out q e).2.2 h)) K10 (fun q e h=>(HN8.out q e).2.1 h);have HB10:Hid (w10.ownsRow 0 322 1 (.slice ad10 (n+1) cap10) (n+1) (ys++[.iface ty pv])):=zF HBO.out.1 K10 (fun q e h=>(HM10.out q e).2.1 h);have HY10:Hid (zC w10 b3 [.int .i64 t, .int .i64 k, .int .i64 o, .int .i64 v, .int .i64 bd]):=((HY8.out.keeps HWW.out (fun h=>h)).keeps HK9.out (fun e=>by have h1:=HLT.out.2.1 b3 e;have h2:=HB3.out;omega)).keeps K10 (fun e=>by have e':b3=b:=e;have h1:=HLT.out.2.2;have h2:=HB3.out;omega);have HW10:Hid (Keeps (fun q=>B <= q) w w10):=((HW8.out.trans (HWW.out.mono (fun _ _ h=>h.elim)) (fun _ _ h=>h)).trans HK9.out (fun q _ e=>(HSB.out q e).1)).trans K10 (fun q _ e=>by have e':q=b:=e;rw [e'];exact HTO.out.2.2);have HR10:=Lib.hid R10;have HFIN:Hid (∀ W T' O',T'.length=8 -> O'.length=8 -> Keeps (fun q=>q=b) w10 W -> zC W b (zAf ad9 cap9 ad10 cap10 (n+1) T' O') -> zBI B W b (n+1) T' O' /\ Keeps (fun q=>B <= q) w W):=fun W T' O' h1 h2 hk hr=>⟨⟨h1,h2,HTO.out.2.2,_,_,_,_,_,_,hr,zF HA10.out hk (fun q e h=>(HN8.out q e).2.1 h),zF HB10.out hk (fun q e h=>(HM10.out q e).2.1 h),fun q e=>⟨(HN8.out q e).1,(HN8.out q e).2.1,fun e2=>(HM10.out q e2).2.2 e⟩,fun q e=>⟨(HM10.out q e).1,(HM10.out q e).2.1⟩⟩,HW10.out.trans hk (fun q _ e=>by have e':q=b:=e;rw [e'];exact HTO.out.2.2)⟩
    have HNE:Hid (b3 ≠ b):=fun e'=>by have h1:=HLT.out.2.2;have h2:=HB3.out;omega
    clear R10 K10 HBO HR9 HK9 c91 f91 k99 HR7 HWW hj1 jz0 jz1 jz2 HN8 HM10 HA8 HA10 HB8 HB10 HY8 HW8 HS8 HW10 HSA HSB HOW HOB HROW HR8;obtain ⟨x0,x1,x2,x3,x4⟩:=HY10.out.five w10 (Keeps.refl _ _);have c0:w10.cell? ⟨b,0,none⟩=some (.slice ad9 (n+1) cap9):=HR10.out.cell (k:=0) rfl;obtain ⟨_,c2⟩:=zCo HR10.out (t:=t) (by rw [HTO.out.1];exact ht);have f2:w10.frozen? ⟨b,2+t*2+1,none⟩=false:=zBK HR10.out (2+t*2+1) (by rw [zCB HTO.out.1 HTO.out.2.1];omega) w10 (Keeps.refl _ _);generalize (T.getD t (0,0)).2=z2 at c2;have i1:(0:Int) <= t:=by omega
    have i2:(t:Int) < 8:=by omega
    have e1:IntKind.i64.wrap (((n+1:Nat):Int) - 1)=(n:Int):=by rw [show ((n+1:Nat):Int) - 1=(n:Int) by omega];exact wrap_small _ (by omega) (by omega)
    go_region
    have R11:=zI0 HR10.out (t:=t) (by rw [HTO.out.1];exact ht) n;have K11:Keeps (fun q=>q=b) w10 (w10.setCell ⟨b,2+t*2+1,none⟩ (.int .i64 n)):=(Keeps.refl (fun q=>q=b) w10).setCell (p:=⟨b,2+t*2+1,none⟩) (fun _=>rfl) _;generalize w10.setCell ⟨b,2+t*2+1,none⟩ (.int .i64 n)=wp at R11 K11 ⊢;obtain ⟨T1,hT1⟩:=eX (T.set t ((T.getD t (0,0)).1,(n:Int)));rw [<- hT1] at R11
    have HT1:Hid (T2=(if bd ≠ 0 then (T1.set t (4,(T1.getD t (0,0)).2),O) else if k=4 then (T1,O.set o (t:Int)) else if k=5 then (T1,O.set o (-1)) else if k=6 then (T1.set o (2,(T1.getD o (0,0)).2),O) else if k=9 then (T1.set t (3,(T1.getD t (0,0)).2),O) else (T1,O))):=by
     show _=_
     rw [HT2.out,hT1];unfold zLe;simp only [Int.toNat_natCast]
    have hT8:T1.length=8:=by rw [hT1,List.length_set];exact HTO.out.1
    have HT8:=Lib.hid hT8;obtain ⟨w11,hw⟩:=eX wp.drew;have HR11:Hid (zC w11 b (zAf ad9 cap9 ad10 cap10 (n+1) T1 O)):=by rw [hw];exact R11.keeps ((zH wp).drew) (fun h=>h)
    have HK11:Hid (Keeps (fun q=>q=b) w10 w11):=by rw [hw];exact K11.trans ((zH wp).drew) (fun _ _ h=>h.elim)
    rw [<- hw];obtain ⟨x0,x1,x2,x3,x4⟩:=(HY10.out.keeps HK11.out (fun e=>HNE.out e)).five w11 (Keeps.refl _ _);have ct:=(zCo HR11.out (t:=t) (by rw [hT8];exact ht)).1;have co:=(zCo HR11.out (t:=o) (by rw [hT8];exact ho)).1;have cw:=zGn HR11.out hT8 (k:=o) (by rw [HTO.out.2.1];exact ho);have ft:w11.frozen? ⟨b,2+t*2,none⟩=false:=zBK HR11.out (2+t*2) (by rw [zCB hT8 HTO.out.2.1];omega) w11 (Keeps.refl _ _);have fo:w11.frozen? ⟨b,2+o*2,none⟩=false:=zBK HR11.out (2+o*2) (by rw [zCB hT8 HTO.out.2.1];omega) w11 (Keeps.refl _ _);have fw:w11.frozen? ⟨b,18+o,none⟩=false:=zBK HR11.out (18+o) (by rw [zCB hT8 HTO.out.2.1];omega) w11 (Keeps.refl _ _);have P1:=Lib.hid (zEy HR11.out (t:=t) (by rw [hT8];exact ht));have P2:=Lib.hid (zEy HR11.out (t:=o) (by rw [hT8];exact ho));have P3:=Lib.hid (zIt HR11.out hT8 (k:=o) (by rw [HTO.out.2.1];exact ho));generalize (T1.getD t (0,0)).1=g1 at ct;generalize (T1.getD o (0,0)).1=g2 at co;generalize O.getD o 0=g3 at cw;have i3:(0:Int) <= o:=by omega
    have i4:(o:Int) < 8:=by omega
    have kw:=zH w11;have HO8:=Lib.hid HTO.out.2.1;clear R11 K11 hT1 hw hT8 HR10 HY10 c0 c2 f2 e1 HT2 HTO;by_cases hbd:bd=0
    ·subst hbd
     have HT1:Hid (T2=(if k=4 then (T1,O.set o (t:Int)) else if k=5 then (T1,O.set o (-1)) else if k=6 then (T1.set o (2,(T1.getD o (0,0)).2),O) else if k=9 then (T1.set t (3,(T1.getD t (0,0)).2),O) else (T1,O))):=HT1.out.trans (if_neg (by simp));rcases (show k=1 \/ k=2 \/ k=3 \/ k=4 \/ k=5 \/ k=6 \/ k=7 \/ k=8 \/ k=9 by omega) with rfl | rfl | rfl | rfl | rfl | rfl | rfl | rfl | rfl
     all_goals (
      clear hk;go_wp2_with fail
      try (go_region;go_wp2_with fail)
      go_ret
      rw [HT1.out];simp only [Int.reduceEq,if_true,if_false])
     all_goals first
      | exact ⟨rfl,HFIN.out _ T1 O HT8.out HO8.out HK11.out HR11.out⟩
      | exact ⟨rfl,HFIN.out _ _ _ HT8.out (by rw [List.length_set];exact HO8.out) ((HK11.out.setCell (p:=⟨b,18+o,none⟩) (fun _=>rfl) _).trans ((zH _).drew) (fun _ _ h=>h.elim)) ((P3.out _).keeps ((zH _).drew) (fun h=>h))⟩
      | exact ⟨rfl,HFIN.out _ _ _ (by rw [List.length_set];exact HT8.out) HO8.out ((HK11.out.setCell (p:=⟨b,2+o*2,none⟩) (fun _=>rfl) _).trans ((zH _).drew) (fun _ _ h=>h.elim)) ((P2.out _).keeps ((zH _).drew) (fun h=>h))⟩
      | exact ⟨rfl,HFIN.out _ _ _ (by rw [List.length_set];exact HT8.out) HO8.out ((HK11.out.setCell (p:=⟨b,2+t*2,none⟩) (fun _=>rfl) _).trans ((zH _).drew) (fun _ _ h=>h.elim)) ((P1.out _).keeps ((zH _).drew) (fun h=>h))⟩
      | trace_state
    ·have hbb:(bd != 0)=true:=bne_iff_ne.2 hbd
     have HT1:Hid (T2=(T1.set t (4,(T1.getD t (0,0)).2),O)):=HT1.out.trans (if_pos hbd);clear hbd;go_wp2_with fail
     go_region
     go_wp2_with fail
     go_ret
     rw [HT1.out];exact ⟨rfl,HFIN.out _ _ _ (by rw [List.length_set];exact HT8.out) HO8.out ((HK11.out.setCell (p:=⟨b,2+t*2,none⟩) (fun _=>rfl) _).trans ((zH _).drew) (fun _ _ h=>h.elim)) ((P1.out _).keeps ((zH _).drew) (fun h=>h))⟩)
end
end Go.Proofs.YtoapgjjepiopbaaGreatDoor
