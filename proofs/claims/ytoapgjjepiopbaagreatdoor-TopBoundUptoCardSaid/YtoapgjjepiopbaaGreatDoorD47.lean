/- Layer D: texts joined. -/
import Derived.Test.YtoapgjjepiopbaaGreatDoorD44
set_option linter.all false
set_option maxHeartbeats 8000000
set_option maxRecDepth 8000
namespace Go.Proofs.YtoapgjjepiopbaaGreatDoor
open Go.RowKit
theorem J102(P:Prop) (h:P:=by
 clear hd;go_wp2_with fail
 exact hK _ _ ((yB _ _).alloc _) (by show ∃q,_;exact⟨_,rfl,yK (yG W _)⟩)):P:=h
theorem J179(P:Prop)(h:P:=by repeat' first|assumption|exact yB _ _|apply Keeps.drew|apply Keeps.drewN|apply Keeps.alloc):P:=h
def zRB(x:Evt):Evt:=⟨x.thread,x.kind,x.obj,if x.kind=8 then 1 else 0,0⟩
theorem okE.can{x:Evt}(h:okE x):okE (zRB x):=by
 obtain⟨h1,h2,h3⟩:=h;refine⟨h1,h2,?_⟩
 unfold zRB;simp only
 rcases h3 with⟨h,_⟩|⟨h,_⟩|⟨h,_⟩|⟨h,_⟩|⟨h,_⟩|⟨h,ho,_⟩|⟨h,ho,_⟩
 ·exact .inl ⟨h,(by trivial)⟩
 ·rw[if_neg (by omega)];exact .inr (.inl ⟨h,(by trivial),(by trivial)⟩)
 ·rw[if_neg (by omega)];exact .inr (.inr (.inl ⟨h,(by trivial),.inl (by trivial)⟩))
 ·rw[if_neg (by omega)];exact .inr (.inr (.inr (.inl ⟨h,(by trivial),.inl (by trivial)⟩)))
 ·rw[if_neg (by omega)];exact .inr (.inr (.inr (.inr (.inl ⟨h,(by trivial),.inl (by trivial)⟩))))
 ·rw[if_pos h];exact .inr (.inr (.inr (.inr (.inr (.inl ⟨h,ho,.inr ⟨by decide,(by trivial)⟩⟩)))))
 ·rw[if_neg (by omega)];exact .inr (.inr (.inr (.inr (.inr (.inr ⟨h,ho,(by trivial),(by trivial)⟩)))))
theorem zPd:(Tryz.prog.info? 322).map (λi=>(i.zero,i.size,i.bytes))=some (some .nilIface,1,16):=by kernel_rfl
structure zJZ(T:List (Int × Int))(O:List Int)(x:Evt):Prop where
 ok:okE x
 st:(T.getD x.thread.toNat (0,0)).1=2
 lock:x.kind=4->O.getD x.obj.toNat 0<0
 join:x.kind=7->(T.getD x.obj.toNat (0,0)).1=1\/(T.getD x.obj.toNat (0,0)).1=3
 bad:x.kind≠8->x.bad=zIZ x.kind x.thread.toNat x.obj.toNat T O
def zNB(n:Nat)(T:List (Int × Int))(O:List Int)(t k o bd:Int):List (Int × Int) × List Int:=
 let T1:=T.set t.toNat ((T.getD t.toNat (0,0)).1,n)
 if bd≠0 then (T1.set t.toNat (4,(T1.getD t.toNat (0,0)).2),O) else if k=4 then (T1,O.set o.toNat t) else if k=5 then (T1,O.set o.toNat (-1))
 else if k=6 then (T1.set o.toNat (2,(T1.getD o.toNat (0,0)).2),O) else if k=9 then (T1.set t.toNat (3,(T1.getD t.toNat (0,0)).2),O) else (T1,O)
section
variable {B b n:Nat} {w:World} {T:List (Int × Int)} {O:List Int}
theorem zOu(h:zB7 B w b n T O)(t o:Nat)(k v bd:Int)(hx:zJZ T O ⟨t,k,o,v,bd⟩)(hn:n<=1000):
 Calls Tryz.prog 235 #[.pointer (some ⟨b,0,none⟩),.agg #[t,k,o,v,bd]] w λe w'=>e=.returned (.int .i64 0)/\zB7 B w' b (n+1) (zNB n T O t k o bd).1 (zNB n T O t k o bd).2/\Keeps (λq=>B<=q) w w':=by
 obtain⟨T2,hT2⟩:=eX (zNB n T O t k o bd);rw[<-hT2];have HT2:=yA hT2;clear hT2;have ht:t<8:=by have:=hx.ok.1;simp only at this;omega
 have ho:o<8:=by have:=hx.ok.2.1;simp only at this;omega
 have hk:1<=k/\k<=9:=by have:=hx.ok.2.2;simp only at this;omega
 have HRI:Hid (∀W,Calls Tryz.prog 267 #[.agg #[t,k,o,v,bd]] W λe w'=>e=.returned true/\Keeps zA W w'):=λW=>zDs ⟨t,k,o,v,bd⟩ hx.ok W
 have HLG:Hid (∀W,Keeps zA w W->zB7 B W b n T O):=λW q=>h.keeps q (λ_ _ h=>h)
 have HCA:Hid (∀W,Keeps zA w W->Calls Tryz.prog 251 #[.pointer (some ⟨b,0,none⟩),t,.agg #[k,o]] W λe w'=>e=.returned true/\Keeps zA W w'):=λW q=>zPX (HLG.out W q) t o k ht ho hk hx.st hx.ok.can hx.lock hx.join
 have HBA:Hid (∀W,Keeps zA w W->Calls Tryz.prog 268 #[.pointer (some ⟨b,0,none⟩),t,.agg #[k,o]] W λe w'=>e=.returned (.int .i64 (zIZ k t o T O))/\Keeps zA W w'):=λW q=>zPl (HLG.out W q) t o k ho hk
 have HBV:Hid (k≠8->zIZ k t o T O=bd):=λe=>(hx.bad e).symm
 generalize zIZ k t o T O=bv at HBA HBV;obtain⟨la,lc,ba,bc,xs,ys,hrow,how,hob,hsa,hsb⟩:=h.ex;have HROW:=yA hrow;have HOW:=yA how;have HOB:=yA hob;have HLT:Hid ((∀q,(Value.slice la n lc).ownBlock=some q->q<w.heap.size)/\(∀q,(Value.slice ba n bc).ownBlock=some q->q<w.heap.size)/\b<w.heap.size):=⟨λq e=>zM how e,λq e=>zM hob e,hrow.lt (by unfold zA6;simp)⟩;have HSA:=yA hsa;have HSB:=yA hsb;have HTO:Hid (T.length=8/\O.length=8/\B<=b):=⟨h.tl,h.ol,h.low⟩;clear h hx hrow how hob hsa hsb;go_enter Tryz.func235,Tryz.ntmps235
 go_upto_region 1 with fail
 obtain⟨b3,w1,e1,e2,R1,K1,s1⟩:=newRow w [t,k,o,v,bd] 67;try rw[e1]
 try rw[e2]
 have y:=R1.five;have k1:=zF w1;have HK1:=yA K1;have HR1:=yA R1;have HB3:Hid (w.heap.size<=b3):=Nat.le_of_eq e1;clear e1 e2 K1 R1 s1;go_upto_region 4 with(go_at_call 267;refine(HRI.out _).mono ?_;rintro e w2 ⟨rfl,k2⟩;have HK2:=yA k2)
 obtain⟨b5,w3,x1,x2,R3,K3,s3⟩:=newRow w2 [k,o] 138;try rw[x1]
 try rw[x2]
 have z0:=zL (R3.cell (k:=0) rfl);have z1:=zL (R3.cell (k:=1) rfl);have HKW3:=yA (HK1.out.zC (HK2.out.zC K3));have HK13:=yA (HK2.out.zC K3);have y3:=λW (q:Keeps zA w3 W)=>y W (HK13.out.zC q)
 have k3:=zF w3;clear x1 x2 R3 K3 s3 k1 k2 y HRI;by_cases h8:k=8
 rotate_left
 focus (
  have hb8:(k != 8)=true:=uN.2 h8;have hbv:=HBV.out h8;rw[hbv] at HBA;go_region_held3 (λw'=>Keeps zA w3 w') (first|assumption|repeat' first|assumption|exact yB _ _|apply Keeps.drew|apply Keeps.drewN|apply Keeps.alloc) (first|(go_at_call 251;refine(HCA.out _ (HKW3.out.zC (J179 _))).mono ?_;rintro e w5 ⟨rfl,k5⟩;have q5:=xJ (a:=w3) (J179 _) k5)|(go_at_call 268;refine(HBA.out _ (HKW3.out.zC (J179 _))).mono ?_;rintro e w6 ⟨rfl,k6⟩;have q6:=xJ (a:=w3) (J179 _) k6))
  have HQ3:=yA q6;clear k5 q5 k6 q6 hbv)
 rotate_left
 focus (
  have hb8:(k != 8)=false:=by rw[h8];rfl
  have H8:=yA h8;clear h8;refine zBG 20 (by kernel_rfl) [some (.pointer (some ⟨b,0,none⟩)),some (.pointer (some ⟨b3,0,none⟩)),some (.int .i64 t),some (.agg #[k,o]),some (.bool true),some (.bool false),some (.bool false),some (.pointer (some ⟨b3,1,none⟩)),some (.int .i64 k),some (.bool false),some (.bool false),none,none,none,none,none,none,none,none,some (.bool false)] rfl (λ_ _ _=>True) (λ_ _ _ _ _ _=>trivial) ?_ ?_
  ·refine⟨?_,?_,?_,?_,?_,?_,?_,?_,?_,?_,?_,?_,?_,?_,?_,?_,?_,?_,?_,?_,trivial⟩ <;> (intro vs gs W Q' hR hd hK;have HRW:Keeps zA w3 W:=((zF w3).drew).zC hR;have u:=y3 W HRW;simp only[zBK,zAt,zBo,zJ,tz,Option.bind,Act.put] at hd hK ⊢;try simp only[hd] at hK ⊢)
   all_goals try(try clear hd;go_wp2_with (go_at_call 251;refine(HCA.out _ (HKW3.out.zC HRW)).mono ?_;rintro e w5 ⟨rfl,k5⟩);first|exact hK _ _ (yB _ _) rfl|exact hK _ _ (by assumption) rfl|exact hK _ _ (yB _ _) trivial)
  intro vs w6 hR hFF
  have HRW:Keeps zA w3 w6:=((zF w3).drew).zC hR;have e4:vs 5=_:=hFF 5 (by decide);have e6:vs 6=_:=hFF 6 (by decide);have e19:vs 19=_:=hFF 19 (by decide);simp only[zJ,yC,yD,yO,Option.bind,Act.put,yE,yM,yJ,yZ,yU];rw[e6,e19];clear hFF e4 e6 e19 hR;generalize vs 0=v0;generalize vs 1=v1;generalize vs 2=v2;generalize vs 3=v3;generalize vs 4=v4;generalize vs 5=v5;generalize vs 7=v7;generalize vs 8=v8;generalize vs 9=v9;generalize vs 10=v10;generalize vs 11=v11;generalize vs 12=v12;generalize vs 13=v13;generalize vs 14=v14;generalize vs 15=v15;generalize vs 16=v16;generalize vs 17=v17;generalize vs 18=v18;have HQ3:=yA HRW;clear HRW)
 all_goals (
  try clear h8
  clear hb8;have HKW:=yA (HKW3.out.zC HQ3.out);have y6:=λW (q:Keeps zA w6 W)=>y3 W (HQ3.out.zC q)
  have c0:∀W,Keeps zA w6 W->W.cell? ⟨b,0,none⟩=some (.slice la n lc):=zL ((HROW.out.keeps HKW.out (λh=>h)).cell (k:=0) rfl)
  have k6:=zF w6;clear HCA HBA HBV z0 z1 y3 k3 HLG;go_upto_region 6 with fail
  refine zB5 7 0 (by kernel_rfl) [some (.pointer (some ⟨b,0,none⟩)),some (.pointer (some ⟨b,0,none⟩)),some (.pointer (some ⟨b,0,none⟩)),some (.pointer (some ⟨b,0,none⟩)),some (.slice la n lc),some (.agg #[t,k,o,v,bd]),none] rfl (λ_ z W=>∃q,z=.slice (some ⟨q,0,none⟩) 1 1/\zB W q [t,k,o,v,bd]) (λ_ z W W' h hk=>by obtain⟨q,e,h1⟩:=h;exact⟨q,e,h1.keeps hk (λh=>h)⟩) _ rfl (λ_ _ _ _ h=>h) _ rfl (λ_ _ _=>by exact J171 _) ?_ ?_
  ·refine⟨?_,?_,?_,?_,?_,?_,?_,trivial⟩ <;> (intro vs gs W Q' hR hd hK;have HRW:Keeps zA w6 W:=((zF w6).drew).zC hR;have u:=y6 W HRW;have v0:=c0 W HRW;simp only[zBK,zAt,zBo,zJ,tz,Option.bind,Act.put] at hd hK ⊢;try simp only[hd] at hK ⊢)
   all_goals try(try clear hd;go_wp2_with (fail);first|exact hK _ _ (yB _ _) rfl)
   ·exact J102 _
  ·intro vs W hR hFF
   have HRW:Keeps zA w6 W:=((zF w6).drew).zC hR;have e0:vs 0=_:=hFF 0 (by decide);have e4:vs 4=_:=hFF 4 (by decide);obtain⟨q6,e6,hr6⟩:∃q,vs 6=.slice (some ⟨q,0,none⟩) 1 1/\zB W q [t,k,o,v,bd]:=hFF 6 (by decide)
   simp only[zJ,yC,yD,yO,Option.bind,Act.put,yE,yM,yJ,yZ,yU];rw[e0,e4,e6];generalize vs 1=v1;generalize vs 2=v2;generalize vs 3=v3;generalize vs 5=v5;have HR6:=yA hr6;have HWW:=yA (HKW.out.zC HRW);have HY:=yA (HR1.out.keeps (HK13.out.zC (HQ3.out.zC HRW)) (λh=>h));obtain⟨j0,hj0,jy0,jy1,jy2⟩:=info_parts zKH;clear hFF e0 e4 e6 hr6 hR HRW y6 c0 k6;go_upto_region 7 with(at_builtin;refine zI _ (by rfl) _ _ 31 (by rfl) 0 67 j0 _ 5 40 Tryz.underlying31 hj0 jy0 jy1 jy2 rfl (by decide) (.slice la n lc) n xs (by rfl) (zD HOW.out HWW.out (λ_ _ h=>h)) (.slice (some ⟨q6,0,none⟩) 1 1) 1 [.int .i64 t,.int .i64 k,.int .i64 o,.int .i64 v,.int .i64 bd] (by rfl) (xE HR6.out) rfl (by simp[Value.oneCell']) (by unfold maxLen;omega) (by omega) (yF _) ?_;intro ad9 cap9 w7 ha;have HAO:=yA ha;have k7:=xD ha (yB (λq=>(Value.slice la n lc).ownBlock=some q) W) (λq e _=>e);have r7:=(HROW.out.keeps HWW.out (λh=>h)).keeps k7 (λe=>(HSA.out b e).2.1 rfl);have HR7:=yA r7;have HK7:=yA k7;have c70:=zL (r7.cell (k:=0) rfl);have f70:=zAa r7 0 (by unfold zA6;simp);have k77:=zF w7;clear ha k7 r7)
   have R8:zB (w7.setCell ⟨b,0,none⟩ (.slice ad9 (n+1) cap9)) b (.slice ad9 (n+1) cap9 :: .slice ba n bc :: (T.flatMap zCe++ints O)):=HR7.out.set 0 (by unfold zA6;simp) _;have K8:Keeps (λq=>q=b) w7 (w7.setCell ⟨b,0,none⟩ (.slice ad9 (n+1) cap9)):=(yB (λq=>q=b) w7).setCell (p:=⟨b,0,none⟩) (λ_=>rfl) _;generalize w7.setCell ⟨b,0,none⟩ (.slice ad9 (n+1) cap9)=w8 at R8 K8 ⊢
   have HN8:Hid (∀q,(Value.slice ad9 (n+1) cap9).ownBlock=some q->B<=q/\q≠b/\(Value.slice ba n bc).ownBlock≠some q):=λq e=>by
    rcases HAO.out.2.2 q e with h|h
    ·exact HSA.out q h
    ·have h1:=HWW.out.size
     have h2:=HLT.out;have h3:=HTO.out.2.2;exact⟨by omega,by omega,λe=>by have:=h2.2.1 q e;omega⟩
   have HA8:Hid (w8.ownsRow 0 67 5 (.slice ad9 (n+1) cap9) (n+1) (xs++[.int .i64 t,.int .i64 k,.int .i64 o,.int .i64 v,.int .i64 bd])):=zD HAO.out.1 K8 (λq e h=>(HN8.out q e).2.1 h);have HB8:Hid (w8.ownsRow 0 322 1 (.slice ba n bc) n ys):=zD (zD (zD HOB.out HWW.out (λ_ _ h=>h)) HK7.out (λq e h=>(HSA.out q h).2.2 e)) K8 (λq e h=>(HSB.out q e).2 h);have HY8:Hid (zB w8 b3 [t,k,o,v,bd]):=(HY.out.keeps HK7.out (λe=>by have h1:=HLT.out.1 b3 e;have h2:=HB3.out;omega)).keeps K8 (λe=>by have e':b3=b:=e;have h1:=HLT.out.2.2;have h2:=HB3.out;omega);have HW8:Hid (Keeps (λq=>B<=q) w w8):=((HWW.out.mono (λ_ _ h=>h.elim)).trans HK7.out (λq _ e=>(HSA.out q e).1)).trans K8 (λq _ e=>by have e':q=b:=e;rw[e'];exact HTO.out.2.2);have HS8:Hid (w.heap.size<=w8.heap.size):=HW8.out.size;have HR8:=yA R8;have y8:=HY8.out.five;have c1:=zL (R8.cell (k:=1) rfl);have k8:=zF w8
   obtain⟨ty,pv,hty⟩:∃ty pv,(zN5 ⟨t,k,o,v,bd⟩).val=.iface ty pv:=by
    generalize zN5 ⟨t,k,o,v,bd⟩=X;cases X <;> exact⟨_,_,rfl⟩
   have HOF:Hid (∀W,Calls Tryz.prog 206 #[.agg #[t,k,o,v,bd]] W λe w'=>e=.returned (.iface ty pv)/\Keeps zA W w'):=λW=>by rw[<-hty];exact zP8 ⟨t,k,o,v,bd⟩ W
   obtain⟨j1,hj1,jz0,jz1,jz2⟩:=info_parts zPd;clear R8 K8 hty HAO HR7 HK7 c70 f70 k77 HR6 HWW HY hj0 jy0 jy1 jy2;refine zB5 8 0 (by kernel_rfl) [some (.pointer (some ⟨b,0,none⟩)),some (.pointer (some ⟨b,0,none⟩)),some (.pointer (some ⟨b,0,none⟩)),some (.pointer (some ⟨b,1,none⟩)),some (.slice ba n bc),some (.agg #[t,k,o,v,bd]),some (.iface ty pv),none] rfl (λ_ z W=>∃q,z=.slice (some ⟨q,0,none⟩) 1 1/\zB W q [.iface ty pv]) (λ_ z W W' h hk=>by obtain⟨q,e,h1⟩:=h;exact⟨q,e,h1.keeps hk (λh=>h)⟩) _ rfl (λ_ _ _ _ h=>h) _ rfl (λ_ _ _=>by exact J171 _) ?_ ?_
   ·refine⟨?_,?_,?_,?_,?_,?_,?_,?_,trivial⟩ <;> (intro vs gs W Q' hR hd hK;have HRW:Keeps zA w8 W:=((zF w8).drew).zC hR;have u:=y8 W HRW;have v0:=c1 W HRW;simp only[zBK,zAt,zBo,zJ,tz,Option.bind,Act.put] at hd hK ⊢;try simp only[hd] at hK ⊢)
    all_goals try(try clear hd;go_wp2_with (go_at_call 206;refine(HOF.out _).mono ?_;rintro e w9 ⟨rfl,k9⟩);first|exact hK _ _ (yB _ _) rfl|exact hK _ _ (by assumption) rfl)
    ·exact J102 _
   ·intro vs W hR hFF
    have HRW:Keeps zA w8 W:=((zF w8).drew).zC hR;have e0:vs 0=_:=hFF 0 (by decide);have e4:vs 4=_:=hFF 4 (by decide);obtain⟨q7,e7,hr7⟩:∃q,vs 7=.slice (some ⟨q,0,none⟩) 1 1/\zB W q [.iface ty pv]:=hFF 7 (by decide)
    simp only[zJ,yC,yD,yO,Option.bind,Act.put,yE,yM,yJ,yZ,yU];rw[e0,e4,e7];generalize vs 1=v1;generalize vs 2=v2;generalize vs 3=v3;generalize vs 5=v5;generalize vs 6=v6;have HR7:=yA hr7;have HWW:=yA HRW;clear hFF e0 e4 e7 hr7 hR HRW y8 c1 k8 HOF;go_upto_region 8 with(at_builtin;refine zI _ (by rfl) _ _ 401 (by rfl) 0 322 j1 _ 1 16 Tryz.underlying401 hj1 jz0 jz1 jz2 rfl (by decide) (.slice ba n bc) n ys (by rfl) (zD HB8.out HWW.out (λ_ _ h=>h)) (.slice (some ⟨q7,0,none⟩) 1 1) 1 [.iface ty pv] (by rfl) (xE HR7.out) rfl (by simp[Value.oneCell']) (by unfold maxLen;omega) (by omega) (yF _) ?_;intro ad10 cap10 w9 ha;have HBO:=yA ha;have k9:=xD ha (yB (λq=>(Value.slice ba n bc).ownBlock=some q) W) (λq e _=>e);have r9:=(HR8.out.keeps HWW.out (λh=>h)).keeps k9 (λe=>(HSB.out b e).2 rfl);have HR9:=yA r9;have HK9:=yA k9;have c91:=zL (r9.cell (k:=1) rfl);have f91:=zAa r9 1 (by simp);have k99:=zF w9;clear ha k9 r9)
    have R10:zB (w9.setCell ⟨b,1,none⟩ (.slice ad10 (n+1) cap10)) b (zA6 ad9 cap9 ad10 cap10 (n+1) T O):=HR9.out.set 1 (by simp) _;have K10:Keeps (λq=>q=b) w9 (w9.setCell ⟨b,1,none⟩ (.slice ad10 (n+1) cap10)):=(yB (λq=>q=b) w9).setCell (p:=⟨b,1,none⟩) (λ_=>rfl) _;generalize w9.setCell ⟨b,1,none⟩ (.slice ad10 (n+1) cap10)=w10 at R10 K10 ⊢
    have HM10:Hid (∀q,(Value.slice ad10 (n+1) cap10).ownBlock=some q->B<=q/\q≠b/\(Value.slice ad9 (n+1) cap9).ownBlock≠some q):=λq e=>by
     rcases HBO.out.2.2 q e with h|h
     ·exact⟨(HSB.out q h).1,(HSB.out q h).2,λe=>(HN8.out q e).2.2 h⟩
     ·have h1:=HWW.out.size
      have h2:=HLT.out;have h3:=HTO.out.2.2;have h4:=HS8.out;exact⟨by omega,by omega,λe=>by have:=zM HA8.out e;omega⟩
    have HA10:Hid (w10.ownsRow 0 67 5 (.slice ad9 (n+1) cap9) (n+1) (xs++[.int .i64 t,.int .i64 k,.int .i64 o,.int .i64 v,.int .i64 bd])):=zD (zD (zD HA8.out HWW.out (λ_ _ h=>h)) HK9.out (λq e h=>(HN8.out q e).2.2 h)) K10 (λq e h=>(HN8.out q e).2.1 h);have HB10:Hid (w10.ownsRow 0 322 1 (.slice ad10 (n+1) cap10) (n+1) (ys++[.iface ty pv])):=zD HBO.out.1 K10 (λq e h=>(HM10.out q e).2.1 h);have HY10:Hid (zB w10 b3 [t,k,o,v,bd]):=((HY8.out.keeps HWW.out (λh=>h)).keeps HK9.out (λe=>by have h1:=HLT.out.2.1 b3 e;have h2:=HB3.out;omega)).keeps K10 (λe=>by have e':b3=b:=e;have h1:=HLT.out.2.2;have h2:=HB3.out;omega);have HW10:Hid (Keeps (λq=>B<=q) w w10):=((HW8.out.trans (HWW.out.mono (λ_ _ h=>h.elim)) (λ_ _ h=>h)).trans HK9.out (λq _ e=>(HSB.out q e).1)).trans K10 (λq _ e=>by have e':q=b:=e;rw[e'];exact HTO.out.2.2);have HR10:=yA R10;have HFIN:Hid (∀W T' O',T'.length=8->O'.length=8->Keeps (λq=>q=b) w10 W->zB W b (zA6 ad9 cap9 ad10 cap10 (n+1) T' O')->zB7 B W b (n+1) T' O'/\Keeps (λq=>B<=q) w W):=λW T' O' h1 h2 hk hr=>⟨⟨h1,h2,HTO.out.2.2,_,_,_,_,_,_,hr,zD HA10.out hk (λq e h=>(HN8.out q e).2.1 h),zD HB10.out hk (λq e h=>(HM10.out q e).2.1 h),λq e=>⟨(HN8.out q e).1,(HN8.out q e).2.1,λe2=>(HM10.out q e2).2.2 e⟩,λq e=>⟨(HM10.out q e).1,(HM10.out q e).2.1⟩⟩,HW10.out.trans hk (λq _ e=>by have e':q=b:=e;rw[e'];exact HTO.out.2.2)⟩
    have HNE:Hid (b3≠b):=λe'=>by have h1:=HLT.out.2.2;have h2:=HB3.out;omega
    clear R10 K10 HBO HR9 HK9 c91 f91 k99 HR7 HWW hj1 jz0 jz1 jz2 HN8 HM10 HA8 HA10 HB8 HB10 HY8 HW8 HS8 HW10 HSA HSB HOW HOB HROW HR8;obtain⟨x0,x1,x2,x3,x4⟩:=HY10.out.five w10 (yB _ _);have c0:w10.cell? ⟨b,0,none⟩=some (.slice ad9 (n+1) cap9):=HR10.out.cell (k:=0) rfl;obtain⟨_,c2⟩:=zDW HR10.out (t:=t) (by rw[HTO.out.1];exact ht);have f2:w10.frozen? ⟨b,2+t*2+1,none⟩=false:=zAa HR10.out (2+t*2+1) (by rw[zCs HTO.out.1 HTO.out.2.1];omega) w10 (yB _ _);generalize (T.getD t (0,0)).2=z2 at c2;have i1:(0:Int)<=t:=by omega
    have i2:(t:Int)<8:=by omega
    have e1:IntKind.i64.wrap (((n+1:Nat):Int)-1)=(n:Int):=by rw[show((n+1:Nat):Int)-1=(n:Int) by omega];exact vN _ (by omega) (by omega)
    go_region
    have R11:=zK1 HR10.out (t:=t) (by rw[HTO.out.1];exact ht) n;have K11:Keeps (λq=>q=b) w10 (w10.setCell ⟨b,2+t*2+1,none⟩ (.int .i64 n)):=(yB (λq=>q=b) w10).setCell (p:=⟨b,2+t*2+1,none⟩) (λ_=>rfl) _;generalize w10.setCell ⟨b,2+t*2+1,none⟩ (.int .i64 n)=wp at R11 K11 ⊢;obtain⟨T1,hT1⟩:=eX (T.set t ((T.getD t (0,0)).1,(n:Int)));rw[<-hT1] at R11
    have HT1:Hid (T2=(if bd≠0 then (T1.set t (4,(T1.getD t (0,0)).2),O) else if k=4 then (T1,O.set o (t:Int)) else if k=5 then (T1,O.set o (-1)) else if k=6 then (T1.set o (2,(T1.getD o (0,0)).2),O) else if k=9 then (T1.set t (3,(T1.getD t (0,0)).2),O) else (T1,O))):=by
     show _=_
     rw[HT2.out,hT1];unfold zNB;simp only[Int.toNat_natCast]
    have hT8:T1.length=8:=by rw[hT1,xQ];exact HTO.out.1
    have HT8:=yA hT8;obtain⟨w11,hw⟩:=eX wp.drew;have HR11:Hid (zB w11 b (zA6 ad9 cap9 ad10 cap10 (n+1) T1 O)):=by rw[hw];exact R11.keeps ((zF wp).drew) (λh=>h)
    have HK11:Hid (Keeps (λq=>q=b) w10 w11):=by rw[hw];exact K11.trans ((zF wp).drew) (λ_ _ h=>h.elim)
    rw[<-hw];obtain⟨x0,x1,x2,x3,x4⟩:=(HY10.out.keeps HK11.out (λe=>HNE.out e)).five w11 (yB _ _);have ct:=(zDW HR11.out (t:=t) (by rw[hT8];exact ht)).1;have co:=(zDW HR11.out (t:=o) (by rw[hT8];exact ho)).1;have cw:=zHn HR11.out hT8 (k:=o) (by rw[HTO.out.2.1];exact ho);have ft:w11.frozen? ⟨b,2+t*2,none⟩=false:=zAa HR11.out (2+t*2) (by rw[zCs hT8 HTO.out.2.1];omega) w11 (yB _ _);have fo:w11.frozen? ⟨b,2+o*2,none⟩=false:=zAa HR11.out (2+o*2) (by rw[zCs hT8 HTO.out.2.1];omega) w11 (yB _ _);have fw:w11.frozen? ⟨b,18+o,none⟩=false:=zAa HR11.out (18+o) (by rw[zCs hT8 HTO.out.2.1];omega) w11 (yB _ _);have P1:=yA (zF3 HR11.out (t:=t) (by rw[hT8];exact ht));have P2:=yA (zF3 HR11.out (t:=o) (by rw[hT8];exact ho));have P3:=yA (zKq HR11.out hT8 (k:=o) (by rw[HTO.out.2.1];exact ho));generalize (T1.getD t (0,0)).1=g1 at ct;generalize (T1.getD o (0,0)).1=g2 at co;generalize O.getD o 0=g3 at cw;have i3:(0:Int)<=o:=by omega
    have i4:(o:Int)<8:=by omega
    have kw:=zF w11;have HO8:=yA HTO.out.2.1;clear R11 K11 hT1 hw hT8 HR10 HY10 c0 c2 f2 e1 HT2 HTO;by_cases hbd:bd=0
    ·subst hbd
     have HT1:Hid (T2=(if k=4 then (T1,O.set o (t:Int)) else if k=5 then (T1,O.set o (-1)) else if k=6 then (T1.set o (2,(T1.getD o (0,0)).2),O) else if k=9 then (T1.set t (3,(T1.getD t (0,0)).2),O) else (T1,O))):=HT1.out.trans (if_neg (by simp));rcases (show k=1\/k=2\/k=3\/k=4\/k=5\/k=6\/k=7\/k=8\/k=9 by omega) with rfl|rfl|rfl|rfl|rfl|rfl|rfl|rfl|rfl
     all_goals (
      clear hk;go_wp2_with fail
      try(go_region;go_wp2_with fail)
      go_ret
      rw[HT1.out];simp only[Int.reduceEq,if_true,if_false])
     all_goals first
      | exact⟨rfl,HFIN.out _ T1 O HT8.out HO8.out HK11.out HR11.out⟩
      | exact⟨rfl,HFIN.out _ _ _ HT8.out (by rw[xQ];exact HO8.out) ((HK11.out.setCell (p:=⟨b,18+o,none⟩) (λ_=>rfl) _).trans ((zF _).drew) (λ_ _ h=>h.elim)) ((P3.out _).keeps ((zF _).drew) (λh=>h))⟩
      | exact⟨rfl,HFIN.out _ _ _ (by rw[xQ];exact HT8.out) HO8.out ((HK11.out.setCell (p:=⟨b,2+o*2,none⟩) (λ_=>rfl) _).trans ((zF _).drew) (λ_ _ h=>h.elim)) ((P2.out _).keeps ((zF _).drew) (λh=>h))⟩
      | exact⟨rfl,HFIN.out _ _ _ (by rw[xQ];exact HT8.out) HO8.out ((HK11.out.setCell (p:=⟨b,2+t*2,none⟩) (λ_=>rfl) _).trans ((zF _).drew) (λ_ _ h=>h.elim)) ((P1.out _).keeps ((zF _).drew) (λh=>h))⟩
      | trace_state
    ·have hbb:(bd != 0)=true:=uN.2 hbd
     have HT1:Hid (T2=(T1.set t (4,(T1.getD t (0,0)).2),O)):=HT1.out.trans (if_pos hbd);clear hbd;go_wp2_with fail
     go_region
     go_wp2_with fail
     go_ret
     rw[HT1.out];exact⟨rfl,HFIN.out _ _ _ (by rw[xQ];exact HT8.out) HO8.out ((HK11.out.setCell (p:=⟨b,2+t*2,none⟩) (λ_=>rfl) _).trans ((zF _).drew) (λ_ _ h=>h.elim)) ((P1.out _).keeps ((zF _).drew) (λh=>h))⟩)
end
