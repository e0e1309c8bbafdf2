/- Layer M: texts joined. -/
import Derived.Test.YtfokdllgnblamaaGreatDoorM50
set_option linter.all false
set_option maxHeartbeats 16000000
set_option maxRecDepth 8000
namespace Go.Proofs.YtfokdllgnblamaaGreatDoor
open Go.RowKit
theorem J22 (P:Prop) (h:P:=by
 refine ⟨?_,?_,?_,?_,?_,?_,?_,trivial⟩ <;> (intro vs gs W Q' hR hd hK;have HRW:Keeps zA wr W:=((zH wr).drew).zB hR;have c0:=HRW.cell (p:=⟨g,_,none⟩) (fun h=>h) HC0.out;simp only [zCW,zBo,zDU,zJ,tz,Option.bind,Act.put] at hd hK ⊢;try simp only [hd] at hK ⊢)
 all_goals try (try clear hd;go_wp2_with (fail);first | exact hK _ _ (yD _ _) rfl)
 ·clear hd
  go_wp2_with (go_at_call 13;refine (RE.out _ HRW).mono ?_;rintro e W1 ⟨v,rfl,g1,g2,g3⟩)
  exact hK _ _ g2 ⟨zAr.slice (w:=w) g1,zDM g1⟩
 ·obtain ⟨e3,⟨⟨ad,cap,e5⟩,h5⟩,-⟩:vs 3=.int .i64 r /\ ((∃ ad cap,vs 5=.slice ad es.length cap) /\ zk W (vs 5) es.length (ints es)) /\ True:=by simpa using hd
  rw [e5] at h5;simp only [e3,e5] at hK ⊢;have HPK:=yC (zF1 W r _ es h5 HEL.out);clear hd e3 e5 h5;go_wp2_with (go_at_call 12;refine HPK.out.mono ?_;rintro e W1 ⟨rfl,g1⟩)
  exact hK _ _ g1 rfl):P:=h
theorem J89 (P:Prop) (h:P:=by
 rw [zFi] at h1;have h2:=hr0.ok.zL;have h3:=(zAN hr0.right).2.1;rw [hes];omega):P:=h
theorem J263 (P:Prop) (h:P:=by rw [hes];exact zAs.zG0 (hr0.zD hk)):P:=h
theorem zFq {w:World} {ra:Option Addr} {n rc:Nat} {xs:List Int} (h:zk w (.slice ra n rc) n (ints xs)) (hn:n=xs.length) {i:Nat} (hi:i < n):∃ g o,ra=some ⟨g,o,none⟩ /\ w.cell? ⟨g,o+i,none⟩=some (.int .i64 (xs.getD i 0)):=by
 obtain ⟨ad,cap,e,h1⟩:=h;cases e;obtain ⟨g,o,e1,h2⟩:=h1 (by omega);exact ⟨g,o,e1,h2 i _ (zu xs i (by omega))⟩
theorem zJK {ra:Option Addr} {nr rc half:Nat} (h1:half <= nr) (h2:nr <= rc) :
 ∃ oa oc,(∀ W,(Instr.slice 22 (.slice ra nr rc) (some (.int .i64 (half:Int))) none none).run Tryz.prog W=.ok (.slice oa (nr - half) oc) W) ∧
   ∀ (W:World) (xs:List Int),zk W (.slice ra nr rc) nr (ints xs) -> zk W (.slice oa (nr - half) oc) (nr - half) (ints (xs.drop half)):=by
 have ht:Tryz.prog.underlying 22=some (.slice (Tryz.prog.elem 22)):=by simp [Program.elem,yY]
 have he:Tryz.prog.elem 22=3:=by simp [Program.elem,yY]
 have hz:∀ w,(Go.sizeOf 3).run Tryz.prog w=.ok 1 w:=fun w=>by
  obtain ⟨i0,hi0,hz0,hz1,hz2⟩:=info_parts zAy;simp [go_sem,hi0,hz1]
 refine ⟨if rc=half then ra else ra.map (·.add (half*1)),rc - half,fun W=>?_,fun W xs h=>?_⟩
 ·rw [run_slice_l W 22 _ _ _ ht .i64 _ (by omega) (by omega),he,hz]
  simp [Result.andThen,sliced]
 ·obtain ⟨ad,cap,e,h3⟩:=h
  cases e;refine ⟨_,_,rfl,fun hne=>?_⟩
  obtain ⟨g,o,rfl,h4⟩:=h3 (by omega);refine ⟨g,o+half,?_,fun j u hj=>?_⟩
  ·rw [if_neg (by omega)]
   by_cases h0:half=0
   ·subst h0;simp [Addr.add]
   ·simp [Addr.add,h0]
  ·have e1:(ints (xs.drop half))[j]?=(ints xs)[half+j]?:=by simp [ints]
   rw [e1] at hj;rw [uH];exact h4 _ _ hj
section
variable {cs:List Int} {mu:Int} {bs:List Bd} {w:World} {F:Nat -> Prop} {uca uta:Option Addr} {ucc utc:Nat}
theorem zGv (h:zCR w F cs bs uca uta) (rv sv:Value) (hr:newR ⟨cs,mu,bs⟩ ≠ 0):Calls Tryz.prog 4 #[.agg #[.slice uca cs.length ucc, .int .i64 mu, .slice uta bs.length utc],rv,sv] w fun e w'=>e=.returned (.bool true) /\ Keeps zA w w':=by
 have HNO:Hid (∀ W,Keeps zA w W -> Calls Tryz.prog 9 #[.agg #[.slice uca cs.length ucc, .int .i64 mu, .slice uta bs.length utc]] W fun e w'=>e=.returned (.tuple #[.pointer none, .int .i64 (newR ⟨cs,mu,bs⟩)]) /\ Keeps zA W w'):=fun W hk=>(h.zD hk).zOf hr
 have HRN:Hid (∀ W,Keeps zA w W -> Calls Tryz.prog 7 #[.agg #[.slice uca cs.length ucc, .int .i64 mu, .slice uta bs.length utc]] W fun e w'=>e=.returned (.tuple #[.pointer none, .int .i64 (newR ⟨cs,mu,bs⟩)]) /\ Keeps zA W w'):=fun W hk=>(h.zD hk).zOI hr
 generalize newR ⟨cs,mu,bs⟩=rr at HNO HRN;clear h hr;go_enter Tryz.func4,Tryz.ntmps4
 go_upto_region 1 with fail
 obtain ⟨b1,w1,e1,e2,R1,K1,_⟩:=newRow w [.slice uca cs.length ucc, .int .i64 mu, .slice uta bs.length utc] 25;try rw [e1]
 try rw [e2]
 have y1:=R1.zDP;have k1:=zH w1;have HK1:=yC K1;clear e1 e2 R1 K1;have HS:=yC (zGT w1);go_upto_region 2 with (go_at_call 6;refine HS.out.mono ?_;rintro e w2 ⟨rfl,k2⟩;have HK2:Hid (Keeps zA w w2):=HK1.out.zB k2;clear HS)
 go_upto_region 3 with (go_at_call 7;refine (HRN.out _ HK2.out).mono ?_;rintro e w3 ⟨rfl,k3⟩;have HK3:Hid (Keeps zA w w3):=HK2.out.zB k3;have k13:=k2.zB k3;clear k3)
 go_wp2_with (go_at_call 9;refine (HNO.out _ HK3.out).mono ?_;rintro e w4 ⟨rfl,k4⟩;have HK4:=yC k4;clear k4)
 go_ret
 exact ⟨rfl,HK3.out.zB HK4.out⟩
theorem zG1 (h:zCR w F cs bs uca uta) (ra:Option Addr) (rc:Nat) (xs:List Int) (hx:zk w (.slice ra xs.length rc) xs.length (ints xs)) (hrc:xs.length <= rc) (hl:xs.length <= 1048576) (sa:Option Addr) (sc:Nat) (ts:List Int) (ht:zk w (.slice sa ts.length sc) ts.length (ints ts)) (hr:newR ⟨cs,mu,bs⟩=0):Calls Tryz.prog 4 #[.agg #[.slice uca cs.length ucc, .int .i64 mu, .slice uta bs.length utc], .slice ra xs.length rc, .slice sa ts.length sc] w fun e w'=>e=.returned (.bool true) /\ Keeps zA w w':=by
 have HNC:Hid (∀ W,Keeps zA w W -> Calls Tryz.prog 9 #[.agg #[.slice uca cs.length ucc, .int .i64 mu, .slice uta bs.length utc]] W fun e w'=>∃ b,e=.returned (.tuple #[.pointer (some ⟨b,0,none⟩), .int .i64 0]) /\ zCm (fun q=>q < W.heap.size) w' b ⟨cs,mu,bs⟩ (zC8 ⟨cs,mu,bs⟩) /\ Keeps zA W w'):=fun W hk=>(h.zD hk).zNb hr
 have HRN:Hid (∀ W,Keeps zA w W -> Calls Tryz.prog 7 #[.agg #[.slice uca cs.length ucc, .int .i64 mu, .slice uta bs.length utc]] W fun e w'=>∃ b,e=.returned (.tuple #[.pointer (some ⟨b,0,none⟩), .int .i64 0]) /\ zAs F (fun q=>q < W.heap.size) w' b ⟨cs,mu,bs⟩ (zC8 ⟨cs,mu,bs⟩) /\ Keeps zA W w'):=fun W hk=>(h.zD hk).zNj hr
 have HFL:Hid (∀ q,F q -> q < w.heap.size):=h.low;obtain ⟨u,hu⟩:=eX (α:=Un) (⟨cs,mu,bs⟩);rw [<- hu] at HNC HRN;obtain ⟨nr,hnr⟩:=eX xs.length;obtain ⟨nw,hnw⟩:=eX ts.length;have HROW:=yC hx;have HTWO:=yC ht;have HNR:Hid (nr=xs.length):=hnr;have HNW:Hid (nw=ts.length):=hnw;rw [<- hnr] at HROW hrc hl ⊢;rw [<- hnw] at HTWO ⊢;obtain ⟨half,hh,hh1,hh2⟩:∃ half:Nat,min (wrap64 ((nr:Int) / 2)) 100=(half:Int) /\ half <= nr /\ half <= 100:=⟨min (nr / 2) 100,by rw [IntWalk.wrap64_in _ (by omega)];omega,by omega,by omega⟩
 obtain ⟨oa,oc,hsl,hone⟩:=zJK (ra:=ra) hh1 hrc;have HSL:=yC hsl;have HONE0:=yC hone;have HHF:Hid (half <= nr /\ half <= 100):=⟨hh1,hh2⟩;have HHH:=yC hh;clear h hx ht hr hu hnr hnw hh hh1 hh2 hsl hone hrc hl;go_enter Tryz.func4,Tryz.ntmps4
 go_upto_region 1 with fail
 obtain ⟨b1,w1,e1,e2,R1,K1,_⟩:=newRow w [.slice uca cs.length ucc, .int .i64 mu, .slice uta bs.length utc] 25;try rw [e1]
 try rw [e2]
 have y1:=R1.zDP;have k1:=zH w1;have HK1:=yC K1;clear e1 e2 R1 K1;have HS:=yC (zGT w1);go_upto_region 2 with (go_at_call 6;refine HS.out.mono ?_;rintro e w2 ⟨rfl,k2⟩;have HK2:Hid (Keeps zA w w2):=HK1.out.zB k2;clear HS)
 go_upto_region 3 with (go_at_call 7;refine (HRN.out _ HK2.out).mono ?_;rintro e w3 ⟨br,rfl,hm,k3⟩;have HK3:Hid (Keeps zA w w3):=HK2.out.zB k3;have HM3:=yC hm;have HK23:=yC k3;have k13:=k2.zB k3;clear hm k3)
 have HR3:Hid (Room (zA3 (rM br u (zC8 u)) zDd zDd zDd) (fun q=>q < w.heap.size) w3):=(zLW fun q hq=>yJ hq HK2.out.size).more 0 HFL.out zNY zAZ.moves HK23.out HM3.out;clear HM3 HK23 HRN;go_upto_region 8 with (go_at_call 9;refine (HNC.out _ HK3.out).mono ?_;rintro e w4 ⟨bc,rfl,hm,k4⟩;have HM4:=yC hm;have HK34:=yC k4;clear hm k4)
 have HP4:Hid (Room (zA3 (rM br u (zC8 u)) (cM bc u (zC8 u)) zDd zDd) (fun q=>q < w.heap.size) w4 /\ Keeps zA w w4):=⟨HR3.out.more 1 (F:=fun _=>False) (fun _ h=>h.elim) zNa zAZ.moves HK34.out HM4.out,HK3.out.zB HK34.out⟩;have hh:=HHH.out;clear HM4 HK34 HR3 HNC y1 k1 k2 k13 HK1 HK2 HK3;go_upto_region 9 with fail
 clear hh;go_wp2_with fail
 go_loopw [13] (fun kv wr=>∃ (i:Nat) (m:zi),i <= half /\ kv=.int .i64 i /\ Hid (Room (zA3 (rM br u m) (cM bc u m) zDd zDd) (fun q=>q < w.heap.size) wr /\ Keeps zA w wr)) (fun kv _=>half - (intOf kv).toNat)
 case atStart=>exact ⟨0,zC8 u,yK _,rfl,HP4.out⟩
 case round =>
  obtain ⟨i,m,hi,rfl,HP⟩:=hrel;clear HP4;by_cases hlt:i < half
  ·have i1:(0:Int) <= i:=by omega
   have i3:(i:Int) < half:=by omega
   have hin:i < nr:=by have:=HHF.out.1;omega
   have h100:i < 100:=by have:=HHF.out.2;omega
   have i2:(i:Int) < nr:=by omega
   obtain ⟨g,o,rfl,c0⟩:=zFq (HROW.out.zD HP.out.2) HNR.out hin;generalize xs.getD i 0=r at c0;obtain ⟨es,hes⟩:=eX (zBc m);obtain ⟨D0,N0,hr0⟩:=HP.out.1.get 0;have hr0:zAs D0 N0 wr br u m:=hr0
   have hel:es.length <= 1000:=by
    have h1:=zDv m m.zL.length;exact J89 _
   have RE:Hid (∀ W,Keeps zA wr W -> Calls Tryz.prog 13 #[.pointer (some ⟨br,0,none⟩)] W (zBK W es)):=fun W hk=>by exact J263 _
   have HEL:=yC hel;have HC0:=yC c0;clear hes hel hr0;go_upto_region 12 with fail
   clear c0;refine zDG 7 (by kernel_rfl) [some (.slice (some ⟨g,o,none⟩) nr rc),some (.int .i64 (i:Int)),some (.pointer (some ⟨g,o+i,none⟩)),some (.int .i64 r),some (.pointer (some ⟨br,0,none⟩)),none,some (.int .i64 (zC2 r es))] rfl (fun _ v W=>(∃ ad cap,v=.slice ad es.length cap) /\ zk W v es.length (ints es)) (fun _ _ _ _ h hk=>⟨h.1,h.2.zD hk⟩) ?_ ?_
   ·exact J22 _
   ·intro vs wA hR hF
    have KA:Keeps zA wr wA:=((zH wr).drew).zB hR;have e6:vs 6=_:=hF 6 (by decide);simp only [zJ,tz,Option.bind,Act.put];rw [e6];clear hF e6;generalize vs 0=v0;generalize vs 1=v1;generalize vs 2=v2;generalize vs 3=v3;generalize vs 4=v4;generalize vs 5=v5;have HPA:Hid (Room (zA3 (rM br u m) (cM bc u m) zDd zDd) (fun q=>q < w.heap.size) wA /\ Keeps zA w wA):=⟨HP.out.1.zEJ KA,HP.out.2.zB KA⟩;generalize zC2 r es=tt;clear hR vs KA HP RE HC0 HEL;rcases hst:stepM u m tt with ⟨m',⟨xt,xk,xo,xv,xb⟩,f⟩
    have RS:Hid (Calls Tryz.prog 14 #[.pointer (some ⟨br,0,none⟩), .int .i64 tt] wA fun e w'=>e=.returned (.tuple #[.agg #[.int .i64 xt, .int .i64 xk, .int .i64 xo, .int .i64 xv, .int .i64 xb], .int .i64 f]) /\ Room (zA3 (rM br u m') (cM bc u m) zDd zDd) (fun q=>q < w.heap.size) w' /\ Keeps (fun q=>¬ (fun q=>q < w.heap.size) q) wA w'):=by
     have h:=Room.zLf HPA.out.1 tt;rw [hst] at h;exact h
    go_upto_region 13 with fail
    go_upto_region 14 with (go_at_call 14;refine RS.out.mono ?_;rintro e wB ⟨rfl,hb,kb⟩;have HB:=yC hb;have KB:=yC kb;clear hb kb)
    have CS:Hid (Calls Tryz.prog 15 #[.pointer (some ⟨bc,0,none⟩), .int .i64 tt] wB fun e w'=>e=.returned (.tuple #[.agg #[.int .i64 xt, .int .i64 xk, .int .i64 xo, .int .i64 xv, .int .i64 xb], .int .i64 f]) /\ Room (zA3 (rM br u m') (cM bc u m') zDd zDd) (fun q=>q < w.heap.size) w' /\ Keeps (fun q=>¬ (fun q=>q < w.heap.size) q) wB w'):=by
     have h:=Room.zL5 HB.out tt;rw [hst] at h;exact h
    clear RS hst;go_wp2_with (go_at_call 15;refine CS.out.mono ?_;rintro e wC ⟨rfl,hb,kb⟩;have HC:=yC hb;have KC:=yC kb;clear hb kb)
    exact ⟨⟨i+1,m',by omega,by go_num,HC.out,(HPA.out.2.trans KB.out (fun q hq hn=>hn hq)).trans KC.out (fun q hq hn=>hn hq)⟩,by simp [intOf];omega⟩
  ·have hin:half=i:=by omega
   subst hin;clear hlt hi;go_upto_region 15 with fail
   have HSW:=HSL.out;go_upto_region 16 with fail
   obtain ⟨no,hno⟩:=eX (nr - half);obtain ⟨ys,hys⟩:=eX (xs.drop half);have hnl:no=ys.length:=by rw [hys,List.length_drop,hno,HNR.out]
   have HONE:Hid (zk w (.slice oa no oc) no (ints ys)):=by
    have h1:=HONE0.out w xs HROW.out;rw [<- hno,<- hys] at h1;exact h1
   rw [<- hno];have HNO:Hid (no=ys.length):=hnl;have HCC:=yC HP.out.1.zOu;clear hno hys hnl HSW HSL HONE0 HROW HHF HHH;go_upto_region 17 with (go_at_call 16;refine HCC.out.mono ?_;rintro e wG ⟨dc,rfl,hg,kg⟩;have HG:=yC hg;have KG:=yC kg;clear hg kg)
   have HCR:=yC HG.out.zOe;clear HCC;go_upto_region 20 with (go_at_call 17;refine HCR.out.mono ?_;rintro e wH ⟨dr,rfl,hg,kg⟩;have HH:=yC hg;have KH:=yC kg;clear hg kg)
   have HQ0:Hid (Room (zA3 (rM br u m) (cM bc u m) (rM dr u m) (cM dc u m)) (fun q=>q < w.heap.size) wH /\ Keeps zA w wH):=⟨HH.out,(HP.out.2.zB KG.out).zB KH.out⟩;clear HCR HG KG HH KH HP;go_wp2_with fail
   go_loopw [18] (fun kv wr=>∃ (i:Nat) (m m2:zi),i <= 100 /\ kv=.int .i64 i /\ Hid (Room (zA3 (rM br u m) (cM bc u m) (rM dr u m2) (cM dc u m2)) (fun q=>q < w.heap.size) wr /\ Keeps zA w wr)) (fun kv _=>100 - (intOf kv).toNat)
   case atStart=>exact ⟨0,m,m,yK _,rfl,HQ0.out⟩
   case round =>
    clear HQ0;obtain ⟨i,m,m2,hi,rfl,HP⟩:=hrel;by_cases hX:i < 100 /\ (i < no \/ i < nw)
    case neg =>
     have HX:=yC hX;by_cases h100:i < 100
     case' pos =>
      have i10:(i:Int) < 100:=by omega
      have i2:decide ((i:Int) < no)=false:=xL (by omega);have i3:¬ ((i:Int) < no):=by omega
      have j2:decide ((i:Int) < nw)=false:=xL (by omega);have j3:¬ ((i:Int) < nw):=by omega
     case' neg =>
      have i10:decide ((i:Int) < 100)=false:=xL (by omega);have i11:¬ ((i:Int) < 100):=by omega
     all_goals
      clear hX
      have HL1:Hid (Calls Tryz.prog 11 #[.pointer (some ⟨bc,0,none⟩), .pointer (some ⟨br,0,none⟩)] wr fun e w'=>e=.returned (.bool true) /\ Keeps zA wr w'):=by
       obtain ⟨D0,N0,h0⟩:=HP.out.1.get 0;obtain ⟨D1,N1,h1⟩:=HP.out.1.get 1;exact zGp (show zBQ D1 N1 wr bc u m from h1) (show zAs D0 N0 wr br u m from h0)
      go_upto_region 36 with (go_at_call 11;refine HL1.out.mono ?_;rintro e wX ⟨rfl,hk⟩;have KX:=yC hk;clear hk)
      have HL2:Hid (Calls Tryz.prog 11 #[.pointer (some ⟨dc,0,none⟩), .pointer (some ⟨dr,0,none⟩)] wX fun e w'=>e=.returned (.bool true) /\ Keeps zA wX w'):=by
       obtain ⟨D0,N0,h0⟩:=(HP.out.1.zEJ KX.out).get 2;obtain ⟨D1,N1,h1⟩:=(HP.out.1.zEJ KX.out).get 3;exact zGp (show zBQ D1 N1 wX dc u m2 from h1) (show zAs D0 N0 wX dr u m2 from h0)
      clear HL1;go_wp2_with (go_at_call 11;refine HL2.out.mono ?_;rintro e wY ⟨rfl,hk⟩;have KY:=yC hk;clear hk)
      go_ret
      exact ⟨rfl,(HP.out.2.zB KX.out).zB KY.out⟩
    have i1:(0:Int) <= i:=by omega
    have i10:(i:Int) < 100:=by omega
    by_cases hA:i < no
    case' pos =>
     have i2:(i:Int) < no:=by omega
     obtain ⟨g,o,rfl,c0⟩:=zFq (HONE.out.zD HP.out.2) HNO.out hA;generalize ys.getD i 0=r at c0;obtain ⟨es,hes⟩:=eX (zBc m);obtain ⟨D0,N0,hr0⟩:=HP.out.1.get 0;have hr0:zAs D0 N0 wr br u m:=hr0
     have hel:es.length <= 1000:=by
      have h1:=zDv m m.zL.length;exact J89 _
     have RE:Hid (∀ W,Keeps zA wr W -> Calls Tryz.prog 13 #[.pointer (some ⟨br,0,none⟩)] W (zBK W es)):=fun W hk=>by exact J263 _
     have HEL:=yC hel;have HC0:=yC c0;clear hes hel hr0;go_upto_region 24 with fail
     clear c0;refine zDG 7 (by kernel_rfl) [some (.slice (some ⟨g,o,none⟩) no oc),some (.int .i64 (i:Int)),some (.pointer (some ⟨g,o+i,none⟩)),some (.int .i64 r),some (.pointer (some ⟨br,0,none⟩)),none,some (.int .i64 (zC2 r es))] rfl (fun _ v W=>(∃ ad cap,v=.slice ad es.length cap) /\ zk W v es.length (ints es)) (fun _ _ _ _ h hk=>⟨h.1,h.2.zD hk⟩) ?_ ?_
     ·exact J22 _
     intro vs wA hR hF
     have KA:Keeps zA wr wA:=((zH wr).drew).zB hR;have e6:vs 6=_:=hF 6 (by decide);simp only [zJ,tz,Option.bind,Act.put];rw [e6];clear hF e6;generalize vs 0=v0;generalize vs 1=v1;generalize vs 2=v2;generalize vs 3=v3;generalize vs 4=v4;generalize vs 5=v5;have HPA:Hid (Room (zA3 (rM br u m) (cM bc u m) (rM dr u m2) (cM dc u m2)) (fun q=>q < w.heap.size) wA /\ Keeps zA w wA):=⟨HP.out.1.zEJ KA,HP.out.2.zB KA⟩;generalize zC2 r es=tt;clear hR vs KA HP RE HC0 HEL;rcases hst:stepM u m tt with ⟨m',⟨xt,xk,xo,xv,xb⟩,f⟩
     have RS:Hid (Calls Tryz.prog 14 #[.pointer (some ⟨br,0,none⟩), .int .i64 tt] wA fun e w'=>e=.returned (.tuple #[.agg #[.int .i64 xt, .int .i64 xk, .int .i64 xo, .int .i64 xv, .int .i64 xb], .int .i64 f]) /\ Room (zA3 (rM br u m') (cM bc u m) (rM dr u m2) (cM dc u m2)) (fun q=>q < w.heap.size) w' /\ Keeps (fun q=>¬ (fun q=>q < w.heap.size) q) wA w'):=by
      have h:=Room.zLf HPA.out.1 tt;rw [hst] at h;exact h
     go_upto_region 25 with fail
     go_upto_region 26 with (go_at_call 14;refine RS.out.mono ?_;rintro e wB ⟨rfl,hb,kb⟩;have HB:=yC hb;have KB:=yC kb;clear hb kb)
     obtain ⟨q1,wC,e1,e2,RY,KY,_⟩:=newRow wB [.int .i64 xt, .int .i64 xk, .int .i64 xo, .int .i64 xv, .int .i64 xb] 40;rw [e1,e2];have HRY:=yC RY;have HKY:=yC KY;have HQ1:Hid (wB.heap.size <= q1 /\ q1 < wC.heap.size):=⟨by omega,RY.lt (by simp)⟩;have HC:Hid (Room (zA3 (rM br u m') (cM bc u m) (rM dr u m2) (cM dc u m2)) (fun q=>q < w.heap.size \/ (wB.heap.size <= q /\ q < wC.heap.size)) wC):=HB.out.zIh KY
     have CS:Hid (Calls Tryz.prog 15 #[.pointer (some ⟨bc,0,none⟩), .int .i64 tt] wC fun e w'=>e=.returned (.tuple #[.agg #[.int .i64 xt, .int .i64 xk, .int .i64 xo, .int .i64 xv, .int .i64 xb], .int .i64 f]) /\ Room (zA3 (rM br u m') (cM bc u m') (rM dr u m2) (cM dc u m2)) (fun q=>q < w.heap.size \/ (wB.heap.size <= q /\ q < wC.heap.size)) w' /\ Keeps (fun q=>¬ (fun q=>q < w.heap.size \/ (wB.heap.size <= q /\ q < wC.heap.size)) q) wC w'):=by
      have h:=Room.zL5 HC.out tt;rw [hst] at h;exact h
     clear RS hst e1 e2 RY KY;go_upto_region 27 with (go_at_call 15;refine CS.out.mono ?_;rintro e wD ⟨rfl,hb,kb⟩;have HD:=yC hb;have KD:=yC kb;clear hb kb)
     obtain ⟨q2,wE,e1,e2,RZ,KZ,_⟩:=newRow wD [.int .i64 xt, .int .i64 xk, .int .i64 xo, .int .i64 xv, .int .i64 xb] 40;rw [e1,e2];have y1:=((HRY.out.keeps KD.out (fun h=>h (.inr HQ1.out))).keeps KZ (fun h=>h)).five;have y2:=RZ.five;have kE:=zH wE;have HP:Hid (Room (zA3 (rM br u m') (cM bc u m') (rM dr u m2) (cM dc u m2)) (fun q=>q < w.heap.size) wE /\ Keeps zA w wE):=⟨(HD.out.less fun _ h=>.inl h).zEJ KZ,((((HPA.out.2.trans KB.out (fun q hq hn=>hn hq)).zB HKY.out).trans KD.out (fun q hq hn=>hn (.inl hq))).zB KZ)⟩;clear e1 e2 RZ KZ CS HPA HB KB HC HD KD HRY HKY HQ1;obtain ⟨m1,hm1⟩:=eX m';rw [<- hm1] at HP;clear hm1;go_upto_region 29 with fail
     clear y1 y2 kE
    case' neg =>
     have i2:decide ((i:Int) < no)=false:=xL (by omega);have i3:¬ ((i:Int) < no):=by omega
     have j2:(i:Int) < nw:=by omega
     obtain ⟨wE,rfl⟩:=eX wr;obtain ⟨m1,rfl⟩:=eX m;go_upto_region 29 with fail
     clear j2
    all_goals
     by_cases hB:i < nw
     ·have j2:(i:Int) < nw:=by omega
      obtain ⟨g,o,rfl,c0⟩:=zFq (HTWO.out.zD HP.out.2) HNW.out hB;generalize ts.getD i 0=r at c0;obtain ⟨es,hes⟩:=eX (zBc m2);obtain ⟨D0,N0,hr0⟩:=HP.out.1.get 2;have hr0:zAs D0 N0 wE dr u m2:=hr0
      have hel:es.length <= 1000:=by
       have h1:=zDv m2 m2.zL.length;exact J89 _
      have RE:Hid (∀ W,Keeps zA wE W -> Calls Tryz.prog 13 #[.pointer (some ⟨dr,0,none⟩)] W (zBK W es)):=fun W hk=>by exact J263 _
      have HEL:=yC hel;have HC0:=yC c0;clear hes hel hr0;go_upto_region 30 with fail
      clear c0;refine zDG 7 (by kernel_rfl) [some (.slice (some ⟨g,o,none⟩) nw sc),some (.int .i64 (i:Int)),some (.pointer (some ⟨g,o+i,none⟩)),some (.int .i64 r),some (.pointer (some ⟨dr,0,none⟩)),none,some (.int .i64 (zC2 r es))] rfl (fun _ v W=>(∃ ad cap,v=.slice ad es.length cap) /\ zk W v es.length (ints es)) (fun _ _ _ _ h hk=>⟨h.1,h.2.zD hk⟩) ?_ ?_
      ·refine ⟨?_,?_,?_,?_,?_,?_,?_,trivial⟩ <;> (intro vs gs W Q' hR hd hK;have HRW:Keeps zA wE W:=((zH wE).drew).zB hR;have c0:=HRW.cell (p:=⟨g,_,none⟩) (fun h=>h) HC0.out;simp only [zCW,zBo,zDU,zJ,tz,Option.bind,Act.put] at hd hK ⊢;try simp only [hd] at hK ⊢)
       all_goals try (try clear hd;go_wp2_with (fail);first | exact hK _ _ (yD _ _) rfl)
       ·clear hd
        go_wp2_with (go_at_call 13;refine (RE.out _ HRW).mono ?_;rintro e W1 ⟨v,rfl,g1,g2,g3⟩)
        exact hK _ _ g2 ⟨zAr.slice (w:=w) g1,zDM g1⟩
       ·obtain ⟨e3,⟨⟨ad,cap,e5⟩,h5⟩,-⟩:vs 3=.int .i64 r /\ ((∃ ad cap,vs 5=.slice ad es.length cap) /\ zk W (vs 5) es.length (ints es)) /\ True:=by simpa using hd
        rw [e5] at h5;simp only [e3,e5] at hK ⊢;have HPK:=yC (zF1 W r _ es h5 HEL.out);clear hd e3 e5 h5;go_wp2_with (go_at_call 12;refine HPK.out.mono ?_;rintro e W1 ⟨rfl,g1⟩)
        exact hK _ _ g1 rfl
      ·intro vs wA hR hF
       have KA:Keeps zA wE wA:=((zH wE).drew).zB hR;have e6:vs 6=_:=hF 6 (by decide);simp only [zJ,tz,Option.bind,Act.put];rw [e6];clear hF e6;generalize vs 0=v0;generalize vs 1=v1;generalize vs 2=v2;generalize vs 3=v3;generalize vs 4=v4;generalize vs 5=v5;have HPA:Hid (Room (zA3 (rM br u m1) (cM bc u m1) (rM dr u m2) (cM dc u m2)) (fun q=>q < w.heap.size) wA /\ Keeps zA w wA):=⟨HP.out.1.zEJ KA,HP.out.2.zB KA⟩;generalize zC2 r es=tt;clear hR vs KA HP RE HC0 HEL;rcases hst:stepM u m2 tt with ⟨m',⟨xt,xk,xo,xv,xb⟩,f⟩
       have RS:Hid (Calls Tryz.prog 14 #[.pointer (some ⟨dr,0,none⟩), .int .i64 tt] wA fun e w'=>e=.returned (.tuple #[.agg #[.int .i64 xt, .int .i64 xk, .int .i64 xo, .int .i64 xv, .int .i64 xb], .int .i64 f]) /\ Room (zA3 (rM br u m1) (cM bc u m1) (rM dr u m') (cM dc u m2)) (fun q=>q < w.heap.size) w' /\ Keeps (fun q=>¬ (fun q=>q < w.heap.size) q) wA w'):=by
        have h:=Room.zON HPA.out.1 tt;rw [hst] at h;exact h
       go_upto_region 31 with fail
       go_upto_region 32 with (go_at_call 14;refine RS.out.mono ?_;rintro e wB ⟨rfl,hb,kb⟩;have HB:=yC hb;have KB:=yC kb;clear hb kb)
       obtain ⟨q1,wC,e1,e2,RY,KY,_⟩:=newRow wB [.int .i64 xt, .int .i64 xk, .int .i64 xo, .int .i64 xv, .int .i64 xb] 40;rw [e1,e2];have HRY:=yC RY;have HKY:=yC KY;have HQ1:Hid (wB.heap.size <= q1 /\ q1 < wC.heap.size):=⟨by omega,RY.lt (by simp)⟩;have HC:Hid (Room (zA3 (rM br u m1) (cM bc u m1) (rM dr u m') (cM dc u m2)) (fun q=>q < w.heap.size \/ (wB.heap.size <= q /\ q < wC.heap.size)) wC):=HB.out.zIh KY
       have CS:Hid (Calls Tryz.prog 15 #[.pointer (some ⟨dc,0,none⟩), .int .i64 tt] wC fun e w'=>e=.returned (.tuple #[.agg #[.int .i64 xt, .int .i64 xk, .int .i64 xo, .int .i64 xv, .int .i64 xb], .int .i64 f]) /\ Room (zA3 (rM br u m1) (cM bc u m1) (rM dr u m') (cM dc u m')) (fun q=>q < w.heap.size \/ (wB.heap.size <= q /\ q < wC.heap.size)) w' /\ Keeps (fun q=>¬ (fun q=>q < w.heap.size \/ (wB.heap.size <= q /\ q < wC.heap.size)) q) wC w'):=by
        have h:=Room.zOG HC.out tt;rw [hst] at h;exact h
       clear RS hst e1 e2 RY KY;go_upto_region 33 with (go_at_call 15;refine CS.out.mono ?_;rintro e wD ⟨rfl,hb,kb⟩;have HD:=yC hb;have KD:=yC kb;clear hb kb)
       obtain ⟨q2,wE,e1,e2,RZ,KZ,_⟩:=newRow wD [.int .i64 xt, .int .i64 xk, .int .i64 xo, .int .i64 xv, .int .i64 xb] 40;rw [e1,e2];have y1:=((HRY.out.keeps KD.out (fun h=>h (.inr HQ1.out))).keeps KZ (fun h=>h)).five;have y2:=RZ.five;have kE:=zH wE;have HP:Hid (Room (zA3 (rM br u m1) (cM bc u m1) (rM dr u m') (cM dc u m')) (fun q=>q < w.heap.size) wE /\ Keeps zA w wE):=⟨(HD.out.less fun _ h=>.inl h).zEJ KZ,((((HPA.out.2.trans KB.out (fun q hq hn=>hn hq)).zB HKY.out).trans KD.out (fun q hq hn=>hn (.inl hq))).zB KZ)⟩;clear e1 e2 RZ KZ CS HPA HB KB HC HD KD HRY HKY HQ1;go_wp2_with fail
       exact ⟨⟨i+1,m1,m',by omega,by go_num,HP.out⟩,by simp [intOf];omega⟩
     ·have j2:decide ((i:Int) < nw)=false:=xL (by omega)
      have j3:¬ ((i:Int) < nw):=by omega
      go_wp2_with fail
      exact ⟨⟨i+1,m1,m2,by omega,by go_num,HP.out⟩,by simp [intOf];omega⟩
theorem zGI (h:zCR w F cs bs uca uta) (ra:Option Addr) (rc:Nat) (xs:List Int) (hx:zk w (.slice ra xs.length rc) xs.length (ints xs)) (hrc:xs.length <= rc) (hl:xs.length <= 1048576) (sa:Option Addr) (sc:Nat) (ts:List Int) (ht:zk w (.slice sa ts.length sc) ts.length (ints ts)):Calls Tryz.prog 4 #[.agg #[.slice uca cs.length ucc, .int .i64 mu, .slice uta bs.length utc], .slice ra xs.length rc, .slice sa ts.length sc] w fun e w'=>e=.returned (.bool true) /\ Keeps zA w w':=by
 by_cases hr:newR ⟨cs,mu,bs⟩=0
 ·exact zG1 h ra rc xs hx hrc hl sa sc ts ht hr
 ·exact zGv h _ _ hr
end
end Go.Proofs.YtfokdllgnblamaaGreatDoor
