/- Layer Q: texts joined. -/
import Derived.Test.YtfjgcedkfnmdkaaGreatDoorQ50
import Derived.Test.YtfjgcedkfnmdkaaGreatDoorQ49
set_option linter.all false
set_option maxHeartbeats 8000000
set_option maxRecDepth 8000
namespace Go.Proofs.YtfjgcedkfnmdkaaGreatDoor
open Go.RowKit
theorem J13 (P:Prop) (h:P:=by
 have HQ:=yB (DF.out.row HR4C.out HT8.out.2);have f0:=zN HQ.out 0 (by simp);have f1:=zN HQ.out 1 (by simp);have f2:=zN HQ.out 2 (by simp);have f3:=zN HQ.out 3 (by simp);have f4:=zN HQ.out 4 (by simp);have y4:=HQ.out.five;go_wp2_with fail
 have R5:=zDn [.int .i64 i, .int .i64 (a.kind - 1), .int .i64 a.obj, .int .i64 v, .int .i64 bad] 0 _ _ HQ.out rfl;have hw:=RW.own HXC.out.1 HXC.out.2 DF.out HB4.out.1 HLC.out HT8.out.2 HFR.out.2 (zBF b4 [.int .i64 i, .int .i64 (a.kind - 1), .int .i64 a.obj, .int .i64 v, .int .i64 bad] 0 wE);simp only [zB3,yY,Nat.reduceAdd,List.take_zero,List.nil_append] at R5 hw;generalize (((((wE).setCell ⟨b4,0,none⟩ (.int .i64 i)).setCell ⟨b4,1,none⟩ (.int .i64 (a.kind - 1))).setCell ⟨b4,2,none⟩ (.int .i64 a.obj)).setCell ⟨b4,3,none⟩ (.int .i64 v)).setCell ⟨b4,4,none⟩ (.int .i64 bad)=wz at R5 hw ⊢;refine yZ (v:=.tuple #[.agg #[.int .i64 i, .int .i64 (a.kind - 1), .int .i64 a.obj, .int .i64 v, .int .i64 bad], .int .i64 0]) (by simp [results,Tryz.results17,go_sem,R5.cell (k:=0) rfl,R5.cell (k:=1) rfl,R5.cell (k:=2) rfl,R5.cell (k:=3) rfl,R5.cell (k:=4) rfl]) rfl ?_
 rw [HES.out,HDN.out];exact ⟨rfl,hw⟩):P:=h
theorem J34 (P:Prop) (h:P:=by
 clear h hm e;go_enter Tryz.func17,Tryz.ntmps17
 go_upto_region 1 with fail
 try rw [e3]
 try rw [e4]
 clear e3 e4;go_wp2_with fail
 obtain ⟨R5,K5⟩:=zAX (w:=w) [.int .i64 0, .int .i64 0, .int .i64 0, .int .i64 0, .int .i64 0] (HR4.out) rfl (HB4.out.2.1) HB4.out.1;simp only [zB3,yY,Nat.reduceAdd] at R5 K5;refine yZ (v:=.tuple #[evV Evt.zero, .int .i64 2]) (by simp [results,Tryz.results17,go_sem,R5.cell (k:=0) rfl,R5.cell (k:=1) rfl,R5.cell (k:=2) rfl,R5.cell (k:=3) rfl,R5.cell (k:=4) rfl,evV,Evt.zero]) rfl ⟨rfl,zAB.after zR zo (yh HH.out) K5⟩):P:=h
theorem J187 (P:Prop) (h:P:=by simp [results,Tryz.results17,go_sem,R5.cell (k:=0) rfl,R5.cell (k:=1) rfl,R5.cell (k:=2) rfl,R5.cell (k:=3) rfl,R5.cell (k:=4) rfl,evV,Evt.zero]):P:=h
section
variable {w w':World} {T:zS} {F:Nat -> Prop} {id b i:Nat} {u:Un} {p:zAn} {m:ze} {H:List HTh}
theorem RM.stX (h:RM w T F id b u p m H) (hi:i < m.zL.length):(∀ W,Keeps zA w W -> W.frozen? ⟨p.gt,i*3,none⟩=false) /\ ∀ W,Keeps zA w W -> ∀ s,RW w T F id b u p (m.zAS i { m.get i with st:=s }) (W.setCell ⟨p.gt,i*3,none⟩ (.int .i64 s)):=by
 obtain ⟨rv,fv,hH,c,fr⟩:=h.thc hi;refine ⟨fr 0 (by decide),fun W q s=>?_⟩
 have h':=xQ zR zo h q;obtain ⟨e1,e2,e3⟩:=h'.zL.each i _ _ hH (xK hi);exact (MaP.went zo h' (zGr zR (t:=m.get i) h'.zL hH e2 e3 s)).before q
abbrev zNs (w:World) (T:zS) (F:Nat -> Prop) (id b:Nat) (u:Un) (p:zAn) (r:ze × Evt × Int) (e:Ending) (w':World):Prop:=zEf zA4 3 149 zBB w T F id b u p r e w'
theorem zKt (h:RM w T F id b u p m H) (hm:m.ok u) (i:Int) (hr:zBP m i ≠ 0) :
 Calls Tryz.prog 17 #[.pointer (some ⟨b,0,none⟩), .int .i64 i] w (zNs w T F id b u p (stepM u m i)):=by
 have HH:=yB h;have es:stepM u m i=(m,Evt.zero,zBP m i):=by unfold stepM;rw [if_neg hr]
 rw [es];obtain ⟨b4,w4,e3,e4,R4,K4,_⟩:=newRow w [.int .i64 0, .int .i64 0, .int .i64 0, .int .i64 0, .int .i64 0] 40;have HM:Hid (RM w4 T F id b u p m H):=xQ zR zo h K4;have HFR:=yB (h.zL.sep.free (g:=b4) (by omega));have HB4:Hid (w.heap.size <= b4 /\ Keeps zA w w4 /\ b4 < w4.heap.size):=⟨by exact J195 _,K4,R4.lt (by simp)⟩;have HR4:=yB R4;have k4:=zH w4;have y4:=R4.five;have f0:=zN R4 0 (by decide);have f1:=zN R4 1 (by decide);have f2:=zN R4 2 (by decide);have f3:=zN R4 3 (by decide);have f4:=zN R4 4 (by decide);have y5:=HM.out.zA2;have HRN:=yB hr;clear R4 K4 es hr;by_cases hlo:i < 0
 ·have e:zBP m i=2:=by unfold zBP;rw [if_pos (.inl hlo)]
  have e1:decide (i < 0)=true:=xW hlo;rw [e];exact J34 _
 ·have e1:decide (i < 0)=false:=xL hlo
  by_cases hhi:(m.zL.length:Int) <= i
  ·have e:zBP m i=2:=by unfold zBP;rw [if_pos (.inr hhi)]
   rw [e];generalize m.zL.length=nm at y5 hhi;exact J34 _
  ·obtain ⟨k,rfl⟩:∃ k:Nat,i=k:=⟨i.toNat,by omega⟩
   have hk:k < m.zL.length:=by omega
   have ts:=HM.out.st hk;obtain ⟨bd,hbd,hok,_⟩:=hm.th hk;have HEN:=zEn HM.out hm hk
   have e:zBP m k=if (m.get k).st=1 then 80 else if (m.get k).st=3 then 81 else if (m.get k).st=4 then 82 else if zAY m k then 0 else 83:=by
    unfold zBP;rw [if_neg (by omega)];rfl
   have i2:(k:Int) < (m.zL.length:Int):=by omega
   have i3:decide ((m.zL.length:Int) <= (k:Int))=false:=xL hhi;have i0:(0:Int) <= k:=by omega
   rcases hok.1 with h1 | h1 | h1 | h1
   all_goals (rw [h1] at ts e;rw [e])
   all_goals generalize m.zL.length=nm at y5 i2 i3 hhi hk
   ·clear h hm e hbd hok HEN
    go_enter Tryz.func17,Tryz.ntmps17
    go_upto_region 1 with fail
    try rw [e3]
    try rw [e4]
    clear e3 e4;go_wp2_with fail
    obtain ⟨R5,K5⟩:=zAX (w:=w) [.int .i64 0, .int .i64 0, .int .i64 0, .int .i64 0, .int .i64 0] (HR4.out) rfl (HB4.out.2.1) HB4.out.1;simp only [zB3,yY,Nat.reduceAdd] at R5 K5;refine yZ (v:=.tuple #[evV Evt.zero, .int .i64 80]) (J187 _) rfl ⟨rfl,zAB.after zR zo (yh HH.out) K5⟩
   ·have ha:zAY m k=false:=by
     cases ha:zAY m k with
     | false=>rfl
     | true=>exact absurd (by rw [e,ha];rfl) HRN.out
    rw [ha] at HEN ⊢;clear h hm e hbd hok;go_enter Tryz.func17,Tryz.ntmps17
    go_upto_region 1 with fail
    try rw [e3]
    try rw [e4]
    clear e3 e4;go_upto_region 11 with (go_at_call 50;refine HEN.call k4 ?_;intro w5 _ k5)
    have HK5:=yB k5;have f0:=fun W (q:Keeps zA w5 W)=>f0 W (k5.zB q)
    have f1:=fun W (q:Keeps zA w5 W)=>f1 W (k5.zB q)
    have f2:=fun W (q:Keeps zA w5 W)=>f2 W (k5.zB q)
    have f3:=fun W (q:Keeps zA w5 W)=>f3 W (k5.zB q)
    have f4:=fun W (q:Keeps zA w5 W)=>f4 W (k5.zB q)
    have y4:=fun W (q:Keeps zA w5 W)=>y4 W (k5.zB q)
    go_wp2_with fail
    obtain ⟨R5,K5⟩:=zAX (w:=w) [.int .i64 0, .int .i64 0, .int .i64 0, .int .i64 0, .int .i64 0] (HR4.out.keeps HK5.out (fun h=>h)) rfl (HB4.out.2.1.zB HK5.out) HB4.out.1;simp only [zB3,yY,Nat.reduceAdd] at R5 K5;refine yZ (v:=.tuple #[evV Evt.zero, .int .i64 83]) (J187 _) rfl ⟨rfl,zAB.after zR zo (yh HH.out) K5⟩
   ·clear h hm e hbd hok HEN
    go_enter Tryz.func17,Tryz.ntmps17
    go_upto_region 1 with fail
    try rw [e3]
    try rw [e4]
    clear e3 e4;go_wp2_with fail
    obtain ⟨R5,K5⟩:=zAX (w:=w) [.int .i64 0, .int .i64 0, .int .i64 0, .int .i64 0, .int .i64 0] (HR4.out) rfl (HB4.out.2.1) HB4.out.1;simp only [zB3,yY,Nat.reduceAdd] at R5 K5;refine yZ (v:=.tuple #[evV Evt.zero, .int .i64 81]) (J187 _) rfl ⟨rfl,zAB.after zR zo (yh HH.out) K5⟩
   ·clear h hm e hbd hok HEN
    go_enter Tryz.func17,Tryz.ntmps17
    go_upto_region 1 with fail
    try rw [e3]
    try rw [e4]
    clear e3 e4;go_wp2_with fail
    obtain ⟨R5,K5⟩:=zAX (w:=w) [.int .i64 0, .int .i64 0, .int .i64 0, .int .i64 0, .int .i64 0] (HR4.out) rfl (HB4.out.2.1) HB4.out.1;simp only [zB3,yY,Nat.reduceAdd] at R5 K5;refine yZ (v:=.tuple #[evV Evt.zero, .int .i64 82]) (J187 _) rfl ⟨rfl,zAB.after zR zo (yh HH.out) K5⟩
end
section
variable {w w':World} {T:zS} {F:Nat -> Prop} {id b i:Nat} {u:Un} {p:zAn} {m:ze} {H:List HTh}
theorem RW.own {w1 w2:World} {T1:zS} {g:Nat} (hx:zAE T T1 id w) (hq:Keeps (zAh T id) w w1) (h:RW w1 T1 F id b u p m w') (h1:w.heap.size <= g) (h2:g < w1.heap.size) (h3:T1 g=none) (h4:¬ F g) (hw:Keeps (fun q=>q=g) w' w2):RW w T F id b u p m w2:=by
 obtain ⟨T',H',M,e,q⟩:=h;have hg:T' g=none:=e.none h3 h2
 refine ⟨T',H',MaP.keeps zR zo M hw (fun q e1 e2=>by
  rw [e2] at e1;rcases e1 with ⟨t,e1⟩ | e1
  ·rw [hg] at e1;cases e1
  ·exact h4 e1),hx.trans e hq.size,?_⟩
 exact (hq.trans q (fun k hlt hs=>hx.own hs hlt)).trans hw (fun k hlt e=>by
  have e':k=g:=e;omega)
theorem zKy (h:RM w T F id b u p m H) (hu:zW u=true) (hm:m.ok u) (hd:m.idle) (i:Nat) (hr:zBP m i=0) :
 Calls Tryz.prog 17 #[.pointer (some ⟨b,0,none⟩), .int .i64 i] w (zNs w T F id b u p (stepM u m i)):=by
 obtain ⟨_,hi,h2⟩:=hm.run hr;rw [Int.toNat_natCast] at hi h2;have hab:zAY m i=true:=by have:=(zFB hr).2.2.2.2.2;rwa [Int.toNat_natCast] at this
 have HES:Hid (stepM u m i=((zAg u m i).1,(zAg u m i).2,0)):=by show _=_;unfold stepM;rw [if_pos hr,Int.toNat_natCast]
 obtain ⟨b4,w4,e3,e4,R4,K4,_⟩:=newRow w [.int .i64 0, .int .i64 0, .int .i64 0, .int .i64 0, .int .i64 0] 40;have HM:Hid (RM w4 T F id b u p m H):=xQ zR zo h K4;have HFR:=yB (h.zL.sep.free (g:=b4) (by omega));have HB4:Hid (w.heap.size <= b4 /\ Keeps zA w w4 /\ b4 < w4.heap.size):=⟨by exact J195 _,K4,R4.lt (by simp)⟩;have HR4:=yB R4;have k4:=zH w4;have i0:(0:Int) <= i:=by omega
 have i1:(i:Int) < (m.zL.length:Int):=by omega
 have y5:=HM.out.zA2;have ts:=HM.out.st hi;rw [h2] at ts;have HEN:=zEn HM.out hm hi;rw [hab] at HEN;have HACT:=zDj HM.out hm hi;have HNX:=RM.nx HM.out hm hi h2;have HH:Hid (zW u=true /\ m.ok u /\ i < m.zL.length /\ (m.get i).st=2 /\ m.idle):=⟨hu,hm,hi,h2,hd⟩;have e1:decide ((i:Int) < 0)=false:=xL (by omega);have e2:decide ((m.zL.length:Int) <= (i:Int))=false:=xL (by omega);generalize hK:(zAP m i).1=K at HACT;generalize hO:(zAP m i).2=O at HACT;have HKO:Hid ((zAP m i).1=K /\ (zAP m i).2=O):=⟨hK,hO⟩;obtain ⟨nm,hnm⟩:∃ z,z=m.zL.length:=⟨_,rfl⟩
 rw [<- hnm] at y5 i1 e2;have HNM:=yB hnm;clear h hu hm hr hi h2 K4 R4 hK hO hnm hab hd;go_enter Tryz.func17,Tryz.ntmps17
 go_upto_region 1 with fail
 try rw [e3]
 try rw [e4]
 clear e3 e4;go_upto_region 14 with (first | (go_at_call 50;refine HEN.call k4 ?_;intro w5 k45 k5) | (go_at_call 51;refine HACT.call k45 ?_;intro w6 k46 k6))
 obtain ⟨b7,w7,e3,e4,R7,K7,_⟩:=newRow w6 [.int .i64 K, .int .i64 O] 97;rw [e3,e4];have y7:=R7.all2;have k47:Keeps zA w4 w7:=k46.zB K7;have k7:=zH w7;clear e3 e4 K7 R7 k5 k6 k45 k46;go_upto_region 15 with fail
 obtain ⟨b8,w8,e3,e4,R8,K8,_⟩:=newRow w7 [.int .i64 i, .int .i64 K, .int .i64 O, .int .i64 0, .int .i64 0] 40;rw [e3,e4];have k48:Keeps zA w4 w8:=k47.zB K8
 have HB8:Hid (w.heap.size <= b8 /\ b8 < w8.heap.size /\ T b8=none /\ ¬ F b8 /\ b4 ≠ b8):=by
  have h1:w4.heap.size <= b8:=by rw [<- e3];exact k47.size
  have h2:=HM.out.zL.sep.free h1;exact ⟨by have:=HB4.out.2.1.size;omega,R8.lt (by simp),h2.1,h2.2,by have:=HB4.out.2.2;omega⟩
 have HR8:=yB R8;have k8:=zH w8;clear e3 e4 K8 R8 k7 y7 k47;rcases HNX with ⟨h3,h4,hn⟩ | ⟨a,f,r,xa,xc,ta,tc,ea,ec,bd,h3,h4,h5,hbd,h6,hrl,n2,n9,hx,hn⟩
 ·go_upto_region 16 with (go_at_call 52;refine hn.call k48 ?_;intro w9 _ k9)
  obtain ⟨b9,wA,e3,e4,RA,KA,_⟩:=newRow w9 [.int .i64 0, .int .i64 0, .int .i64 0, .int .i64 0, .int .i64 0, .string { data:=#[] }, .slice none 0 0, .int .i64 0, .slice none 0 0, .slice none 0 0] 75;rw [e3,e4];have k4A:Keeps zA w4 wA:=(k48.zB k9).zB KA;have k8A:Keeps zA w8 wA:=k9.zB KA;have HMA:Hid (RM wA T F id b u p m H):=xQ zR zo HM.out k4A;have HRA:=yB RA;have HR8A:=yB (HR8.out.keeps k8A (fun h=>h));have HR4A:=yB (HR4.out.keeps k4A (fun h=>h));have HKA:=yB k4A;have HLT:Hid (b8 < wA.heap.size /\ b4 < wA.heap.size):=⟨yK HB8.out.2.1 k8A.size,yK HB4.out.2.2 k4A.size⟩;have kA:=zH wA;have ea:zAP m i=(9,(i:Int)):=J236 _;have hKO:=HKO.out;rw [ea] at hKO;obtain ⟨rfl,rfl⟩:=hKO
  have HDN:Hid (zAg u m i=(m.zAS i { m.get i with st:=3 },⟨i,9,i,0,0⟩)):=by
   show zAg u m i=_
   unfold zAg;simp only [h3,ea]
  have tf:=fun W (q:Keeps zA wA W)=>(HM.out.stX HH.out.2.2.1).1 W (HKA.out.zB q)
  replace y5:=fun W (q:Keeps zA wA W)=>y5 W (k4A.zB q)
  replace ts:=fun W (q:Keeps zA wA W)=>ts W (k4A.zB q)
  clear hn h3 h4 k8 k9 KA e3 e4 RA k4A k8A k48 ea k4 HEN HACT;go_upto_region 18 with fail
  have D11:=yB (HMA.out.stX HH.out.2.2.1 |>.2 wA kA 3);have HD:=D11;generalize wA.setCell ⟨p.gt,i*3,none⟩ (.int .i64 3)=wB at D11 HD ⊢;have R8B:=D11.out.row HR8A.out HB8.out.2.2.1;have y8:=R8B.five;have kB:=zH wB;clear R8B y5 ts tf kA;have HQ:=yB (D11.out.row HR4A.out HFR.out.1);have f0:=zN HQ.out 0 (by simp);have f1:=zN HQ.out 1 (by simp);have f2:=zN HQ.out 2 (by simp);have f3:=zN HQ.out 3 (by simp);have f4:=zN HQ.out 4 (by simp);have y4:=HQ.out.five;go_wp2_with fail
  have R5:=zDn [.int .i64 i, .int .i64 9, .int .i64 i, .int .i64 0, .int .i64 0] 0 _ _ HQ.out rfl;have hw:=RW.own (uV T id w) ((HB4.out.2.1.zB HKA.out).mono (fun _ _ h=>h.elim)) HD.out HB4.out.1 HLT.out.2 HFR.out.1 HFR.out.2 (zBF b4 [.int .i64 i, .int .i64 9, .int .i64 i, .int .i64 0, .int .i64 0] 0 wB);simp only [zB3,yY,Nat.reduceAdd,List.take_zero,List.nil_append] at R5 hw;generalize (((((wB).setCell ⟨b4,0,none⟩ (.int .i64 i)).setCell ⟨b4,1,none⟩ (.int .i64 9)).setCell ⟨b4,2,none⟩ (.int .i64 i)).setCell ⟨b4,3,none⟩ (.int .i64 0)).setCell ⟨b4,4,none⟩ (.int .i64 0)=wz at R5 hw ⊢;refine yZ (v:=.tuple #[.agg #[.int .i64 i, .int .i64 9, .int .i64 i, .int .i64 0, .int .i64 0], .int .i64 0]) (by simp [results,Tryz.results17,go_sem,R5.cell (k:=0) rfl,R5.cell (k:=1) rfl,R5.cell (k:=2) rfl,R5.cell (k:=3) rfl,R5.cell (k:=4) rfl]) rfl ?_
  rw [HES.out,HDN.out];exact ⟨rfl,hw⟩
 ·go_upto_region 16 with (go_at_call 52;refine hn.call k48 ?_;intro w9 _ k9)
  obtain ⟨b9,wA,e3,e4,RA,KA,_⟩:=newRow w9 [.int .i64 a.kind, .int .i64 a.reg, .int .i64 a.obj, .int .i64 a.ex.kind, .int .i64 a.ex.num, .string a.ex.nm, .slice xa a.ex.args.length xc, .int .i64 a.count, .slice ta a.thn.length tc, .slice ea a.els.length ec] 75;rw [e3,e4];have k4A:Keeps zA w4 wA:=(k48.zB k9).zB KA;have k8A:Keeps zA w8 wA:=k9.zB KA;have HMA:Hid (RM wA T F id b u p m H):=xQ zR zo HM.out k4A;have HRA:=yB RA;have HR8A:=yB (HR8.out.keeps k8A (fun h=>h));have HR4A:=yB (HR4.out.keeps k4A (fun h=>h));have HKA:=yB k4A;have HLT:Hid (b8 < wA.heap.size /\ b4 < wA.heap.size):=⟨yK HB8.out.2.1 k8A.size,yK HB4.out.2.2 k4A.size⟩;have kA:=zH wA;have eac:zAP m i=(a.kind - 1,a.obj):=J236 _;have hKO:=HKO.out;rw [eac] at hKO;obtain ⟨rfl,rfl⟩:=hKO;have n0:(a.kind - 1==9)=false:=xA (by omega);have hsp:=zAd h4;rcases hdm:doM u m i a with ⟨m1,v,bad⟩;have HDM:=yB hdm
  have HDO:Hid (m1.ok u /\ m1.zL.length=m.zL.length /\ (m1.get i).st=2 /\ (m1.get i).fs=(m.get i).fs):=by
   exact J101 _
  have HST:Hid ((m.get i).next=some a /\ zAP m i=(a.kind - 1,a.obj) /\ (m.get i).fs=(m.get i).fs.dropLast++[f] /\ f.rest=a :: r /\ (m.get i).fs.getLast?=some f):=⟨h3,eac,hsp,h5,h4⟩
  have HDS:Calls Tryz.prog 53 #[.pointer (some ⟨b,0,none⟩), .int .i64 i, .agg #[.int .i64 a.kind, .int .i64 a.reg, .int .i64 a.obj, .int .i64 a.ex.kind, .int .i64 a.ex.num, .string a.ex.nm, .slice xa a.ex.args.length xc, .int .i64 a.count, .slice ta a.thn.length tc, .slice ea a.els.length ec]] wA fun e w'=>e=.returned (.tuple #[.int .i64 v, .int .i64 bad]) /\ RW wA T F id b u p m1 w':=by
   have:=zJ2 (xc:=xc) (ta:=ta) (tc:=tc) (ea:=ea) (ec:=ec) ⟨HMA.out,HH.out.2.1,HH.out.1,HH.out.2.2.2.2,HH.out.2.2.1,h6,hrl,xX hx HKA.out (fun _ _ h=>h)⟩ ⟨n2,n9⟩
   rw [hdm] at this;exact this
  have HDS:=yB HDS;have HBD:=yB hbd;have yA:=RA.zAO;replace y5:=fun W (q:Keeps zA wA W)=>y5 W (k4A.zB q)
  clear hn h3 h4 k8 k9 KA e3 e4 RA k4A k8A k48 eac k4 HEN HACT hsp hdm hx hrl h6 h5 hbd ts;go_upto_region 20 with (go_at_call 53;refine HDS.out.mono ?_;rintro e wB ⟨rfl,gB⟩;have DB:=yB gB;clear gB)
  obtain ⟨TB,HB,MB,xB,qB⟩:=DB.out;have HT8:Hid (TB b8=none /\ TB b4=none):=⟨xB.none HB8.out.2.2.1 HLT.out.1,xB.none HFR.out.1 HLT.out.2⟩;have R8B:=DB.out.row HR8A.out HB8.out.2.2.1;have HR8B:=yB R8B;have HR4B:=yB (DB.out.row HR4A.out HFR.out.1);have g3:=zN R8B 3 (by simp);have g4:=zN R8B 4 (by simp);have y8:=R8B.five;have kB:=zH wB;have HMB:=yB MB;have HXB:Hid (zAE T TB id wA /\ Keeps (zAh T id) wA wB):=⟨xB,qB⟩;clear MB xB qB R8B yA y5 kA;go_upto_region 22 with fail
  have R8C:=(HR8B.out.set 3 (by simp) (.int .i64 v)).set 4 (by simp) (.int .i64 bad);have KC:Keeps (fun q=>q=b8) wB ((wB.setCell ⟨b8,3,none⟩ (.int .i64 v)).setCell ⟨b8,4,none⟩ (.int .i64 bad)):=((yC (fun q=>q=b8) wB).setCell (p:=⟨b8,3,none⟩) (fun _=>rfl) _).setCell (p:=⟨b8,4,none⟩) (fun _=>rfl) _;generalize (wB.setCell ⟨b8,3,none⟩ (.int .i64 v)).setCell ⟨b8,4,none⟩ (.int .i64 bad)=wC at R8C KC ⊢;have R8C:zC wC b8 [.int .i64 i, .int .i64 (a.kind - 1), .int .i64 a.obj, .int .i64 v, .int .i64 bad]:=R8C;have HR8C:=yB R8C;have HR4C:=yB (HR4B.out.keeps KC (fun e=>HB8.out.2.2.2.2 e))
  have HNOT:Hid (∀ k,zAh TB id k \/ F k -> ¬ k=b8):=fun k e1 e2=>by
   rw [e2] at e1;rcases e1 with ⟨t,e1⟩ | e1
   ·rw [HT8.out.1] at e1;cases e1
   ·exact HB8.out.2.2.2.1 e1
  have HMC:Hid (RM wC TB F id b u p m1 HB):=MaP.keeps zR zo HMB.out KC HNOT.out;have HLC:Hid (b4 < wC.heap.size):=yK HLT.out.2 (yX HXB.out.2.size KC.size)
  have HXC:Hid (zAE T TB id w /\ Keeps (zAh T id) w wC):=⟨⟨HXB.out.1.1,fun k y e=>(HXB.out.1.2 k y e).imp (fun h=>h) (fun h=>⟨yX (HB4.out.2.1.zB HKA.out).size h.1,h.2⟩)⟩,(((HB4.out.2.1.zB HKA.out).mono (fun _ _ h=>h.elim)).trans HXB.out.2 (fun _ _ h=>h)).trans KC (fun k hlt e=>by
   have e':k=b8:=e;have:=HB8.out.1
   omega)⟩
  have hi1:i < m1.zL.length:=by rw [HDO.out.2.1];exact HH.out.2.2.1
  have HI1:=yB hi1;have y5:=HMC.out.zA2;rw [HDO.out.2.1,<- HNM.out] at y5;have y8':=R8C.five;have kC:=zH wC;clear R8C KC hi1 y8 kB g3 g4;by_cases hb:bad=0
  ·have hbb:(bad != 0)=false:=by rw [hb];rfl
   have HB0:=yB hb;clear hb;obtain ⟨rv1,gp1,cap1,css1,cs1,hL1⟩:=zAT.zH3 zR HMC.out.zL (xK HI1.out) (HDO.out.2.2.2.trans HST.out.2.2.1);have hok1:=HDO.out.1.each i _ bd (xK HI1.out) HBD.out;have hfo1:=hok1.2.1 (by rw [HDO.out.2.2.1];decide);have hfo2:=hfo1.2;rw [HDO.out.2.2.2,HST.out.2.2.1] at hfo2;have HP:=yB (zGx hL1 HST.out.2.2.2.1 hfo2.split.2);clear hL1 hfo2 hfo1 hok1;go_upto_region 26 with (go_at_call 54;refine HP.out.mono ?_;rintro e wD ⟨rfl,gD⟩;have DD:=yB (HMC.out.went zo gD);clear gD)
   obtain ⟨TD,HD',MD,xD,qD⟩:=DD.out;have HXD:Hid (zAE TB TD id wC /\ Keeps (zAh TB id) wC wD):=⟨xD,qD⟩;have HMD:=yB MD
   have hon:({ m1.get i with fs:=(m.get i).fs.dropLast++[⟨r,f.all,f.left⟩] }:WTh)=(m1.get i).on:=by
    unfold WTh.on;rw [HDO.out.2.2.2,HST.out.2.2.2.2];simp only [HST.out.2.2.2.1,List.tail_cons]
   have hok1:=HDO.out.1.each i _ bd (xK HI1.out) HBD.out;have hfo1:=hok1.2.1 (by rw [HDO.out.2.2.1];decide)
   have HL:=yB (zF4 (n:=bd.regs) (u:=u) (t:=(m1.get i).on) (i:=i) MD.zL (by rw [hon];exact yU HI1.out) (zNW hfo1.2) (by
    have:(m1.get i).on.regs=(m1.get i).regs:=by unfold WTh.on;split <;> rfl
    rw [this];exact hfo1.1))
   have y5:=MD.zA2;rw [ze.zBA,HDO.out.2.1,<- HNM.out] at y5;have HON:=yB hon;have kD:=zH wD;clear MD xD qD hon hok1 hfo1 y8' kC;go_upto_region 27 with (go_at_call 55;refine HL.out.mono ?_;rintro e wE ⟨rfl,gE⟩;have DE:=yB (HMD.out.went zo gE);clear gE)
   have DF:Hid (RW wC TB F id b u p (m1.zAS i (m1.get i).on.local) wE):=by
    have h:=kU HXD.out.1 HXD.out.2 DE.out;exact J76 _
   have R8E:=DF.out.row HR8C.out HT8.out.1;have y8:=R8E.five
   have HDN:Hid (zAg u m i=(m1.zAS i (m1.get i).on.local,⟨i,a.kind - 1,a.obj,v,bad⟩)):=by
    show zAg u m i=_
    exact J134 _
   have kE:=zH wE;clear kD y5 R8E;exact J13 _
  ·have hbb:(bad != 0)=true:=uA.2 hb
   have HB0:=yB hb;clear hb;obtain ⟨tf,sf⟩:=HMC.out.stX HI1.out;have DF:=yB (sf wC kC 4)
   have HDN:Hid (zAg u m i=(m1.zAS i { m1.get i with st:=4 },⟨i,a.kind - 1,a.obj,v,bad⟩)):=by
    show zAg u m i=_
    unfold zAg;simp only [HST.out.1,HST.out.2.1,HDM.out];rw [if_pos HB0.out]
   have ts:=HMC.out.st HI1.out;clear sf;go_upto_region 24 with fail
   generalize wC.setCell ⟨p.gt,i*3,none⟩ (.int .i64 4)=wE at DF ⊢;have R8E:=DF.out.row HR8C.out HT8.out.1;have y8:=R8E.five;have kE:=zH wE;clear y8' kC y5 R8E tf ts;exact J13 _
theorem zJr (h:RM w T F id b u p m H) (hu:zW u=true) (hm:m.ok u) (hd:m.idle) (i:Int) :
 Calls Tryz.prog 17 #[.pointer (some ⟨b,0,none⟩), .int .i64 i] w (zNs w T F id b u p (stepM u m i)):=by
 by_cases h0:zBP m i=0
 ·obtain ⟨h1,h2,_⟩:=hm.run h0
  obtain ⟨k,rfl⟩:∃ k:Nat,i=k:=⟨i.toNat,by omega⟩
  exact zKy h hu hm hd k h0
 ·exact zKt h hm i h0
end
abbrev zC8:=zAq zA4 3 149 zBB
section
variable {D N:Nat -> Prop} {w:World} {b:Nat} {u:Un} {m:ze}
theorem zC8.zNd (h:zC8 D N w b u m) (i:Int):Calls Tryz.prog 17 #[.pointer (some ⟨b,0,none⟩), .int .i64 i] w fun e w'=>e=.returned (.tuple #[evV (stepM u m i).2.1, .int .i64 (stepM u m i).2.2]) /\ zC8 D N w' b u (stepM u m i).1 /\ Keeps (fun q=>¬ N q) w w' :=
 h.stepped fun _ _ _ _ h1=>zJr h1 h.right h.ok h.idle i
theorem zC8.zMZ (h:zC8 D N w b u m):Calls Tryz.prog 48 #[.pointer (some ⟨b,0,none⟩)] w (zFV w m):=by
 obtain ⟨T,F,p,H,h1,h2⟩:=h.ex;exact zI5 h1 h.right h.ok
end
section
variable {cs:List Int} {mu:Int} {bs:List Bd} {w:World} {F:Nat -> Prop} {uca uta:Option Addr} {ucc utc:Nat}
theorem zB0.zOF (h:zB0 w F cs bs uca uta) (hr:newR ⟨cs,mu,bs⟩ ≠ 0):Calls Tryz.prog 10 #[.agg #[.slice uca cs.length ucc, .int .i64 mu, .slice uta bs.length utc]] w fun e w'=>e=.returned (.tuple #[.pointer none, .int .i64 (newR ⟨cs,mu,bs⟩)]) /\ Keeps zA w w' :=
 zMz _ hr (yB fun W hk=>(h.zF hk).zJi)
theorem zB0.zLw (h:zB0 w F cs bs uca uta) (hr:newR ⟨cs,mu,bs⟩=0):Calls Tryz.prog 10 #[.agg #[.slice uca cs.length ucc, .int .i64 mu, .slice uta bs.length utc]] w fun e w'=>∃ b,e=.returned (.tuple #[.pointer (some ⟨b,0,none⟩), .int .i64 0]) /\ zC8 F (fun q=>q < w.heap.size) w' b ⟨cs,mu,bs⟩ (zAi ⟨cs,mu,bs⟩) /\ Keeps zA w w':=by
 have hR:=zBQ hr;refine (zNB (T:=fun _=>none) (id:=0) h.nums h.bds (fun k x e=>by cases e) (fun k t e=>by cases e) (fun k hk=>⟨rfl,h.low k hk⟩) hR (yB fun W hk=>by have g:=(h.zF hk).zJi (mu:=mu) (ucc:=ucc) (utc:=utc);rw [hr] at g;exact g)).mono ?_
 rintro e w' ⟨b,T',p,H,rfl,h1,h2,h3⟩
 exact ⟨b,rfl,zAq.new zR zo hR h1 h2 h3 (fun q e=>.inl e),h3⟩
end
section
variable {cs:List Int} {mu:Int} {bs:List Bd} {w:World} {F:Nat -> Prop} {uca uta:Option Addr} {ucc utc:Nat}
theorem zL0 (h:zB0 w F cs bs uca uta) (hr:newR ⟨cs,mu,bs⟩ ≠ 0) (v:Value):Calls Tryz.prog 27 #[.agg #[.slice uca cs.length ucc, .int .i64 mu, .slice uta bs.length utc],v] w fun e w'=>e=.returned (.tuple #[.slice none 0 0,zC0, .int .i64 (newR ⟨cs,mu,bs⟩)]) /\ Keeps zA w w':=by
 have HNO:Hid (∀ W,Keeps zA w W -> Calls Tryz.prog 10 #[.agg #[.slice uca cs.length ucc, .int .i64 mu, .slice uta bs.length utc]] W fun e w'=>e=.returned (.tuple #[.pointer none, .int .i64 (newR ⟨cs,mu,bs⟩)]) /\ Keeps zA W w'):=fun W hk=>(h.zF hk).zOF hr
 have hb:(newR ⟨cs,mu,bs⟩ != 0)=true:=uA.2 hr;generalize newR ⟨cs,mu,bs⟩=rr at hb HNO ⊢;clear h hr;go_enter Tryz.func27,Tryz.ntmps27
 go_upto_region 1 with fail
 obtain ⟨b1,w1,x1,z1,R1,K1,s1⟩:=newRow w [.slice uca cs.length ucc, .int .i64 mu, .slice uta bs.length utc] 25;try rw [x1]
 try rw [z1]
 obtain ⟨y,w2,x2,z2,R2,K2,s2⟩:=newRow w1 [.slice none 0 0, .slice none 0 0, .slice none 0 0, .slice none 0 0] 50;have n1:b1+1=y:=s1.out.symm.trans x2;try rw [n1]
 try rw [x2]
 try rw [z2]
 have y1:=(R1.keeps K2 (fun h=>h)).zCw;have HRY:=yB R2;have k2:=zH w2;have HK2:Hid (Keeps zA w w2):=K1.zB K2;have HY:Hid (w.heap.size <= y /\ y < w2.heap.size):=⟨by rw [<- x2];exact K1.size,R2.lt (by simp)⟩;have yy:=R2.zBd;have f0:=zN R2 0 (by decide);have f1:=zN R2 1 (by decide);have f2:=zN R2 2 (by decide);have f3:=zN R2 3 (by decide);clear n1 x1 z1 x2 z2 R1 R2 K1 K2 s1 s2;go_wp2_with (go_at_call 10;refine (HNO.out _ HK2.out).mono ?_;rintro e w3 ⟨rfl,k3⟩;have HK3:=yB k3)
 obtain ⟨R5,K5⟩:=zAX (w:=w) [.slice none 0 0, .slice none 0 0, .slice none 0 0, .slice none 0 0] (HRY.out.keeps HK3.out (fun h=>h)) rfl (HK2.out.zB HK3.out) HY.out.1;simp only [zB3,yY,Nat.reduceAdd] at R5 K5;refine yZ (v:=.tuple #[.slice none 0 0,zC0, .int .i64 rr]) (by simp [results,Tryz.results27,go_sem,R5.cell (k:=0) rfl,R5.cell (k:=1) rfl,R5.cell (k:=2) rfl,R5.cell (k:=3) rfl,zC0]) rfl ⟨rfl,K5⟩
theorem zIW (h:zB0 w F cs bs uca uta) (sa:Option Addr) (sc n:Nat) (hn:1000 < n) (hr:newR ⟨cs,mu,bs⟩=0):Calls Tryz.prog 27 #[.agg #[.slice uca cs.length ucc, .int .i64 mu, .slice uta bs.length utc], .slice sa n sc] w fun e w'=>e=.returned (.tuple #[.slice none 0 0,zC0, .int .i64 230]) /\ Keeps zA w w':=by
 have hR:=zBQ hr;have HNW:Hid (∀ W,Keeps zA w W -> Calls Tryz.prog 10 #[.agg #[.slice uca cs.length ucc, .int .i64 mu, .slice uta bs.length utc]] W fun e w'=>∃ b,e=.returned (.tuple #[.pointer (some ⟨b,0,none⟩), .int .i64 0]) /\ zC8 F (fun q=>q < W.heap.size) w' b ⟨cs,mu,bs⟩ (zAi ⟨cs,mu,bs⟩) /\ Keeps zA W w'):=fun W hk=>(h.zF hk).zLw hr
 have hb:decide ((1000:Int) < n)=true:=xW (by omega);have hb2:(1000 < n)=True:=eq_true hn;clear h hr hR hn;go_enter Tryz.func27,Tryz.ntmps27
 go_upto_region 1 with fail
 obtain ⟨b1,w1,x1,z1,R1,K1,s1⟩:=newRow w [.slice uca cs.length ucc, .int .i64 mu, .slice uta bs.length utc] 25;try rw [x1]
 try rw [z1]
 obtain ⟨y,w2,x2,z2,R2,K2,s2⟩:=newRow w1 [.slice none 0 0, .slice none 0 0, .slice none 0 0, .slice none 0 0] 50;have n1:b1+1=y:=s1.out.symm.trans x2;try rw [n1]
 try rw [x2]
 try rw [z2]
 have y1:=(R1.keeps K2 (fun h=>h)).zCw;have HRY:=yB R2;have k2:=zH w2;have HK2:Hid (Keeps zA w w2):=K1.zB K2;have HY:Hid (w.heap.size <= y /\ y < w2.heap.size):=⟨by rw [<- x2];exact K1.size,R2.lt (by simp)⟩;have yy:=R2.zBd;have f0:=zN R2 0 (by decide);have f1:=zN R2 1 (by decide);have f2:=zN R2 2 (by decide);have f3:=zN R2 3 (by decide);clear n1 x1 z1 x2 z2 R1 R2 K1 K2 s1 s2;go_wp2_with (go_at_call 10;refine (HNW.out _ HK2.out).mono ?_;rintro e w3 ⟨b,rfl,hm,k3⟩;have HK3:=yB k3;clear hm)
 obtain ⟨R5,K5⟩:=zAX (w:=w) [.slice none 0 0, .slice none 0 0, .slice none 0 0, .slice none 0 0] (HRY.out.keeps HK3.out (fun h=>h)) rfl (HK2.out.zB HK3.out) HY.out.1;simp only [zB3,yY,Nat.reduceAdd] at R5 K5;refine yZ (v:=.tuple #[.slice none 0 0,zC0, .int .i64 230]) (by simp [results,Tryz.results27,go_sem,zC0,R5.cell (k:=0) rfl,R5.cell (k:=1) rfl,R5.cell (k:=2) rfl,R5.cell (k:=3) rfl]) rfl ⟨rfl,K5⟩
theorem zK5 (h:zB0 w F cs bs uca uta) (sa:Option Addr) (sc:Nat) (ts:List Int) (hx:zu w (.slice sa ts.length sc) ts.length (ints ts)) (hn:ts.length <= 1000) (hr:newR ⟨cs,mu,bs⟩=0):Calls Tryz.prog 27 #[.agg #[.slice uca cs.length ucc, .int .i64 mu, .slice uta bs.length utc], .slice sa ts.length sc] w (zNV w (plN ⟨cs,mu,bs⟩ (zAi ⟨cs,mu,bs⟩) ts)):=by
 have hR:=zBQ hr;have HNW:Hid (∀ W,Keeps zA w W -> Calls Tryz.prog 10 #[.agg #[.slice uca cs.length ucc, .int .i64 mu, .slice uta bs.length utc]] W fun e w'=>∃ b,e=.returned (.tuple #[.pointer (some ⟨b,0,none⟩), .int .i64 0]) /\ zC8 F (fun q=>q < W.heap.size) w' b ⟨cs,mu,bs⟩ (zAi ⟨cs,mu,bs⟩) /\ Keeps zA W w'):=fun W hk=>(h.zF hk).zLw hr
 have HFL:=yB h.low;obtain ⟨u,hu⟩:∃ u:Un,u=⟨cs,mu,bs⟩:=⟨_,rfl⟩
 rw [<- hu] at HNW hR ⊢
 have HX:Hid (∀ W,Keeps (fun q=>w.heap.size <= q) w W -> ∀ k,k < ts.length -> ∃ g o,sa=some ⟨g,o,none⟩ /\ W.cell? ⟨g,o+k,none⟩=some (.int .i64 (ts.getD k 0))):=fun W hk k hk2=>by
  obtain ⟨ad,cap,e,h1⟩:=(hx.up hk (xC _) (by simp [ints]):zu W (.slice sa ts.length sc) ts.length (ints ts)).ints;cases e;exact h1 k hk2
 obtain ⟨n,hnn⟩:∃ z,z=ts.length:=⟨_,rfl⟩
 have HN:=yB hnn;obtain ⟨R,hRR⟩:∃ z,z=plN u (zAi u) ts:=⟨_,rfl⟩
 have HRR:=yB hRR;rw [<- hRR];rw [<- hnn] at hn HX ⊢;have hb:decide ((1000:Int) < n)=false:=xL (by omega);have hb2:(1000 < n)=False:=eq_false (by omega);obtain ⟨j0,hj0,hy0,hy1,hy2⟩:=info_parts zJV;clear h hx hr hR hu hnn hRR;go_enter Tryz.func27,Tryz.ntmps27
 go_upto_region 1 with fail
 obtain ⟨b1,w1,x1,z1,R1,K1,s1⟩:=newRow w [.slice uca cs.length ucc, .int .i64 mu, .slice uta bs.length utc] 25;try rw [x1]
 try rw [z1]
 obtain ⟨y,w2,x2,z2,R2,K2,s2⟩:=newRow w1 [.slice none 0 0, .slice none 0 0, .slice none 0 0, .slice none 0 0] 50;have n1:b1+1=y:=s1.out.symm.trans x2;try rw [n1]
 try rw [x2]
 try rw [z2]
 have y1:=(R1.keeps K2 (fun h=>h)).zCw;have HRY:=yB R2;have k2:=zH w2;have HK2:Hid (Keeps zA w w2):=K1.zB K2;have HY:Hid (w.heap.size <= y /\ y < w2.heap.size):=⟨by rw [<- x2];exact K1.size,R2.lt (by simp)⟩;have yy:=R2.zBd;have f0:=zN R2 0 (by decide);have f1:=zN R2 1 (by decide);have f2:=zN R2 2 (by decide);have f3:=zN R2 3 (by decide);clear n1 x1 z1 x2 z2 R1 R2 K1 K2 s1 s2;go_upto_region 6 with (go_at_call 10;refine (HNW.out _ HK2.out).mono ?_;rintro e w3 ⟨b,rfl,hm,k3⟩;have HK3:=yB k3;have HM:=yB hm;clear hm k3)
 obtain ⟨g0,hg0⟩:∃ g,g=w2.heap.size:=⟨_,rfl⟩
 have HG0:=yB hg0;have HFG:Hid (∀ q,g0 <= q -> ¬ F q):=fun q hq e=>by have:=HFL.out q e;have:=HG0.out;have:=HY.out;omega
 have M3:Hid (zC8 F (NBO g0 (.slice none 0 0)) w3 b u (zAi u)):=by
  exact J125 _
 have HK23:Hid (Keeps (fun q=>g0 <= q) w2 w3):=HK3.out.mono (fun _ _ h=>h.elim);clear hg0 HM y1 yy f0 f1 f2 f3 k2 HNW HK3 HFL;go_wp2_with fail
 go_loopw [9,10] (fun ov kv wr=>∃ (k oc:Nat) (oa:Option Addr),k <= n /\ ov=.slice oa k oc /\ kv=.int .i64 k /\ Hid (wr.ownsRow 0 116 7 (.slice oa k oc) k ((plN u (zAi u) (ts.take k)).1.flatMap stC) /\ (∀ g,(Value.slice oa k oc).ownBlock=some g -> g0 <= g) /\ zC8 F (NBO g0 (.slice oa k oc)) wr b u (plN u (zAi u) (ts.take k)).2 /\ Keeps (fun q=>g0 <= q) w2 wr)) (fun _ kv _=>n - (intOf kv).toNat)
 case atStart=>exact ⟨0,0,none,yJ _,rfl,rfl,xI _ _ _ _,fun g e=>by exact J182 _,M3.out,HK23.out⟩
 case round =>
  obtain ⟨lo,oc,oa,hlo,rfl,rfl,HI⟩:=hrel;clear M3 HK23;obtain ⟨how,hnew,hmm,hkk⟩:=HI.out;have HKK:=yB hkk;have HM:=yB hmm;have HOW:=yB how;have HNEW:=yB hnew;by_cases hlt:lo < n
  ·obtain ⟨gs,os,es,cs0⟩:=HX.out wr (HK2.out.trans hkk (fun q hq e=>by exact J192 _) |>.mono (fun _ _ h=>h.elim)) lo hlt
   subst es;obtain ⟨t,ht⟩:∃ z,z=ts.getD lo 0:=⟨_,rfl⟩
   rw [<- ht] at cs0;obtain ⟨m,hm⟩:∃ z,z=(plN u (zAi u) (ts.take lo)).2:=⟨_,rfl⟩
   obtain ⟨D,hD⟩:∃ z,z=(plN u (zAi u) (ts.take lo)).1:=⟨_,rfl⟩
   rw [<- hm] at HM hmm;rw [<- hD] at HOW
   have HTK:Hid (plN u (zAi u) (ts.take (lo+1))=(D++[⟨t,(stepM u m t).2.2,(stepM u m t).2.1⟩],(stepM u m t).1)):=by
    show _=_
    have hlt2:lo < ts.length:=by rw [<- HN.out];exact hlt
    have e:ts.take (lo+1)=ts.take lo++[t]:=by rw [List.take_add_one,ht];simp [hlt2,List.getD]
    rw [e,zHv,<- hm,<- hD]
   rcases hst:stepM u m t with ⟨m',⟨xt,xk,xo,xv,xb⟩,fl⟩;rw [hst] at HTK
   have HST:Hid (Calls Tryz.prog 17 #[.pointer (some ⟨b,0,none⟩), .int .i64 t] wr fun e w'=>e=.returned (.tuple #[.agg #[.int .i64 xt, .int .i64 xk, .int .i64 xo, .int .i64 xv, .int .i64 xb], .int .i64 fl]) /\ zC8 F (NBO g0 (.slice oa lo oc)) w' b u m' /\ Keeps (fun q=>¬ NBO g0 (.slice oa lo oc) q) wr w'):=by
    have h:=zC8.zNd hmm t;rw [hst] at h;exact h
   have HTD:Hid (t=ts.getD lo 0 /\ lo < n):=⟨ht,hlt⟩;have i1:(0:Int) <= lo:=by omega
   have i2:(lo:Int) < n:=by omega
   clear HI how hnew hmm hkk ht hm hD hst hlo;go_upto_region 11 with (go_at_call 17;refine HST.out.mono ?_;rintro e w6 ⟨rfl,hm,hk⟩;have M6:=yB hm;have HK6:=yB hk;clear hm hk)
   obtain ⟨yx,w7,x1,x2,RX,KX,sX⟩:=newRow w6 [.int .i64 xt, .int .i64 xk, .int .i64 xo, .int .i64 xv, .int .i64 xb] 40;rw [x1,x2];have M7:=yB (M6.out.zF KX);have HOW7:=yB (zG (zG HOW.out HK6.out (fun q e h=>h (.inr e))) KX (fun _ _ h=>h))
   have K27:Hid (Keeps (fun q=>g0 <= q) w2 w7):=(HKK.out.trans (HK6.out.mono (fun q _ hn=>by
    have hn':¬ q < g0:=fun h=>hn (.inl h)
    show g0 <= q
    omega)) (fun _ _ h=>h)).trans KX (fun _ _ h=>h.elim)
   obtain ⟨g',o',e',cs1⟩:=HX.out w7 (HK2.out.trans K27.out (fun q hq e=>by exact J192 _) |>.mono (fun _ _ h=>h.elim)) lo HTD.out.2;cases e';rw [<- HTD.out.1] at cs1;have c0:=zT cs1;have yx5:=RX.five;clear x1 x2 KX sX RX M6 HK6 HST cs0 cs1;refine zE3 9 (by kernel_rfl) [some (.slice oa lo oc),some (.slice (some ⟨gs,os,none⟩) n sc),some (.int .i64 lo),some (.pointer (some ⟨gs,os+lo,none⟩)),some (.int .i64 t),some (.int .i64 fl),some (.agg #[.int .i64 xt, .int .i64 xk, .int .i64 xo, .int .i64 xv, .int .i64 xb]),some (.agg #[.int .i64 t, .int .i64 fl, .int .i64 xt, .int .i64 xk, .int .i64 xo, .int .i64 xv, .int .i64 xb]),none] rfl (fun _ v W=>∃ b,v=.slice (some ⟨b,0,none⟩) 1 1 /\ zC W b [.int .i64 t, .int .i64 fl, .int .i64 xt, .int .i64 xk, .int .i64 xo, .int .i64 xv, .int .i64 xb]) (fun _ v W W' h hk=>by exact J228 _) ?_ ?_
   ·refine ⟨?_,?_,?_,?_,?_,?_,?_,?_,?_,trivial⟩ <;> (intro vs gs W Q' hR hd hK;have HRW:Keeps zA w7 W:=((zH w7).drew).zB hR;have z5:=yx5 W HRW;have zs:=c0 W HRW;simp only [zD2,zCg,zF6,zJ,tz,Option.bind,Act.put] at hd hK ⊢;try simp only [hd] at hK ⊢)
    all_goals try (try clear hd;go_wp2_with (fail);first | exact hK _ _ (yC _ _) rfl)
    ·exact J37 _
   ·intro vs W hR hFF
    have HRW:Keeps zA w7 W:=((zH w7).drew).zB hR;have e0:vs 0=_:=hFF 0 (by decide);obtain ⟨bs8,e8,hr8⟩:∃ b,vs 8=.slice (some ⟨b,0,none⟩) 1 1 /\ zC W b [.int .i64 t, .int .i64 fl, .int .i64 xt, .int .i64 xk, .int .i64 xo, .int .i64 xv, .int .i64 xb]:=hFF 8 (by decide)
    have HR8:=yB hr8;simp only [zJ,yD,yE,yI,Option.bind,Act.put,yF,yG,yH,yS,yR];rw [e0,e8];generalize vs 1=v1;generalize vs 2=v2;generalize vs 3=v3;generalize vs 4=v4;generalize vs 5=v5;generalize vs 6=v6;generalize vs 7=v7;have MW:=yB (M7.out.zF HRW);have HOWW:=yB (zG HOW7.out HRW (fun _ _ h=>h));have K2W:=yB (K27.out.trans HRW (fun _ _ h=>h.elim));clear hFF e0 e8 hr8 hR HRW c0 yx5;go_wp2_with (at_builtin;refine zI _ (by rfl) _ _ 55 (by rfl) 0 116 j0 _ 7 56 Tryz.underlying55 hj0 hy0 hy1 hy2 rfl (by decide) (.slice oa lo oc) lo (D.flatMap stC) (by rfl) HOWW.out (.slice (some ⟨bs8,0,none⟩) 1 1) 1 (stC ⟨t,fl,⟨xt,xk,xo,xv,xb⟩⟩) (by rfl) (xP HR8.out) rfl (by simp [stC,Value.oneCell']) (by unfold maxLen;omega) (by omega) (yJ _) ?_;intro ad9 cap9 w8 hout;have HO:=yB hout;have M8:=yB (zAq.app MW.out hout fun q e=>HFG.out q (HNEW.out q e));clear hout)
    refine ⟨⟨lo+1,cap9,ad9,by omega,rfl,by go_num,?_,?_,by rw [HTK.out];exact M8.out,HO.out.keeps K2W.out (fun q e _=>HNEW.out q e)⟩,by simp [intOf];omega⟩
    ·rw [HTK.out,show (D++[(⟨t,fl,⟨xt,xk,xo,xv,xb⟩⟩:zDW)]).flatMap stC=D.flatMap stC++stC ⟨t,fl,⟨xt,xk,xo,xv,xb⟩⟩ by simp]
     exact HO.out.1
    ·intro g e
     rcases HO.out.2.2 g e with h | h
     ·exact HNEW.out g h
     ·have h1:=K2W.out.size
      have h2:=HG0.out;omega
  ·have hkn:lo=n:=by omega
   subst hkn;have htk:ts.take lo=ts:=by rw [HN.out];exact xV
   rw [htk,<- HRR.out] at hmm how;obtain ⟨es,m⟩:=R;have HM:=yB (hmm:zC8 F (NBO g0 (.slice oa lo oc)) wr b u m);have HOW:Hid (wr.ownsRow 0 116 7 (.slice oa lo oc) lo (es.flatMap stC)):=how;have HS0:=yB HM.out.zMZ;have HFIN:Hid (m=m /\ lo=es.length):=⟨rfl,by have:=vP (fun r=>r.1.length) HRR.out;simp only [zFZ] at this;rw [this];exact HN.out⟩;have HRYr:=yB (HRY.out.keeps hkk (fun h=>by exact J241 _));have HGS:Hid (g0 <= wr.heap.size):=by have:=HG0.out;have:=hkk.size;show _ <= _;omega
   clear HI how hnew hmm hkk hlt hlo htk;go_upto_region 13 with (go_at_call 48;refine HS0.out.mono ?_;rintro e w8 ⟨t1,q1,t2,q2,t3,q3,t4,q4,rfl,hs⟩;have S8:=yB hs;have K8:=yB hs.keeps;clear hs)
   obtain ⟨b16,w9,x9,z9,R9,K9,_⟩:=newRow w8 [.slice t1 m.cells.length q1, .slice t2 m.owners.length q2, .slice t3 m.zL.length q3, .slice t4 m.zL.length q4] 50;rw [x9,z9];have y16:=R9.zBd;have HK9:=yB (K8.out.zB K9);have HRY9:=yB (HRYr.out.keeps HK9.out (fun h=>h));have S9:=yB K9;clear x9 z9 R9 K9;refine zE3 3 (by kernel_rfl) [some (.slice oa lo oc),some (.agg #[.slice t1 m.cells.length q1, .slice t2 m.owners.length q2, .slice t3 m.zL.length q3, .slice t4 m.zL.length q4]),some (.slice oa lo oc)] rfl (fun _ _ _=>False) (fun _ _ _ _ h _=>h) ?_ ?_
   ·refine ⟨?_,?_,?_,trivial⟩ <;> (intro vs gs W Q' hR hd hK;have HRW:Keeps zA w9 W:=((zH w9).drew).zB hR;have z6:=y16 W HRW;simp only [zD2,zCg,zF6,zJ,tz,Option.bind,Act.put] at hd hK ⊢;try simp only [hd] at hK ⊢)
    all_goals try (try clear hd;go_wp2_with (fail);first | exact hK _ _ (yC _ _) rfl)
   ·intro vs W hR hFF
    have HRW:Keeps zA w9 W:=((zH w9).drew).zB hR;have e0:vs 2=_:=hFF 2 (by decide);have e1:vs 1=_:=hFF 1 (by decide);simp only [zJ,yD,yE,yI,Option.bind,Act.put,yF,yG,yH,yS,yR];rw [e0,e1];generalize vs 0=v0;have K8W:=yB (S9.out.zB HRW);have KW:=yB (K8.out.zB K8W.out);have HRW9:=yB (HRY9.out.keeps HRW (fun h=>h));have f0:=zN HRW9.out 0 (by decide);have f1:=zN HRW9.out 1 (by decide);have f2:=zN HRW9.out 2 (by decide);have f3:=zN HRW9.out 3 (by decide);have yy:=HRW9.out.zBd;have kW:=zH W;clear hFF e0 e1 hR HRW y16;go_wp2_with fail
    have K2W:Hid (Keeps zA w W):=(HK2.out.trans HKK.out (fun q hq e=>by exact J192 _)).zB KW.out;have HKY:=zBF y [.slice t1 m.cells.length q1, .slice t2 m.owners.length q2, .slice t3 m.zL.length q3, .slice t4 m.zL.length q4] 0 W;obtain ⟨R5,K5⟩:=zAX (w:=w) [.slice t1 m.cells.length q1, .slice t2 m.owners.length q2, .slice t3 m.zL.length q3, .slice t4 m.zL.length q4] HRW9.out rfl K2W.out HY.out.1;simp only [zB3,yY,Nat.reduceAdd] at R5 K5 HKY;generalize (((W.setCell ⟨y,0,none⟩ (.slice t1 m.cells.length q1)).setCell ⟨y,1,none⟩ (.slice t2 m.owners.length q2)).setCell ⟨y,2,none⟩ (.slice t3 m.zL.length q3)).setCell ⟨y,3,none⟩ (.slice t4 m.zL.length q4)=wz at R5 K5 HKY ⊢;refine yZ (v:=.tuple #[.slice oa lo oc, .agg #[.slice t1 m.cells.length q1, .slice t2 m.owners.length q2, .slice t3 m.zL.length q3, .slice t4 m.zL.length q4], .int .i64 0]) (by simp [results,Tryz.results27,go_sem,R5.cell (k:=0) rfl,R5.cell (k:=1) rfl,R5.cell (k:=2) rfl,R5.cell (k:=3) rfl]) rfl ?_
    have hny:∀ q,wr.heap.size <= q -> ¬ (fun q=>q=y) q:=fun q hq e=>by exact J227 _
    have hws:w.heap.size <= wr.heap.size:=J249 _;have hF:zAf wz w.heap.size (.slice oa lo oc) lo (es.flatMap stC):=(((zAf.of (B:=g0) HOW.out HNEW.out).keeps KW.out (fun _ _ h=>h)).keeps HKY (fun q hq e=>by have e':q=y:=e;have:=HY.out.2;have:=HG0.out;omega)).mono (by have:=HG0.out;have:=HY.out;omega);obtain ⟨r1,r2⟩:=HFIN.out;rw [r2] at hF ⊢;exact ⟨oa,_,t1,_,t2,_,t3,_,t4,_,rfl,hF,K5,((S8.out.cells.keeps K8W.out (fun _ _ h=>h)).keeps HKY hny).mono hws,((S8.out.owners.keeps K8W.out (fun _ _ h=>h)).keeps HKY hny).mono hws,((S8.out.sts.keeps K8W.out (fun _ _ h=>h)).keeps HKY hny).mono hws,((S8.out.next.keeps K8W.out (fun _ _ h=>h)).keeps HKY hny).mono hws⟩
end
end Go.Proofs.YtfjgcedkfnmdkaaGreatDoor
