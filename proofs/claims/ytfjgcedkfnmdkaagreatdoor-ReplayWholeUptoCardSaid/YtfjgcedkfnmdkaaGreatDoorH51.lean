/- Layer H: texts joined. -/
import Derived.Test.YtfjgcedkfnmdkaaGreatDoorH50
import Derived.Test.YtfjgcedkfnmdkaaGreatDoorH49
set_option linter.all false
set_option maxHeartbeats 8000000
set_option maxRecDepth 8000
namespace Go.Proofs.YtfjgcedkfnmdkaaGreatDoor
open Go.RowKit
theorem J13 (P:Prop) (h:P:=by
 have HQ:=yB (DF.out.row HR4C.out HT8.out.2);have f0:=zT HQ.out 0 (by simp);have f1:=zT HQ.out 1 (by simp);have f2:=zT HQ.out 2 (by simp);have f3:=zT HQ.out 3 (by simp);have f4:=zT HQ.out 4 (by simp);have y4:=HQ.out.five;go_wp2_with fail
 have R5:=zDT [.int .i64 i, .int .i64 (a.kind - 1), .int .i64 a.obj, .int .i64 v, .int .i64 bad] 0 _ _ HQ.out rfl;have hw:=RW.own HXC.out.1 HXC.out.2 DF.out HB4.out.1 HLC.out HT8.out.2 HFR.out.2 (zBR b4 [.int .i64 i, .int .i64 (a.kind - 1), .int .i64 a.obj, .int .i64 v, .int .i64 bad] 0 wE);simp only [zCJ,yY,Nat.reduceAdd,List.take_zero,List.nil_append] at R5 hw;generalize (((((wE).setCell ⟨b4,0,none⟩ (.int .i64 i)).setCell ⟨b4,1,none⟩ (.int .i64 (a.kind - 1))).setCell ⟨b4,2,none⟩ (.int .i64 a.obj)).setCell ⟨b4,3,none⟩ (.int .i64 v)).setCell ⟨b4,4,none⟩ (.int .i64 bad)=wz at R5 hw ⊢;refine yZ (v:=.tuple #[.agg #[.int .i64 i, .int .i64 (a.kind - 1), .int .i64 a.obj, .int .i64 v, .int .i64 bad], .int .i64 0]) (by simp [results,Tryz.results17,go_sem,R5.cell (k:=0) rfl,R5.cell (k:=1) rfl,R5.cell (k:=2) rfl,R5.cell (k:=3) rfl,R5.cell (k:=4) rfl]) rfl ?_
 rw [HES.out,HDN.out];exact ⟨rfl,hw⟩):P:=h
theorem J34 (P:Prop) (h:P:=by
 clear h hm e;go_enter Tryz.func17,Tryz.ntmps17
 go_upto_region 1 with fail
 try rw [e3]
 try rw [e4]
 clear e3 e4;go_wp2_with fail
 obtain ⟨R5,K5⟩:=zAj (w:=w) [.int .i64 0, .int .i64 0, .int .i64 0, .int .i64 0, .int .i64 0] (HR4.out) rfl (HB4.out.2.1) HB4.out.1;simp only [zCJ,yY,Nat.reduceAdd] at R5 K5;refine yZ (v:=.tuple #[evV Evt.zero, .int .i64 2]) (by simp [results,Tryz.results17,go_sem,R5.cell (k:=0) rfl,R5.cell (k:=1) rfl,R5.cell (k:=2) rfl,R5.cell (k:=3) rfl,R5.cell (k:=4) rfl,evV,Evt.zero]) rfl ⟨rfl,zAB.after zQ zo (yi HH.out) K5⟩):P:=h
theorem J196 (P:Prop) (h:P:=by simp [results,Tryz.results17,go_sem,R5.cell (k:=0) rfl,R5.cell (k:=1) rfl,R5.cell (k:=2) rfl,R5.cell (k:=3) rfl,R5.cell (k:=4) rfl,evV,Evt.zero]):P:=h
section
variable {w w':World} {T:zR} {F:Nat -> Prop} {id b i:Nat} {u:Un} {p:zAo} {m:zZ} {H:List HTh}
theorem RM.stX (h:RM w T F id b u p m H) (hi:i < m.zL.length):(∀ W,Keeps zA w W -> W.frozen? ⟨p.gt,i*3,none⟩=false) /\ ∀ W,Keeps zA w W -> ∀ s,RW w T F id b u p (m.zAR i { m.get i with st:=s }) (W.setCell ⟨p.gt,i*3,none⟩ (.int .i64 s)):=by
 obtain ⟨rv,fv,hH,c,fr⟩:=h.thc hi;refine ⟨fr 0 (by decide),fun W q s=>?_⟩
 have h':=xR zQ zo h q;obtain ⟨e1,e2,e3⟩:=h'.zL.each i _ _ hH (xK hi);exact (MaP.went zo h' (zG1 zQ (t:=m.get i) h'.zL hH e2 e3 s)).before q
abbrev zNk (w:World) (T:zR) (F:Nat -> Prop) (id b:Nat) (u:Un) (p:zAo) (r:zZ × Evt × Int) (e:Ending) (w':World):Prop:=zET zA5 3 149 zA9 w T F id b u p r e w'
theorem zLd (h:RM w T F id b u p m H) (hm:m.ok u) (i:Int) (hr:zBM m i ≠ 0) :
 Calls Tryz.prog 17 #[.pointer (some ⟨b,0,none⟩), .int .i64 i] w (zNk w T F id b u p (stepM u m i)):=by
 have HH:=yB h;have es:stepM u m i=(m,Evt.zero,zBM m i):=by unfold stepM;rw [if_neg hr]
 rw [es];obtain ⟨b4,w4,e3,e4,R4,K4,_⟩:=newRow w [.int .i64 0, .int .i64 0, .int .i64 0, .int .i64 0, .int .i64 0] 40;have HM:Hid (RM w4 T F id b u p m H):=xR zQ zo h K4;have HFR:=yB (h.zL.sep.free (g:=b4) (by omega));have HB4:Hid (w.heap.size <= b4 /\ Keeps zA w w4 /\ b4 < w4.heap.size):=⟨by exact J202 _,K4,R4.lt (by simp)⟩;have HR4:=yB R4;have k4:=zH w4;have y4:=R4.five;have f0:=zT R4 0 (by decide);have f1:=zT R4 1 (by decide);have f2:=zT R4 2 (by decide);have f3:=zT R4 3 (by decide);have f4:=zT R4 4 (by decide);have y5:=HM.out.zAw;have HRN:=yB hr;clear R4 K4 es hr;by_cases hlo:i < 0
 ·have e:zBM m i=2:=by unfold zBM;rw [if_pos (.inl hlo)]
  have e1:decide (i < 0)=true:=xX hlo;rw [e];exact J34 _
 ·have e1:decide (i < 0)=false:=xL hlo
  by_cases hhi:(m.zL.length:Int) <= i
  ·have e:zBM m i=2:=by unfold zBM;rw [if_pos (.inr hhi)]
   rw [e];generalize m.zL.length=nm at y5 hhi;exact J34 _
  ·obtain ⟨k,rfl⟩:∃ k:Nat,i=k:=⟨i.toNat,by omega⟩
   have hk:k < m.zL.length:=by omega
   have ts:=HM.out.st hk;obtain ⟨bd,hbd,hok,_⟩:=hm.th hk;have HEN:=zDG HM.out hm hk
   have e:zBM m k=if (m.get k).st=1 then 80 else if (m.get k).st=3 then 81 else if (m.get k).st=4 then 82 else if zAT m k then 0 else 83:=by
    unfold zBM;rw [if_neg (by omega)];rfl
   have i2:(k:Int) < (m.zL.length:Int):=by omega
   have i3:decide ((m.zL.length:Int) <= (k:Int))=false:=xL hhi;have i0:(0:Int) <= k:=by omega
   rcases hok.1 with h1 | h1 | h1 | h1
   all_goals (rw [h1] at ts e;rw [e])
   all_goals generalize m.zL.length=nm at y5 i2 i3 hhi hk
   ·clear h hm e hbd hok HEN
    go_enter Tryz.func17,Tryz.ntmps17
    go_upto_region 1 with fail
    try rw [e3]
    try rw [e4]
    clear e3 e4;go_wp2_with fail
    obtain ⟨R5,K5⟩:=zAj (w:=w) [.int .i64 0, .int .i64 0, .int .i64 0, .int .i64 0, .int .i64 0] (HR4.out) rfl (HB4.out.2.1) HB4.out.1;simp only [zCJ,yY,Nat.reduceAdd] at R5 K5;refine yZ (v:=.tuple #[evV Evt.zero, .int .i64 80]) (J196 _) rfl ⟨rfl,zAB.after zQ zo (yi HH.out) K5⟩
   ·have ha:zAT m k=false:=by
     cases ha:zAT m k with
     | false=>rfl
     | true=>exact absurd (by rw [e,ha];rfl) HRN.out
    rw [ha] at HEN ⊢;clear h hm e hbd hok;go_enter Tryz.func17,Tryz.ntmps17
    go_upto_region 1 with fail
    try rw [e3]
    try rw [e4]
    clear e3 e4;go_upto_region 11 with (go_at_call 50;refine HEN.call k4 ?_;intro w5 _ k5)
    have HK5:=yB k5;have f0:=fun W (q:Keeps zA w5 W)=>f0 W (k5.zB q)
    have f1:=fun W (q:Keeps zA w5 W)=>f1 W (k5.zB q)
    have f2:=fun W (q:Keeps zA w5 W)=>f2 W (k5.zB q)
    have f3:=fun W (q:Keeps zA w5 W)=>f3 W (k5.zB q)
    have f4:=fun W (q:Keeps zA w5 W)=>f4 W (k5.zB q)
    have y4:=fun W (q:Keeps zA w5 W)=>y4 W (k5.zB q)
    go_wp2_with fail
    obtain ⟨R5,K5⟩:=zAj (w:=w) [.int .i64 0, .int .i64 0, .int .i64 0, .int .i64 0, .int .i64 0] (HR4.out.keeps HK5.out (fun h=>h)) rfl (HB4.out.2.1.zB HK5.out) HB4.out.1;simp only [zCJ,yY,Nat.reduceAdd] at R5 K5;refine yZ (v:=.tuple #[evV Evt.zero, .int .i64 83]) (J196 _) rfl ⟨rfl,zAB.after zQ zo (yi HH.out) K5⟩
   ·clear h hm e hbd hok HEN
    go_enter Tryz.func17,Tryz.ntmps17
    go_upto_region 1 with fail
    try rw [e3]
    try rw [e4]
    clear e3 e4;go_wp2_with fail
    obtain ⟨R5,K5⟩:=zAj (w:=w) [.int .i64 0, .int .i64 0, .int .i64 0, .int .i64 0, .int .i64 0] (HR4.out) rfl (HB4.out.2.1) HB4.out.1;simp only [zCJ,yY,Nat.reduceAdd] at R5 K5;refine yZ (v:=.tuple #[evV Evt.zero, .int .i64 81]) (J196 _) rfl ⟨rfl,zAB.after zQ zo (yi HH.out) K5⟩
   ·clear h hm e hbd hok HEN
    go_enter Tryz.func17,Tryz.ntmps17
    go_upto_region 1 with fail
    try rw [e3]
    try rw [e4]
    clear e3 e4;go_wp2_with fail
    obtain ⟨R5,K5⟩:=zAj (w:=w) [.int .i64 0, .int .i64 0, .int .i64 0, .int .i64 0, .int .i64 0] (HR4.out) rfl (HB4.out.2.1) HB4.out.1;simp only [zCJ,yY,Nat.reduceAdd] at R5 K5;refine yZ (v:=.tuple #[evV Evt.zero, .int .i64 82]) (J196 _) rfl ⟨rfl,zAB.after zQ zo (yi HH.out) K5⟩
end
section
variable {w w':World} {T:zR} {F:Nat -> Prop} {id b i:Nat} {u:Un} {p:zAo} {m:zZ} {H:List HTh}
theorem RW.own {w1 w2:World} {T1:zR} {g:Nat} (hx:zAF T T1 id w) (hq:Keeps (zAf T id) w w1) (h:RW w1 T1 F id b u p m w') (h1:w.heap.size <= g) (h2:g < w1.heap.size) (h3:T1 g=none) (h4:¬ F g) (hw:Keeps (fun q=>q=g) w' w2):RW w T F id b u p m w2:=by
 obtain ⟨T',H',M,e,q⟩:=h;have hg:T' g=none:=e.none h3 h2
 refine ⟨T',H',MaP.keeps zQ zo M hw (fun q e1 e2=>by
  rw [e2] at e1;rcases e1 with ⟨t,e1⟩ | e1
  ·rw [hg] at e1;cases e1
  ·exact h4 e1),hx.trans e hq.size,?_⟩
 exact (hq.trans q (fun k hlt hs=>hx.own hs hlt)).trans hw (fun k hlt e=>by
  have e':k=g:=e;omega)
theorem zLO (h:RM w T F id b u p m H) (hu:zU u=true) (hm:m.ok u) (hd:m.idle) (i:Nat) (hr:zBM m i=0) :
 Calls Tryz.prog 17 #[.pointer (some ⟨b,0,none⟩), .int .i64 i] w (zNk w T F id b u p (stepM u m i)):=by
 obtain ⟨_,hi,h2⟩:=hm.run hr;rw [uP] at hi h2;have hab:zAT m i=true:=by have:=(zEp hr).2.2.2.2.2;rwa [uP] at this
 have HES:Hid (stepM u m i=((zAC u m i).1,(zAC u m i).2,0)):=by show _=_;unfold stepM;rw [if_pos hr,uP]
 obtain ⟨b4,w4,e3,e4,R4,K4,_⟩:=newRow w [.int .i64 0, .int .i64 0, .int .i64 0, .int .i64 0, .int .i64 0] 40;have HM:Hid (RM w4 T F id b u p m H):=xR zQ zo h K4;have HFR:=yB (h.zL.sep.free (g:=b4) (by omega));have HB4:Hid (w.heap.size <= b4 /\ Keeps zA w w4 /\ b4 < w4.heap.size):=⟨by exact J202 _,K4,R4.lt (by simp)⟩;have HR4:=yB R4;have k4:=zH w4;have i0:(0:Int) <= i:=by omega
 have i1:(i:Int) < (m.zL.length:Int):=by omega
 have y5:=HM.out.zAw;have ts:=HM.out.st hi;rw [h2] at ts;have HEN:=zDG HM.out hm hi;rw [hab] at HEN;have HACT:=zDa HM.out hm hi;have HNX:=RM.nx HM.out hm hi h2;have HH:Hid (zU u=true /\ m.ok u /\ i < m.zL.length /\ (m.get i).st=2 /\ m.idle):=⟨hu,hm,hi,h2,hd⟩;have e1:decide ((i:Int) < 0)=false:=xL (by omega);have e2:decide ((m.zL.length:Int) <= (i:Int))=false:=xL (by omega);generalize hK:(zAG m i).1=K at HACT;generalize hO:(zAG m i).2=O at HACT;have HKO:Hid ((zAG m i).1=K /\ (zAG m i).2=O):=⟨hK,hO⟩;obtain ⟨nm,hnm⟩:∃ z,z=m.zL.length:=⟨_,rfl⟩
 rw [<- hnm] at y5 i1 e2;have HNM:=yB hnm;clear h hu hm hr hi h2 K4 R4 hK hO hnm hab hd;go_enter Tryz.func17,Tryz.ntmps17
 go_upto_region 1 with fail
 try rw [e3]
 try rw [e4]
 clear e3 e4;go_upto_region 14 with (first | (go_at_call 50;refine HEN.call k4 ?_;intro w5 k45 k5) | (go_at_call 51;refine HACT.call k45 ?_;intro w6 k46 k6))
 obtain ⟨b7,w7,e3,e4,R7,K7,_⟩:=newRow w6 [.int .i64 K, .int .i64 O] 97;rw [e3,e4];have y7:=R7.all2;have k47:Keeps zA w4 w7:=k46.zB K7;have k7:=zH w7;clear e3 e4 K7 R7 k5 k6 k45 k46;go_upto_region 15 with fail
 obtain ⟨b8,w8,e3,e4,R8,K8,_⟩:=newRow w7 [.int .i64 i, .int .i64 K, .int .i64 O, .int .i64 0, .int .i64 0] 40;rw [e3,e4];have k48:Keeps zA w4 w8:=k47.zB K8
 have HB8:Hid (w.heap.size <= b8 /\ b8 < w8.heap.size /\ T b8=none /\ ¬ F b8 /\ b4 ≠ b8):=by
  have h1:w4.heap.size <= b8:=by rw [<- e3];exact k47.size
  have h2:=HM.out.zL.sep.free h1;exact ⟨by have:=HB4.out.2.1.size;omega,R8.lt (by simp),h2.1,h2.2,by have:=HB4.out.2.2;omega⟩
 have HR8:=yB R8;have k8:=zH w8;clear e3 e4 K8 R8 k7 y7 k47;rcases HNX with ⟨h3,h4,hn⟩ | ⟨a,f,r,xa,xc,ta,tc,ea,ec,bd,h3,h4,h5,hbd,h6,hrl,n2,n9,hx,hn⟩
 ·go_upto_region 16 with (go_at_call 52;refine hn.call k48 ?_;intro w9 _ k9)
  obtain ⟨b9,wA,e3,e4,RA,KA,_⟩:=newRow w9 [.int .i64 0, .int .i64 0, .int .i64 0, .int .i64 0, .int .i64 0, .string { data:=#[] }, .slice none 0 0, .int .i64 0, .slice none 0 0, .slice none 0 0] 75;rw [e3,e4];have k4A:Keeps zA w4 wA:=(k48.zB k9).zB KA;have k8A:Keeps zA w8 wA:=k9.zB KA;have HMA:Hid (RM wA T F id b u p m H):=xR zQ zo HM.out k4A;have HRA:=yB RA;have HR8A:=yB (HR8.out.keeps k8A (fun h=>h));have HR4A:=yB (HR4.out.keeps k4A (fun h=>h));have HKA:=yB k4A;have HLT:Hid (b8 < wA.heap.size /\ b4 < wA.heap.size):=⟨yK HB8.out.2.1 k8A.size,yK HB4.out.2.2 k4A.size⟩;have kA:=zH wA;have ea:zAG m i=(9,(i:Int)):=J243 _;have hKO:=HKO.out;rw [ea] at hKO;obtain ⟨rfl,rfl⟩:=hKO
  have HDN:Hid (zAC u m i=(m.zAR i { m.get i with st:=3 },⟨i,9,i,0,0⟩)):=by
   show zAC u m i=_
   unfold zAC;simp only [h3,ea]
  have tf:=fun W (q:Keeps zA wA W)=>(HM.out.stX HH.out.2.2.1).1 W (HKA.out.zB q)
  replace y5:=fun W (q:Keeps zA wA W)=>y5 W (k4A.zB q)
  replace ts:=fun W (q:Keeps zA wA W)=>ts W (k4A.zB q)
  clear hn h3 h4 k8 k9 KA e3 e4 RA k4A k8A k48 ea k4 HEN HACT;go_upto_region 18 with fail
  have D11:=yB (HMA.out.stX HH.out.2.2.1 |>.2 wA kA 3);have HD:=D11;generalize wA.setCell ⟨p.gt,i*3,none⟩ (.int .i64 3)=wB at D11 HD ⊢;have R8B:=D11.out.row HR8A.out HB8.out.2.2.1;have y8:=R8B.five;have kB:=zH wB;clear R8B y5 ts tf kA;have HQ:=yB (D11.out.row HR4A.out HFR.out.1);have f0:=zT HQ.out 0 (by simp);have f1:=zT HQ.out 1 (by simp);have f2:=zT HQ.out 2 (by simp);have f3:=zT HQ.out 3 (by simp);have f4:=zT HQ.out 4 (by simp);have y4:=HQ.out.five;go_wp2_with fail
  have R5:=zDT [.int .i64 i, .int .i64 9, .int .i64 i, .int .i64 0, .int .i64 0] 0 _ _ HQ.out rfl;have hw:=RW.own (uU T id w) ((HB4.out.2.1.zB HKA.out).mono (fun _ _ h=>h.elim)) HD.out HB4.out.1 HLT.out.2 HFR.out.1 HFR.out.2 (zBR b4 [.int .i64 i, .int .i64 9, .int .i64 i, .int .i64 0, .int .i64 0] 0 wB);simp only [zCJ,yY,Nat.reduceAdd,List.take_zero,List.nil_append] at R5 hw;generalize (((((wB).setCell ⟨b4,0,none⟩ (.int .i64 i)).setCell ⟨b4,1,none⟩ (.int .i64 9)).setCell ⟨b4,2,none⟩ (.int .i64 i)).setCell ⟨b4,3,none⟩ (.int .i64 0)).setCell ⟨b4,4,none⟩ (.int .i64 0)=wz at R5 hw ⊢;refine yZ (v:=.tuple #[.agg #[.int .i64 i, .int .i64 9, .int .i64 i, .int .i64 0, .int .i64 0], .int .i64 0]) (by simp [results,Tryz.results17,go_sem,R5.cell (k:=0) rfl,R5.cell (k:=1) rfl,R5.cell (k:=2) rfl,R5.cell (k:=3) rfl,R5.cell (k:=4) rfl]) rfl ?_
  rw [HES.out,HDN.out];exact ⟨rfl,hw⟩
 ·go_upto_region 16 with (go_at_call 52;refine hn.call k48 ?_;intro w9 _ k9)
  obtain ⟨b9,wA,e3,e4,RA,KA,_⟩:=newRow w9 [.int .i64 a.kind, .int .i64 a.reg, .int .i64 a.obj, .int .i64 a.ex.kind, .int .i64 a.ex.num, .string a.ex.nm, .slice xa a.ex.args.length xc, .int .i64 a.count, .slice ta a.thn.length tc, .slice ea a.els.length ec] 75;rw [e3,e4];have k4A:Keeps zA w4 wA:=(k48.zB k9).zB KA;have k8A:Keeps zA w8 wA:=k9.zB KA;have HMA:Hid (RM wA T F id b u p m H):=xR zQ zo HM.out k4A;have HRA:=yB RA;have HR8A:=yB (HR8.out.keeps k8A (fun h=>h));have HR4A:=yB (HR4.out.keeps k4A (fun h=>h));have HKA:=yB k4A;have HLT:Hid (b8 < wA.heap.size /\ b4 < wA.heap.size):=⟨yK HB8.out.2.1 k8A.size,yK HB4.out.2.2 k4A.size⟩;have kA:=zH wA;have eac:zAG m i=(a.kind - 1,a.obj):=J243 _;have hKO:=HKO.out;rw [eac] at hKO;obtain ⟨rfl,rfl⟩:=hKO;have n0:(a.kind - 1==9)=false:=yX (by omega);have hsp:=zAe h4;rcases hdm:doM u m i a with ⟨m1,v,bad⟩;have HDM:=yB hdm
  have HDO:Hid (m1.ok u /\ m1.zL.length=m.zL.length /\ (m1.get i).st=2 /\ (m1.get i).fs=(m.get i).fs):=by
   exact J103 _
  have HST:Hid ((m.get i).next=some a /\ zAG m i=(a.kind - 1,a.obj) /\ (m.get i).fs=(m.get i).fs.dropLast++[f] /\ f.rest=a :: r /\ (m.get i).fs.getLast?=some f):=⟨h3,eac,hsp,h5,h4⟩
  have HDS:Calls Tryz.prog 53 #[.pointer (some ⟨b,0,none⟩), .int .i64 i, .agg #[.int .i64 a.kind, .int .i64 a.reg, .int .i64 a.obj, .int .i64 a.ex.kind, .int .i64 a.ex.num, .string a.ex.nm, .slice xa a.ex.args.length xc, .int .i64 a.count, .slice ta a.thn.length tc, .slice ea a.els.length ec]] wA fun e w'=>e=.returned (.tuple #[.int .i64 v, .int .i64 bad]) /\ RW wA T F id b u p m1 w':=by
   have:=zKq (xc:=xc) (ta:=ta) (tc:=tc) (ea:=ea) (ec:=ec) ⟨HMA.out,HH.out.2.1,HH.out.1,HH.out.2.2.2.2,HH.out.2.2.1,h6,hrl,xV hx HKA.out (fun _ _ h=>h)⟩ ⟨n2,n9⟩
   rw [hdm] at this;exact this
  have HDS:=yB HDS;have HBD:=yB hbd;have yA:=RA.zAP;replace y5:=fun W (q:Keeps zA wA W)=>y5 W (k4A.zB q)
  clear hn h3 h4 k8 k9 KA e3 e4 RA k4A k8A k48 eac k4 HEN HACT hsp hdm hx hrl h6 h5 hbd ts;go_upto_region 20 with (go_at_call 53;refine HDS.out.mono ?_;rintro e wB ⟨rfl,gB⟩;have DB:=yB gB;clear gB)
  obtain ⟨TB,HB,MB,xB,qB⟩:=DB.out;have HT8:Hid (TB b8=none /\ TB b4=none):=⟨xB.none HB8.out.2.2.1 HLT.out.1,xB.none HFR.out.1 HLT.out.2⟩;have R8B:=DB.out.row HR8A.out HB8.out.2.2.1;have HR8B:=yB R8B;have HR4B:=yB (DB.out.row HR4A.out HFR.out.1);have g3:=zT R8B 3 (by simp);have g4:=zT R8B 4 (by simp);have y8:=R8B.five;have kB:=zH wB;have HMB:=yB MB;have HXB:Hid (zAF T TB id wA /\ Keeps (zAf T id) wA wB):=⟨xB,qB⟩;clear MB xB qB R8B yA y5 kA;go_upto_region 22 with fail
  have R8C:=(HR8B.out.set 3 (by simp) (.int .i64 v)).set 4 (by simp) (.int .i64 bad);have KC:Keeps (fun q=>q=b8) wB ((wB.setCell ⟨b8,3,none⟩ (.int .i64 v)).setCell ⟨b8,4,none⟩ (.int .i64 bad)):=((yC (fun q=>q=b8) wB).setCell (p:=⟨b8,3,none⟩) (fun _=>rfl) _).setCell (p:=⟨b8,4,none⟩) (fun _=>rfl) _;generalize (wB.setCell ⟨b8,3,none⟩ (.int .i64 v)).setCell ⟨b8,4,none⟩ (.int .i64 bad)=wC at R8C KC ⊢;have R8C:zC wC b8 [.int .i64 i, .int .i64 (a.kind - 1), .int .i64 a.obj, .int .i64 v, .int .i64 bad]:=R8C;have HR8C:=yB R8C;have HR4C:=yB (HR4B.out.keeps KC (fun e=>HB8.out.2.2.2.2 e))
  have HNOT:Hid (∀ k,zAf TB id k \/ F k -> ¬ k=b8):=fun k e1 e2=>by
   rw [e2] at e1;rcases e1 with ⟨t,e1⟩ | e1
   ·rw [HT8.out.1] at e1;cases e1
   ·exact HB8.out.2.2.2.1 e1
  have HMC:Hid (RM wC TB F id b u p m1 HB):=MaP.keeps zQ zo HMB.out KC HNOT.out;have HLC:Hid (b4 < wC.heap.size):=yK HLT.out.2 (yV HXB.out.2.size KC.size)
  have HXC:Hid (zAF T TB id w /\ Keeps (zAf T id) w wC):=⟨⟨HXB.out.1.1,fun k y e=>(HXB.out.1.2 k y e).imp (fun h=>h) (fun h=>⟨yV (HB4.out.2.1.zB HKA.out).size h.1,h.2⟩)⟩,(((HB4.out.2.1.zB HKA.out).mono (fun _ _ h=>h.elim)).trans HXB.out.2 (fun _ _ h=>h)).trans KC (fun k hlt e=>by
   have e':k=b8:=e;have:=HB8.out.1
   omega)⟩
  have hi1:i < m1.zL.length:=by rw [HDO.out.2.1];exact HH.out.2.2.1
  have HI1:=yB hi1;have y5:=HMC.out.zAw;rw [HDO.out.2.1,<- HNM.out] at y5;have y8':=R8C.five;have kC:=zH wC;clear R8C KC hi1 y8 kB g3 g4;by_cases hb:bad=0
  ·have hbb:(bad != 0)=false:=by rw [hb];rfl
   have HB0:=yB hb;clear hb;obtain ⟨rv1,gp1,cap1,css1,cs1,hL1⟩:=zAV.zIR zQ HMC.out.zL (xK HI1.out) (HDO.out.2.2.2.trans HST.out.2.2.1);have hok1:=HDO.out.1.each i _ bd (xK HI1.out) HBD.out;have hfo1:=hok1.2.1 (by rw [HDO.out.2.2.1];decide);have hfo2:=hfo1.2;rw [HDO.out.2.2.2,HST.out.2.2.1] at hfo2;have HP:=yB (zHS hL1 HST.out.2.2.2.1 hfo2.split.2);clear hL1 hfo2 hfo1 hok1;go_upto_region 26 with (go_at_call 54;refine HP.out.mono ?_;rintro e wD ⟨rfl,gD⟩;have DD:=yB (HMC.out.went zo gD);clear gD)
   obtain ⟨TD,HD',MD,xD,qD⟩:=DD.out;have HXD:Hid (zAF TB TD id wC /\ Keeps (zAf TB id) wC wD):=⟨xD,qD⟩;have HMD:=yB MD
   have hon:({ m1.get i with fs:=(m.get i).fs.dropLast++[⟨r,f.all,f.left⟩] }:WTh)=(m1.get i).on:=by
    unfold WTh.on;rw [HDO.out.2.2.2,HST.out.2.2.2.2];simp only [HST.out.2.2.2.1,List.tail_cons]
   have hok1:=HDO.out.1.each i _ bd (xK HI1.out) HBD.out;have hfo1:=hok1.2.1 (by rw [HDO.out.2.2.1];decide)
   have HL:=yB (zFt (n:=bd.regs) (u:=u) (t:=(m1.get i).on) (i:=i) MD.zL (by rw [hon];exact xC HI1.out) (zNP hfo1.2) (by
    have:(m1.get i).on.regs=(m1.get i).regs:=by unfold WTh.on;split <;> rfl
    rw [this];exact hfo1.1))
   have y5:=MD.zAw;rw [zZ.zBC,HDO.out.2.1,<- HNM.out] at y5;have HON:=yB hon;have kD:=zH wD;clear MD xD qD hon hok1 hfo1 y8' kC;go_upto_region 27 with (go_at_call 55;refine HL.out.mono ?_;rintro e wE ⟨rfl,gE⟩;have DE:=yB (HMD.out.went zo gE);clear gE)
   have DF:Hid (RW wC TB F id b u p (m1.zAR i (m1.get i).on.local) wE):=by
    have h:=kU HXD.out.1 HXD.out.2 DE.out;exact J77 _
   have R8E:=DF.out.row HR8C.out HT8.out.1;have y8:=R8E.five
   have HDN:Hid (zAC u m i=(m1.zAR i (m1.get i).on.local,⟨i,a.kind - 1,a.obj,v,bad⟩)):=by
    show zAC u m i=_
    exact J142 _
   have kE:=zH wE;clear kD y5 R8E;exact J13 _
  ·have hbb:(bad != 0)=true:=uA.2 hb
   have HB0:=yB hb;clear hb;obtain ⟨tf,sf⟩:=HMC.out.stX HI1.out;have DF:=yB (sf wC kC 4)
   have HDN:Hid (zAC u m i=(m1.zAR i { m1.get i with st:=4 },⟨i,a.kind - 1,a.obj,v,bad⟩)):=by
    show zAC u m i=_
    unfold zAC;simp only [HST.out.1,HST.out.2.1,HDM.out];rw [if_pos HB0.out]
   have ts:=HMC.out.st HI1.out;clear sf;go_upto_region 24 with fail
   generalize wC.setCell ⟨p.gt,i*3,none⟩ (.int .i64 4)=wE at DF ⊢;have R8E:=DF.out.row HR8C.out HT8.out.1;have y8:=R8E.five;have kE:=zH wE;clear y8' kC y5 R8E tf ts;exact J13 _
theorem zKL (h:RM w T F id b u p m H) (hu:zU u=true) (hm:m.ok u) (hd:m.idle) (i:Int) :
 Calls Tryz.prog 17 #[.pointer (some ⟨b,0,none⟩), .int .i64 i] w (zNk w T F id b u p (stepM u m i)):=by
 by_cases h0:zBM m i=0
 ·obtain ⟨h1,h2,_⟩:=hm.run h0
  obtain ⟨k,rfl⟩:∃ k:Nat,i=k:=⟨i.toNat,by omega⟩
  exact zLO h hu hm hd k h0
 ·exact zLd h hm i h0
end
abbrev zCk:=zA6 zA5 3 149 zA9
section
variable {D N:Nat -> Prop} {w:World} {b:Nat} {u:Un} {m:zZ}
theorem zCk.step (h:zCk D N w b u m) (i:Int):Calls Tryz.prog 17 #[.pointer (some ⟨b,0,none⟩), .int .i64 i] w fun e w'=>e=.returned (.tuple #[evV (stepM u m i).2.1, .int .i64 (stepM u m i).2.2]) /\ zCk D N w' b u (stepM u m i).1 /\ Keeps (fun q=>¬ N q) w w' :=
 h.stepped fun _ _ _ _ h1=>zKL h1 h.right h.ok h.idle i
theorem zCk.state (h:zCk D N w b u m):Calls Tryz.prog 48 #[.pointer (some ⟨b,0,none⟩)] w (zFR w m):=by
 obtain ⟨T,F,p,H,h1,h2⟩:=h.ex;exact zIh h1 h.right h.ok
theorem zCk.enabled (h:zCk D N w b u m):Calls Tryz.prog 16 #[.pointer (some ⟨b,0,none⟩)] w (zDt w (zAl m)):=by
 obtain ⟨T,F,p,H,h1,h2⟩:=h.ex;exact zHI h1 h.right h.ok
end
section
variable {cs:List Int} {mu:Int} {bs:List Bd} {w:World} {F:Nat -> Prop} {uca uta:Option Addr} {ucc utc:Nat}
theorem zCB.zNU (h:zCB w F cs bs uca uta) (hr:newR ⟨cs,mu,bs⟩ ≠ 0):Calls Tryz.prog 10 #[.agg #[.slice uca cs.length ucc, .int .i64 mu, .slice uta bs.length utc]] w fun e w'=>e=.returned (.tuple #[.pointer none, .int .i64 (newR ⟨cs,mu,bs⟩)]) /\ Keeps zA w w' :=
 zMU _ hr (yB fun W hk=>(h.zF hk).zJS)
theorem zCB.zNy (h:zCB w F cs bs uca uta) (hr:newR ⟨cs,mu,bs⟩=0):Calls Tryz.prog 10 #[.agg #[.slice uca cs.length ucc, .int .i64 mu, .slice uta bs.length utc]] w fun e w'=>∃ b,e=.returned (.tuple #[.pointer (some ⟨b,0,none⟩), .int .i64 0]) /\ zCk F (fun q=>q < w.heap.size) w' b ⟨cs,mu,bs⟩ (zBA ⟨cs,mu,bs⟩) /\ Keeps zA w w':=by
 have hR:=zB4 hr;refine (zMh (T:=fun _=>none) (id:=0) h.nums h.bds (fun k x e=>by cases e) (fun k t e=>by cases e) (fun k hk=>⟨rfl,h.low k hk⟩) hR (yB fun W hk=>by have g:=(h.zF hk).zJS (mu:=mu) (ucc:=ucc) (utc:=utc);rw [hr] at g;exact g)).mono ?_
 rintro e w' ⟨b,T',p,H,rfl,h1,h2,h3⟩
 exact ⟨b,rfl,zA6.new zQ zo hR h1 h2 h3 (fun q e=>.inl e),h3⟩
end
theorem zMv (ch:List Int) {k n:Nat} (hk:k < ch.length) (hn:0 < n) (hn8:n <= 1000):(Int.tmod (ch.getD k 0) n < 0 /\ IntKind.i64.wrap (Int.tmod (ch.getD k 0) n+n)=(chN ch k n:Nat)) \/ (0 <= Int.tmod (ch.getD k 0) n /\ Int.tmod (ch.getD k 0) n=(chN ch k n:Nat)):=by
 have hc:((chN ch k n:Nat):Int)=ch.getD k 0 % (n:Int):=by
  unfold chN;rw [if_pos hk];have:=Int.emod_nonneg (ch.getD k 0) (b:=(n:Int)) (by omega)
  omega
 rw [hc];generalize ch.getD k 0=a;obtain ⟨t1,t2,t3⟩:=zFv a hn;have h4:=zG2 ch k hn;rcases (show Int.tmod a n < 0 \/ 0 <= Int.tmod a n by omega) with h | h
 ·refine .inl ⟨h,?_⟩
  rw [<- t1,(Int.tmod_eq_of_lt (by omega) (by omega):Int.tmod (Int.tmod a n+n) n=Int.tmod a n+n)];exact vH _ (by omega) (by omega)
 ·refine .inr ⟨h,?_⟩
  rw [<- t1];rw [(Int.tmod_eq_emod_of_nonneg (by omega):Int.tmod (Int.tmod a n+n) n=(Int.tmod a n+n) % n),Int.add_emod_right,Int.emod_eq_of_lt h t3]
section
variable {cs:List Int} {mu:Int} {bs:List Bd} {w:World} {F:Nat -> Prop} {uca uta:Option Addr} {ucc utc:Nat}
theorem zJ0 (h:zCB w F cs bs uca uta) (hr:newR ⟨cs,mu,bs⟩ ≠ 0) (v:Value):Calls Tryz.prog 23 #[.agg #[.slice uca cs.length ucc, .int .i64 mu, .slice uta bs.length utc],v] w fun e w'=>e=.returned (.tuple #[.slice none 0 0,zFz, .int .i64 (newR ⟨cs,mu,bs⟩)]) /\ Keeps zA w w':=by
 have HNO:Hid (∀ W,Keeps zA w W -> Calls Tryz.prog 10 #[.agg #[.slice uca cs.length ucc, .int .i64 mu, .slice uta bs.length utc]] W fun e w'=>e=.returned (.tuple #[.pointer none, .int .i64 (newR ⟨cs,mu,bs⟩)]) /\ Keeps zA W w'):=fun W hk=>(h.zF hk).zNU hr
 have hb:(newR ⟨cs,mu,bs⟩ != 0)=true:=uA.2 hr;generalize newR ⟨cs,mu,bs⟩=rr at hb HNO ⊢;clear h hr;go_enter Tryz.func23,Tryz.ntmps23
 go_upto_region 1 with fail
 obtain ⟨b1,w1,x1,z1,R1,K1,s1⟩:=newRow w [.slice uca cs.length ucc, .int .i64 mu, .slice uta bs.length utc] 25;try rw [x1]
 try rw [z1]
 obtain ⟨y,w2,x2,z2,R2,K2,s2⟩:=newRow w1 [.slice none 0 0, .slice none 0 0, .slice none 0 0, .slice none 0 0] 50;have n1:b1+1=y:=s1.out.symm.trans x2;try rw [n1]
 try rw [x2]
 try rw [z2]
 have y1:=(R1.keeps K2 (fun h=>h)).zDR;have HRY:=yB R2;have k2:=zH w2;have HK2:Hid (Keeps zA w w2):=K1.zB K2;have HY:Hid (w.heap.size <= y /\ y < w2.heap.size):=⟨by rw [<- x2];exact K1.size,R2.lt (by simp)⟩;have yy:=R2.zBx;have f0:=zT R2 0 (by decide);have f1:=zT R2 1 (by decide);have f2:=zT R2 2 (by decide);have f3:=zT R2 3 (by decide);clear n1 x1 z1 x2 z2 R1 R2 K1 K2 s1 s2;go_wp2_with (go_at_call 10;refine (HNO.out _ HK2.out).mono ?_;rintro e w3 ⟨rfl,k3⟩;have HK3:=yB k3)
 obtain ⟨R5,K5⟩:=zAj (w:=w) [.slice none 0 0, .slice none 0 0, .slice none 0 0, .slice none 0 0] (HRY.out.keeps HK3.out (fun h=>h)) rfl (HK2.out.zB HK3.out) HY.out.1;simp only [zCJ,yY,Nat.reduceAdd] at R5 K5;refine yZ (v:=.tuple #[.slice none 0 0,zFz, .int .i64 rr]) (by simp [results,Tryz.results23,go_sem,R5.cell (k:=0) rfl,R5.cell (k:=1) rfl,R5.cell (k:=2) rfl,R5.cell (k:=3) rfl,zFz]) rfl ⟨rfl,K5⟩
theorem zKb (h:zCB w F cs bs uca uta) (ca:Option Addr) (cc:Nat) (ch:List Int) (hx:zAA w (.slice ca ch.length cc) ch.length (ints ch)) (hr:newR ⟨cs,mu,bs⟩=0):Calls Tryz.prog 23 #[.agg #[.slice uca cs.length ucc, .int .i64 mu, .slice uta bs.length utc], .slice ca ch.length cc] w (zNO w (whole ⟨cs,mu,bs⟩ ch)):=by
 have hR:=zB4 hr;have HNW:Hid (∀ W,Keeps zA w W -> Calls Tryz.prog 10 #[.agg #[.slice uca cs.length ucc, .int .i64 mu, .slice uta bs.length utc]] W fun e w'=>∃ b,e=.returned (.tuple #[.pointer (some ⟨b,0,none⟩), .int .i64 0]) /\ zCk F (fun q=>q < W.heap.size) w' b ⟨cs,mu,bs⟩ (zBA ⟨cs,mu,bs⟩) /\ Keeps zA W w'):=fun W hk=>(h.zF hk).zNy hr
 have HFL:=yB h.low;obtain ⟨u,hu⟩:∃ u:Un,u=⟨cs,mu,bs⟩:=⟨_,rfl⟩
 rw [<- hu] at HNW hR ⊢;obtain ⟨B,hB⟩:∃ z,z=zBr u (zBA u):=⟨_,rfl⟩
 have HB60:Hid (B <= 60):=by
  show _ <= _
  exact J54 _
 obtain ⟨R,hRR⟩:∃ z,z=whole u ch:=⟨_,rfl⟩
 have HR0:Hid (R=([]++(whN u ch B 0 (zBA u)).1,(whN u ch B 0 (zBA u)).2)):=by show _=_;rw [hRR,hB];rfl
 have HX:Hid (∀ W,Keeps (fun q=>w.heap.size <= q) w W -> zAA W (.slice ca ch.length cc) ch.length (ints ch)):=fun W hk=>hx.up hk (xA _) (by simp [ints])
 have HRT:=yB hR;have HPB:Hid (zBr u (zBA u) <= B):=by show _ <= _;rw [hB];exact xA _
 obtain ⟨j0,hj0,hy0,hy1,hy2⟩:=info_parts zME;rw [<- hRR];clear h hx hr hR hu hB hRR;go_enter Tryz.func23,Tryz.ntmps23
 go_upto_region 1 with fail
 obtain ⟨b1,w1,x1,z1,R1,K1,s1⟩:=newRow w [.slice uca cs.length ucc, .int .i64 mu, .slice uta bs.length utc] 25;try rw [x1]
 try rw [z1]
 obtain ⟨y,w2,x2,z2,R2,K2,s2⟩:=newRow w1 [.slice none 0 0, .slice none 0 0, .slice none 0 0, .slice none 0 0] 50;have n1:b1+1=y:=s1.out.symm.trans x2;try rw [n1]
 try rw [x2]
 try rw [z2]
 have y1:=(R1.keeps K2 (fun h=>h)).zDR;have HRY:=yB R2;have k2:=zH w2;have HK2:Hid (Keeps zA w w2):=K1.zB K2;have HY:Hid (w.heap.size <= y /\ y < w2.heap.size):=⟨by rw [<- x2];exact K1.size,R2.lt (by simp)⟩;have yy:=R2.zBx;have f0:=zT R2 0 (by decide);have f1:=zT R2 1 (by decide);have f2:=zT R2 2 (by decide);have f3:=zT R2 3 (by decide);clear n1 x1 z1 x2 z2 R1 R2 K1 K2 s1 s2;go_upto_region 4 with (go_at_call 10;refine (HNW.out _ HK2.out).mono ?_;rintro e w3 ⟨b,rfl,hm,k3⟩;have HK3:=yB k3;have HM:=yB hm;clear hm k3)
 obtain ⟨g0,hg0⟩:∃ g,g=w2.heap.size:=⟨_,rfl⟩
 have HG0:=yB hg0;have HFG:Hid (∀ q,g0 <= q -> ¬ F q):=fun q hq e=>by have:=HFL.out q e;have:=HG0.out;have:=HY.out;omega
 have M3:Hid (zCk F (NBO g0 (.slice none 0 0)) w3 b u (zBA u)):=by
  exact J131 _
 have HK23:Hid (Keeps (fun q=>g0 <= q) w2 w3):=HK3.out.mono (fun _ _ h=>h.elim);clear hg0 HM y1 yy f0 f1 f2 f3 k2 HNW HK3 HFL;go_wp2_with fail
 go_loopw [9,10] (fun ov kv wr=>∃ (m:zZ) (es:List Evt) (oa:Option Addr) (oc lo:Nat),ov=.slice oa lo oc /\ kv=.int .i64 lo /\ lo <= 60 /\ Hid (lo=es.length /\ wr.ownsRow 0 40 5 (.slice oa lo oc) lo (es.flatMap evC) /\ (∀ g,(Value.slice oa lo oc).ownBlock=some g -> g0 <= g) /\ zCk F (NBO g0 (.slice oa lo oc)) wr b u m /\ Keeps (fun q=>g0 <= q) w2 wr /\ zBr u m+lo <= B /\ ∃ f,zBr u m <= f /\ R=(es++(whN u ch f es.length m).1,(whN u ch f es.length m).2))) (fun ov _ _=>B - zJl ov)
 case atStart=>exact ⟨zBA u,[],none,0,0,rfl,rfl,yJ _,rfl,xH _ _ _ _,fun g e=>by exact J191 _,M3.out,HK23.out,HPB.out,B,HPB.out,HR0.out⟩
 case round =>
  obtain ⟨m,es,oa,oc,lo,rfl,rfl,hlo,HI⟩:=hrel;clear M3 HK23;obtain ⟨e1,how,hnew,hmm,hkk,hpot,f,hf,hres⟩:=HI.out;have HKK:=yB hkk;have HM:=yB hmm;have HOW:=yB how;have HNEW:=yB hnew;have HE:=yB hmm.enabled;have c60:decide ((lo:Int) <= 60)=true:=xX (by omega);have c61:(lo <= 60)=True:=eq_true hlo;have HLO:=yB hlo;obtain ⟨ln,hln⟩:∃ z,z=(zAl m).length:=⟨_,rfl⟩
  have HLN:=yB hln
  have h8:ln <= 1000:=by
   exact J129 _
  by_cases h0:ln=0
  ·have he:zAl m=[]:=uW (by rw [<- hln];exact h0)
   have HFIN:Hid (R=(es,m) /\ lo=es.length):=⟨by rw [hres,zFY HRT.out ch he];simp,e1⟩;have HRYr:=yB (HRY.out.keeps hkk (fun h=>by have h:g0 <= y:=h;have:=HG0.out;have:=HY.out.2;omega));have HGS:Hid (g0 <= wr.heap.size):=by have:=HG0.out;have:=hkk.size;show _ <= _;omega
   have hl0:((ln:Int)==0)=true:=by subst h0;rfl
   clear e1 how hnew hmm hkk hpot hf hres he HI hln h8 h0
   go_upto_region 19 with (first
    | (go_at_call 16;refine HE.out.mono ?_;rintro e w4 ⟨v,rfl,ho,k4,hob⟩;obtain ⟨la,lc,evl⟩:∃ ad cap,v=.slice ad (zAl m).length cap:=zBs.slice (w:=w) ho;rw [<- HLN.out] at evl;subst evl;have HK4:=yB k4;have HS:=yB (zCk.state (HM.out.zF k4));clear ho hob k4)
    | (go_at_call 48;refine HS.out.mono ?_;rintro e w8 ⟨t1,q1,t2,q2,t3,q3,t4,q4,rfl,hs⟩;have S8:=yB hs;have K8:=yB (HK4.out.zB hs.keeps);clear hs))
   obtain ⟨b16,w9,x9,z9,R9,K9,_⟩:=newRow w8 [.slice t1 m.cells.length q1, .slice t2 m.owners.length q2, .slice t3 m.zL.length q3, .slice t4 m.zL.length q4] 50;rw [x9,z9];have y16:=R9.zBx;have HK9:=yB (K8.out.zB K9);have HRY9:=yB (HRYr.out.keeps HK9.out (fun h=>h));have S9:=yB K9;clear x9 z9 R9 K9;refine zFp 3 (by kernel_rfl) [some (.slice oa lo oc),some (.agg #[.slice t1 m.cells.length q1, .slice t2 m.owners.length q2, .slice t3 m.zL.length q3, .slice t4 m.zL.length q4]),some (.slice oa lo oc)] rfl (fun _ _ _=>False) (fun _ _ _ _ h _=>h) ?_ ?_
   ·refine ⟨?_,?_,?_,trivial⟩ <;> (intro vs gs W Q' hR hd hK;have HRW:Keeps zA w9 W:=((zH w9).drew).zB hR;have z6:=y16 W HRW;simp only [zD8,zCj,zGI,zJ,tz,Option.bind,Act.put] at hd hK ⊢;try simp only [hd] at hK ⊢)
    all_goals try (try clear hd;go_wp2_with (fail);first | exact hK _ _ (yC _ _) rfl)
   ·intro vs W hR hFF
    have HRW:Keeps zA w9 W:=((zH w9).drew).zB hR;have e0:vs 2=_:=hFF 2 (by decide);have e1:vs 1=_:=hFF 1 (by decide);simp only [zJ,yD,yE,yI,Option.bind,Act.put,yF,yG,yH,yS,yR];rw [e0,e1];generalize vs 0=v0;have K8W:=yB (S9.out.zB HRW);have KW:=yB (K8.out.zB K8W.out);have HRW9:=yB (HRY9.out.keeps HRW (fun h=>h));have f0:=zT HRW9.out 0 (by decide);have f1:=zT HRW9.out 1 (by decide);have f2:=zT HRW9.out 2 (by decide);have f3:=zT HRW9.out 3 (by decide);have yy:=HRW9.out.zBx;have kW:=zH W;clear hFF e0 e1 hR HRW y16;go_wp2_with fail
    have K2W:Hid (Keeps zA w W):=(HK2.out.trans HKK.out (fun q hq e=>by exact J225 _)).zB KW.out;have HKY:=zBR y [.slice t1 m.cells.length q1, .slice t2 m.owners.length q2, .slice t3 m.zL.length q3, .slice t4 m.zL.length q4] 0 W;obtain ⟨R5,K5⟩:=zAj (w:=w) [.slice t1 m.cells.length q1, .slice t2 m.owners.length q2, .slice t3 m.zL.length q3, .slice t4 m.zL.length q4] HRW9.out rfl K2W.out HY.out.1;simp only [zCJ,yY,Nat.reduceAdd] at R5 K5 HKY;generalize (((W.setCell ⟨y,0,none⟩ (.slice t1 m.cells.length q1)).setCell ⟨y,1,none⟩ (.slice t2 m.owners.length q2)).setCell ⟨y,2,none⟩ (.slice t3 m.zL.length q3)).setCell ⟨y,3,none⟩ (.slice t4 m.zL.length q4)=wz at R5 K5 HKY ⊢;refine yZ (v:=.tuple #[.slice oa lo oc, .agg #[.slice t1 m.cells.length q1, .slice t2 m.owners.length q2, .slice t3 m.zL.length q3, .slice t4 m.zL.length q4], .int .i64 0]) (by simp [results,Tryz.results23,go_sem,R5.cell (k:=0) rfl,R5.cell (k:=1) rfl,R5.cell (k:=2) rfl,R5.cell (k:=3) rfl]) rfl ?_
    have hny:∀ q,w4.heap.size <= q -> ¬ (fun q=>q=y) q:=fun q hq e=>by have e':q=y:=e;have:=HGS.out;have:=HY.out.2;have:=HG0.out;have:=HK4.out.size;omega
    have hws:w.heap.size <= w4.heap.size:=by have:=HGS.out;have:=HG0.out;have:=HY.out;have:=HK4.out.size;omega
    have hF:zAg wz w.heap.size (.slice oa lo oc) lo (es.flatMap evC):=(((zAg.of (B:=g0) HOW.out HNEW.out).keeps KW.out (fun _ _ h=>h)).keeps HKY (fun q hq e=>by have e':q=y:=e;have:=HY.out.2;have:=HG0.out;omega)).mono (by have:=HG0.out;have:=HY.out;omega);obtain ⟨r1,r2⟩:=HFIN.out;subst r1;rw [r2] at hF ⊢;exact ⟨oa,_,t1,_,t2,_,t3,_,t4,_,rfl,hF,K5,((S8.out.cells.keeps K8W.out (fun _ _ h=>h)).keeps HKY hny).mono hws,((S8.out.owners.keeps K8W.out (fun _ _ h=>h)).keeps HKY hny).mono hws,((S8.out.sts.keeps K8W.out (fun _ _ h=>h)).keeps HKY hny).mono hws,((S8.out.next.keeps K8W.out (fun _ _ h=>h)).keeps HKY hny).mono hws⟩
  ·have hlp:0 < ln:=by omega
   have he:zAl m ≠ []:=fun e=>h0 (by rw [hln,e];rfl)
   obtain ⟨f',hw1,hw2,hw3,hw4⟩:=zFZ HRT.out ch (k:=es.length) hmm.ok he hf;have hsx:zAA wr (.slice ca ch.length cc) ch.length (ints ch):=HX.out wr (HK2.out.trans hkk (fun q hq e=>by exact J225 _) |>.mono (fun _ _ h=>h.elim));obtain ⟨cc0,hc0⟩:∃ z,z=chN ch lo ln:=⟨_,rfl⟩
   have hclt:cc0 < ln:=by rw [hc0];exact zG2 ch lo hlp
   have HCLT:Hid (cc0 < (zAl m).length):=by show _ < _;rw [<- hln];exact hclt
   obtain ⟨t,ht⟩:∃ z,z=(zAl m).getD cc0 0:=⟨_,rfl⟩
   have HT:Hid (t=whT ch es.length m):=by show _=_;rw [ht,hc0];unfold whT;rw [<- hln,<- e1]
   have HTT:=yB ht;rcases hst:stepM u m t with ⟨m',⟨xt,xk,xo,xv,xb⟩,fl⟩
   have HST:Hid (∀ W,Keeps zA wr W -> Calls Tryz.prog 17 #[.pointer (some ⟨b,0,none⟩), .int .i64 t] W fun e w'=>e=.returned (.tuple #[.agg #[.int .i64 xt, .int .i64 xk, .int .i64 xo, .int .i64 xv, .int .i64 xb], .int .i64 fl]) /\ zCk F (NBO g0 (.slice oa lo oc)) w' b u m' /\ Keeps (fun q=>¬ NBO g0 (.slice oa lo oc) q) W w'):=fun W hk=>by
    have h:=zCk.step (hmm.zF hk) t;rw [hst] at h;exact h
   have HRES:Hid (R=((es++[(⟨xt,xk,xo,xv,xb⟩:Evt)])++(whN u ch f' (es++[(⟨xt,xk,xo,xv,xb⟩:Evt)]).length m').1,(whN u ch f' (es++[(⟨xt,xk,xo,xv,xb⟩:Evt)]).length m').2) /\ zBr u m' <= f' /\ zBr u m'+(lo+1) <= B /\ lo=es.length):=by
    exact J121 _
   have hl0:((ln:Int)==0)=false:=yX (by omega);have n0:(ln:Int) ≠ 0:=by omega
   have j1:(0:Int) <= cc0:=by omega
   have j2:(cc0:Int) < ln:=by omega
   have j3:(0:Int) < ln:=by omega
   have kr:=zH wr
   have HWAY:(∃ (gl ol:Nat) (a r:Int),lo < ch.length /\ ca=some ⟨gl,ol,none⟩ /\ (∀ W,Keeps zA wr W -> W.cell? ⟨gl,ol+lo,none⟩=some (.int .i64 a)) /\ Int.tmod a ln=r /\ ((r < 0 /\ IntKind.i64.wrap (r+ln)=(cc0:Int)) \/ (decide (r < 0)=false /\ r=(cc0:Int)))) \/ (¬ lo < ch.length /\ cc0=0):=by
    by_cases hlc:lo < ch.length
    ·obtain ⟨ad,cap,ee,hcl⟩:=hsx.ints
     obtain ⟨gl,ol,el,cl⟩:=hcl lo hlc;cases ee;refine .inl ⟨gl,ol,_,_,hlc,el,zW cl,rfl,?_⟩
     rw [hc0];rcases zMv ch hlc hlp h8 with ⟨n1,n2⟩ | ⟨n1,n2⟩
     ·exact .inl ⟨n1,n2⟩
     ·exact .inr ⟨xL (by omega),n2⟩
    ·exact .inr ⟨hlc,by rw [hc0];unfold chN;rw [if_neg hlc]⟩
   obtain ⟨nch,hnch⟩:∃ z,z=ch.length:=⟨_,rfl⟩
   have HX':=HX;rw [<- hnch] at HWAY HX' ⊢;clear e1 how hnew hmm hkk hpot hf hres he HI hln h8 h0 hw1 hw2 hw3 hw4 hsx hc0 ht hst hclt HT hnch HX;rcases HWAY with ⟨gl,ol,a,r,hlc,rfl,c0,hr,⟨n1,n2⟩ | ⟨n1,rfl⟩⟩ | ⟨hlc,hz⟩
   all_goals (
    try have HZ:=yB hz
    try clear hz
    first
     | (have i1:(lo:Int) < nch:=by omega)
     | (have i1:decide ((lo:Int) < nch)=false:=xL (by omega);have i3:(lo < nch)=False:=eq_false hlc)
    have i2:(0:Int) <= lo:=by omega
    go_upto_region 17 with (first
     | (go_at_call 16;refine HE.out.mono ?_;rintro e w4 ⟨v,rfl,ho,k4,hob⟩;obtain ⟨la,lc,evl,hcl⟩:=zAA.ints (zHK ho);obtain ⟨gl2,ol2,rfl,cl⟩:=hcl _ HCLT.out;rw [<- HLN.out] at evl;subst evl;rw [<- HTT.out] at cl;(try rw [HZ.out,vX] at cl);have HK4:=yB k4;clear ho hob hcl)
     | (go_at_call 17;refine (HST.out _ HK4.out).mono ?_;rintro e w6 ⟨rfl,hm,hk⟩;have M6:=yB hm;have HK6:=yB hk;clear hm hk))
    obtain ⟨yx,w7,x1,x2,RX,KX,sX⟩:=newRow w6 [.int .i64 xt, .int .i64 xk, .int .i64 xo, .int .i64 xv, .int .i64 xb] 40;rw [x1,x2];have M7:=yB (M6.out.zF KX);have HK46:Hid (Keeps (fun q=>¬ NBO g0 (.slice oa lo oc) q) wr w6):=(HK4.out.mono (fun _ _ h=>h.elim)).trans HK6.out (fun _ _ h=>h);have HOW7:=yB (zG (zG HOW.out HK46.out (fun q e h=>h (.inr e))) KX (fun _ _ h=>h))
    have K27:Hid (Keeps (fun q=>g0 <= q) w2 w7):=(HKK.out.trans (HK46.out.mono (fun q _ hn=>by
     have hn':¬ q < g0:=fun h=>hn (.inl h)
     show g0 <= q
     omega)) (fun _ _ h=>h)).trans KX (fun _ _ h=>h.elim)
    have yx5:=RX.five;have k7:=zH w7;have lx:yx < w7.heap.size:=RX.lt (by simp);have nx:yx ≠ w7.heap.size:=by omega
    clear x1 x2 KX sX RX M6 HK6 HST cl kr k4;go_wp2_with (at_builtin;refine zI _ (by rfl) _ _ 47 (by rfl) 0 40 j0 _ 5 40 Tryz.underlying47 hj0 hy0 hy1 hy2 rfl (by decide) (.slice oa lo oc) lo (es.flatMap evC) (by rfl) (zG HOW7.out ((yC zA _).alloc _) (fun _ _ h=>h)) (.slice (some ⟨w7.heap.size,0,none⟩) 1 1) 1 (evC ⟨xt,xk,xo,xv,xb⟩) (by rfl) (xP (yO (yL _ _))) rfl (by simp [evC,Value.oneCell']) (by unfold maxLen;omega) (by omega) (yJ _) ?_;intro ad9 cap9 w8 hout;have HO:=yB hout;have M8:=yB (zA6.app (M7.out.zF ((yC _ _).alloc _)) hout fun q e=>HFG.out q (HNEW.out q e));clear hout)
    have hB:=HB60.out;obtain ⟨r1,r2,r3,r4⟩:=HRES.out;have hlen:lo+1=(es++[(⟨xt,xk,xo,xv,xb⟩:Evt)]).length:=by rw [xQ,r4];rfl
    refine ⟨⟨m',es++[⟨xt,xk,xo,xv,xb⟩],ad9,cap9,lo+1,rfl,by go_num,by omega,hlen,?_,?_,M8.out,HO.out.keeps (K27.out.alloc _) (fun q e _=>HNEW.out q e),r3,f',r2,r1⟩,by simp [zJl];omega⟩
    ·rw [show (es++[(⟨xt,xk,xo,xv,xb⟩:Evt)]).flatMap evC=es.flatMap evC++evC ⟨xt,xk,xo,xv,xb⟩ by simp]
     exact HO.out.1
    ·intro g e
     rcases HO.out.2.2 g e with h | h
     ·exact HNEW.out g h
     ·have h1:=K27.out.size
      have h2:=HG0.out;simp at h
      omega)
end
end Go.Proofs.YtfjgcedkfnmdkaaGreatDoor
