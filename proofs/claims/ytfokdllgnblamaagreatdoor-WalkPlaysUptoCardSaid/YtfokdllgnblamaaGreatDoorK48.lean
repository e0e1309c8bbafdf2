/- Layer K: texts joined. -/
import Derived.Test.YtfokdllgnblamaaGreatDoorK47
set_option linter.all false
set_option maxHeartbeats 8000000
set_option maxRecDepth 8000
namespace Go.Proofs.YtfokdllgnblamaaGreatDoor
open Go.RowKit
theorem J13 (P:Prop) (h:P:=by
 have HQ:=yB (DF.out.row HR4C.out HT8.out.2);have f0:=zx HQ.out 0 (by simp);have f1:=zx HQ.out 1 (by simp);have f2:=zx HQ.out 2 (by simp);have f3:=zx HQ.out 3 (by simp);have f4:=zx HQ.out 4 (by simp);have y4:=HQ.out.five;go_wp2_with fail
 have R5:=zDt [.int .i64 i, .int .i64 (a.kind - 1), .int .i64 a.obj, .int .i64 v, .int .i64 bad] 0 _ _ HQ.out rfl;have hw:=RW.own HXC.out.1 HXC.out.2 DF.out HB4.out.1 HLC.out HT8.out.2 HFR.out.2 (zB9 b4 [.int .i64 i, .int .i64 (a.kind - 1), .int .i64 a.obj, .int .i64 v, .int .i64 bad] 0 wE);simp only [zCz,yZ,Nat.reduceAdd,List.take_zero,List.nil_append] at R5 hw;generalize (((((wE).setCell ⟨b4,0,none⟩ (.int .i64 i)).setCell ⟨b4,1,none⟩ (.int .i64 (a.kind - 1))).setCell ⟨b4,2,none⟩ (.int .i64 a.obj)).setCell ⟨b4,3,none⟩ (.int .i64 v)).setCell ⟨b4,4,none⟩ (.int .i64 bad)=wz at R5 hw ⊢;refine xA (v:=.tuple #[.agg #[.int .i64 i, .int .i64 (a.kind - 1), .int .i64 a.obj, .int .i64 v, .int .i64 bad], .int .i64 0]) (by simp [results,Tryz.results14,go_sem,R5.cell (k:=0) rfl,R5.cell (k:=1) rfl,R5.cell (k:=2) rfl,R5.cell (k:=3) rfl,R5.cell (k:=4) rfl]) rfl ?_
 rw [HES.out,HDN.out];exact ⟨rfl,hw⟩):P:=h
theorem J34 (P:Prop) (h:P:=by
 clear h hm e;go_enter Tryz.func14,Tryz.ntmps14
 go_upto_region 1 with fail
 try rw [e3]
 try rw [e4]
 clear e3 e4;go_wp2_with fail
 obtain ⟨R5,K5⟩:=zBE (w:=w) [.int .i64 0, .int .i64 0, .int .i64 0, .int .i64 0, .int .i64 0] (HR4.out) rfl (HB4.out.2.1) HB4.out.1;simp only [zCz,yZ,Nat.reduceAdd] at R5 K5;refine xA (v:=.tuple #[evV Evt.zero, .int .i64 2]) (by simp [results,Tryz.results14,go_sem,R5.cell (k:=0) rfl,R5.cell (k:=1) rfl,R5.cell (k:=2) rfl,R5.cell (k:=3) rfl,R5.cell (k:=4) rfl,evV,Evt.zero]) rfl ⟨rfl,zAC.after zR zo (yj HH.out) K5⟩):P:=h
theorem J195 (P:Prop) (h:P:=by simp [results,Tryz.results14,go_sem,R5.cell (k:=0) rfl,R5.cell (k:=1) rfl,R5.cell (k:=2) rfl,R5.cell (k:=3) rfl,R5.cell (k:=4) rfl,evV,Evt.zero]):P:=h
section
variable {w w':World} {T:zS} {F:Nat -> Prop} {id b i:Nat} {u:Un} {p:zAn} {m:zm} {H:List HTh}
theorem RM.stX (h:RM w T F id b u p m H) (hi:i < m.zM.length):(∀ W,Keeps zA w W -> W.frozen? ⟨p.gt,i*3,none⟩=false) /\ ∀ W,Keeps zA w W -> ∀ s,RW w T F id b u p (m.zAT i { m.get i with st:=s }) (W.setCell ⟨p.gt,i*3,none⟩ (.int .i64 s)):=by
 obtain ⟨rv,fv,hH,c,fr⟩:=h.thc hi;refine ⟨fr 0 (by decide),fun W q s=>?_⟩
 have h':=xQ zR zo h q;obtain ⟨e1,e2,e3⟩:=h'.zM.each i _ _ hH (xL hi);exact (MaP.went zo h' (zHQ zR (t:=m.get i) h'.zM hH e2 e3 s)).before q
abbrev zOD (w:World) (T:zS) (F:Nat -> Prop) (id b:Nat) (u:Un) (p:zAn) (r:zm × Evt × Int) (e:Ending) (w':World):Prop:=zEk zA8 3 138 zAk w T F id b u p r e w'
theorem zL8 (h:RM w T F id b u p m H) (hm:m.ok u) (i:Int) (hr:zBh m i ≠ 0) :
 Calls Tryz.prog 14 #[.pointer (some ⟨b,0,none⟩), .int .i64 i] w (zOD w T F id b u p (stepM u m i)):=by
 have HH:=yB h;have es:stepM u m i=(m,Evt.zero,zBh m i):=by unfold stepM;rw [if_neg hr]
 rw [es];obtain ⟨b4,w4,e3,e4,R4,K4,_⟩:=newRow w [.int .i64 0, .int .i64 0, .int .i64 0, .int .i64 0, .int .i64 0] 40;have HM:Hid (RM w4 T F id b u p m H):=xQ zR zo h K4;have HFR:=yB (h.zM.sep.free (g:=b4) (by omega));have HB4:Hid (w.heap.size <= b4 /\ Keeps zA w w4 /\ b4 < w4.heap.size):=⟨by exact J201 _,K4,R4.lt (by simp)⟩;have HR4:=yB R4;have k4:=zH w4;have y4:=R4.five;have f0:=zx R4 0 (by decide);have f1:=zx R4 1 (by decide);have f2:=zx R4 2 (by decide);have f3:=zx R4 3 (by decide);have f4:=zx R4 4 (by decide);have y5:=HM.out.zA1;have HRN:=yB hr;clear R4 K4 es hr;by_cases hlo:i < 0
 ·have e:zBh m i=2:=by unfold zBh;rw [if_pos (.inl hlo)]
  have e1:decide (i < 0)=true:=uB hlo;rw [e];exact J34 _
 ·have e1:decide (i < 0)=false:=xK hlo
  by_cases hhi:(m.zM.length:Int) <= i
  ·have e:zBh m i=2:=by unfold zBh;rw [if_pos (.inr hhi)]
   rw [e];generalize m.zM.length=nm at y5 hhi;exact J34 _
  ·obtain ⟨k,rfl⟩:∃ k:Nat,i=k:=⟨i.toNat,by omega⟩
   have hk:k < m.zM.length:=by omega
   have ts:=HM.out.st hk;obtain ⟨bd,hbd,hok,_⟩:=hm.th hk;have HEN:=zDR HM.out hm hk
   have e:zBh m k=if (m.get k).st=1 then 80 else if (m.get k).st=3 then 81 else if (m.get k).st=4 then 82 else if zAa m k then 0 else 83:=by
    unfold zBh;rw [if_neg (by omega)];rfl
   have i2:(k:Int) < (m.zM.length:Int):=by omega
   have i3:decide ((m.zM.length:Int) <= (k:Int))=false:=xK hhi;have i0:(0:Int) <= k:=by omega
   rcases hok.1 with h1 | h1 | h1 | h1
   all_goals (rw [h1] at ts e;rw [e])
   all_goals generalize m.zM.length=nm at y5 i2 i3 hhi hk
   ·clear h hm e hbd hok HEN
    go_enter Tryz.func14,Tryz.ntmps14
    go_upto_region 1 with fail
    try rw [e3]
    try rw [e4]
    clear e3 e4;go_wp2_with fail
    obtain ⟨R5,K5⟩:=zBE (w:=w) [.int .i64 0, .int .i64 0, .int .i64 0, .int .i64 0, .int .i64 0] (HR4.out) rfl (HB4.out.2.1) HB4.out.1;simp only [zCz,yZ,Nat.reduceAdd] at R5 K5;refine xA (v:=.tuple #[evV Evt.zero, .int .i64 80]) (J195 _) rfl ⟨rfl,zAC.after zR zo (yj HH.out) K5⟩
   ·have ha:zAa m k=false:=by
     cases ha:zAa m k with
     | false=>rfl
     | true=>exact absurd (by rw [e,ha];rfl) HRN.out
    rw [ha] at HEN ⊢;clear h hm e hbd hok;go_enter Tryz.func14,Tryz.ntmps14
    go_upto_region 1 with fail
    try rw [e3]
    try rw [e4]
    clear e3 e4;go_upto_region 11 with (go_at_call 41;refine HEN.call k4 ?_;intro w5 _ k5)
    have HK5:=yB k5;have f0:=fun W (q:Keeps zA w5 W)=>f0 W (k5.zB q)
    have f1:=fun W (q:Keeps zA w5 W)=>f1 W (k5.zB q)
    have f2:=fun W (q:Keeps zA w5 W)=>f2 W (k5.zB q)
    have f3:=fun W (q:Keeps zA w5 W)=>f3 W (k5.zB q)
    have f4:=fun W (q:Keeps zA w5 W)=>f4 W (k5.zB q)
    have y4:=fun W (q:Keeps zA w5 W)=>y4 W (k5.zB q)
    go_wp2_with fail
    obtain ⟨R5,K5⟩:=zBE (w:=w) [.int .i64 0, .int .i64 0, .int .i64 0, .int .i64 0, .int .i64 0] (HR4.out.keeps HK5.out (fun h=>h)) rfl (HB4.out.2.1.zB HK5.out) HB4.out.1;simp only [zCz,yZ,Nat.reduceAdd] at R5 K5;refine xA (v:=.tuple #[evV Evt.zero, .int .i64 83]) (J195 _) rfl ⟨rfl,zAC.after zR zo (yj HH.out) K5⟩
   ·clear h hm e hbd hok HEN
    go_enter Tryz.func14,Tryz.ntmps14
    go_upto_region 1 with fail
    try rw [e3]
    try rw [e4]
    clear e3 e4;go_wp2_with fail
    obtain ⟨R5,K5⟩:=zBE (w:=w) [.int .i64 0, .int .i64 0, .int .i64 0, .int .i64 0, .int .i64 0] (HR4.out) rfl (HB4.out.2.1) HB4.out.1;simp only [zCz,yZ,Nat.reduceAdd] at R5 K5;refine xA (v:=.tuple #[evV Evt.zero, .int .i64 81]) (J195 _) rfl ⟨rfl,zAC.after zR zo (yj HH.out) K5⟩
   ·clear h hm e hbd hok HEN
    go_enter Tryz.func14,Tryz.ntmps14
    go_upto_region 1 with fail
    try rw [e3]
    try rw [e4]
    clear e3 e4;go_wp2_with fail
    obtain ⟨R5,K5⟩:=zBE (w:=w) [.int .i64 0, .int .i64 0, .int .i64 0, .int .i64 0, .int .i64 0] (HR4.out) rfl (HB4.out.2.1) HB4.out.1;simp only [zCz,yZ,Nat.reduceAdd] at R5 K5;refine xA (v:=.tuple #[evV Evt.zero, .int .i64 82]) (J195 _) rfl ⟨rfl,zAC.after zR zo (yj HH.out) K5⟩
end
section
variable {w w':World} {T:zS} {F:Nat -> Prop} {id b i:Nat} {u:Un} {p:zAn} {m:zm} {H:List HTh}
theorem RW.own {w1 w2:World} {T1:zS} {g:Nat} (hx:zAG T T1 id w) (hq:Keeps (zAh T id) w w1) (h:RW w1 T1 F id b u p m w') (h1:w.heap.size <= g) (h2:g < w1.heap.size) (h3:T1 g=none) (h4:¬ F g) (hw:Keeps (fun q=>q=g) w' w2):RW w T F id b u p m w2:=by
 obtain ⟨T',H',M,e,q⟩:=h;have hg:T' g=none:=e.none h3 h2
 refine ⟨T',H',MaP.keeps zR zo M hw (fun q e1 e2=>by
  rw [e2] at e1;rcases e1 with ⟨t,e1⟩ | e1
  ·rw [hg] at e1;cases e1
  ·exact h4 e1),hx.trans e hq.size,?_⟩
 exact (hq.trans q (fun k hlt hs=>hx.own hs hlt)).trans hw (fun k hlt e=>by
  have e':k=g:=e;omega)
theorem zLJ (h:RM w T F id b u p m H) (hu:zX u=true) (hm:m.ok u) (hd:m.idle) (i:Nat) (hr:zBh m i=0) :
 Calls Tryz.prog 14 #[.pointer (some ⟨b,0,none⟩), .int .i64 i] w (zOD w T F id b u p (stepM u m i)):=by
 obtain ⟨_,hi,h2⟩:=hm.run hr;rw [Int.toNat_natCast] at hi h2;have hab:zAa m i=true:=by have:=(zE1 hr).2.2.2.2.2;rwa [Int.toNat_natCast] at this
 have HES:Hid (stepM u m i=((zAs u m i).1,(zAs u m i).2,0)):=by show _=_;unfold stepM;rw [if_pos hr,Int.toNat_natCast]
 obtain ⟨b4,w4,e3,e4,R4,K4,_⟩:=newRow w [.int .i64 0, .int .i64 0, .int .i64 0, .int .i64 0, .int .i64 0] 40;have HM:Hid (RM w4 T F id b u p m H):=xQ zR zo h K4;have HFR:=yB (h.zM.sep.free (g:=b4) (by omega));have HB4:Hid (w.heap.size <= b4 /\ Keeps zA w w4 /\ b4 < w4.heap.size):=⟨by exact J201 _,K4,R4.lt (by simp)⟩;have HR4:=yB R4;have k4:=zH w4;have i0:(0:Int) <= i:=by omega
 have i1:(i:Int) < (m.zM.length:Int):=by omega
 have y5:=HM.out.zA1;have ts:=HM.out.st hi;rw [h2] at ts;have HEN:=zDR HM.out hm hi;rw [hab] at HEN;have HACT:=zDq HM.out hm hi;have HNX:=RM.nx HM.out hm hi h2;have HH:Hid (zX u=true /\ m.ok u /\ i < m.zM.length /\ (m.get i).st=2 /\ m.idle):=⟨hu,hm,hi,h2,hd⟩;have e1:decide ((i:Int) < 0)=false:=xK (by omega);have e2:decide ((m.zM.length:Int) <= (i:Int))=false:=xK (by omega);generalize hK:(zAS m i).1=K at HACT;generalize hO:(zAS m i).2=O at HACT;have HKO:Hid ((zAS m i).1=K /\ (zAS m i).2=O):=⟨hK,hO⟩;obtain ⟨nm,hnm⟩:=eX m.zM.length;rw [<- hnm] at y5 i1 e2;have HNM:=yB hnm;clear h hu hm hr hi h2 K4 R4 hK hO hnm hab hd;go_enter Tryz.func14,Tryz.ntmps14
 go_upto_region 1 with fail
 try rw [e3]
 try rw [e4]
 clear e3 e4;go_upto_region 14 with (first | (go_at_call 41;refine HEN.call k4 ?_;intro w5 k45 k5) | (go_at_call 42;refine HACT.call k45 ?_;intro w6 k46 k6))
 obtain ⟨b7,w7,e3,e4,R7,K7,_⟩:=newRow w6 [.int .i64 K, .int .i64 O] 91;rw [e3,e4];have y7:=R7.all2;have k47:Keeps zA w4 w7:=k46.zB K7;have k7:=zH w7;clear e3 e4 K7 R7 k5 k6 k45 k46;go_upto_region 15 with fail
 obtain ⟨b8,w8,e3,e4,R8,K8,_⟩:=newRow w7 [.int .i64 i, .int .i64 K, .int .i64 O, .int .i64 0, .int .i64 0] 40;rw [e3,e4];have k48:Keeps zA w4 w8:=k47.zB K8
 have HB8:Hid (w.heap.size <= b8 /\ b8 < w8.heap.size /\ T b8=none /\ ¬ F b8 /\ b4 ≠ b8):=by
  have h1:w4.heap.size <= b8:=by rw [<- e3];exact k47.size
  have h2:=HM.out.zM.sep.free h1;exact ⟨by have:=HB4.out.2.1.size;omega,R8.lt (by simp),h2.1,h2.2,by have:=HB4.out.2.2;omega⟩
 have HR8:=yB R8;have k8:=zH w8;clear e3 e4 K8 R8 k7 y7 k47;rcases HNX with ⟨h3,h4,hn⟩ | ⟨a,f,r,xa,xc,ta,tc,ea,ec,bd,h3,h4,h5,hbd,h6,hrl,n2,n9,hx,hn⟩
 ·go_upto_region 16 with (go_at_call 43;refine hn.call k48 ?_;intro w9 _ k9)
  obtain ⟨b9,wA,e3,e4,RA,KA,_⟩:=newRow w9 [.int .i64 0, .int .i64 0, .int .i64 0, .int .i64 0, .int .i64 0, .string { data:=#[] }, .slice none 0 0, .int .i64 0, .slice none 0 0, .slice none 0 0] 68;rw [e3,e4];have k4A:Keeps zA w4 wA:=(k48.zB k9).zB KA;have k8A:Keeps zA w8 wA:=k9.zB KA;have HMA:Hid (RM wA T F id b u p m H):=xQ zR zo HM.out k4A;have HRA:=yB RA;have HR8A:=yB (HR8.out.keeps k8A (fun h=>h));have HR4A:=yB (HR4.out.keeps k4A (fun h=>h));have HKA:=yB k4A;have HLT:Hid (b8 < wA.heap.size /\ b4 < wA.heap.size):=⟨yI HB8.out.2.1 k8A.size,yI HB4.out.2.2 k4A.size⟩;have kA:=zH wA;have ea:zAS m i=(9,(i:Int)):=J243 _;have hKO:=HKO.out;rw [ea] at hKO;obtain ⟨rfl,rfl⟩:=hKO
  have HDN:Hid (zAs u m i=(m.zAT i { m.get i with st:=3 },⟨i,9,i,0,0⟩)):=by
   show zAs u m i=_
   unfold zAs;simp only [h3,ea]
  have tf:=fun W (q:Keeps zA wA W)=>(HM.out.stX HH.out.2.2.1).1 W (HKA.out.zB q)
  replace y5:=fun W (q:Keeps zA wA W)=>y5 W (k4A.zB q)
  replace ts:=fun W (q:Keeps zA wA W)=>ts W (k4A.zB q)
  clear hn h3 h4 k8 k9 KA e3 e4 RA k4A k8A k48 ea k4 HEN HACT;go_upto_region 18 with fail
  have D11:=yB (HMA.out.stX HH.out.2.2.1 |>.2 wA kA 3);have HD:=D11;generalize wA.setCell ⟨p.gt,i*3,none⟩ (.int .i64 3)=wB at D11 HD ⊢;have R8B:=D11.out.row HR8A.out HB8.out.2.2.1;have y8:=R8B.five;have kB:=zH wB;clear R8B y5 ts tf kA;have HQ:=yB (D11.out.row HR4A.out HFR.out.1);have f0:=zx HQ.out 0 (by simp);have f1:=zx HQ.out 1 (by simp);have f2:=zx HQ.out 2 (by simp);have f3:=zx HQ.out 3 (by simp);have f4:=zx HQ.out 4 (by simp);have y4:=HQ.out.five;go_wp2_with fail
  have R5:=zDt [.int .i64 i, .int .i64 9, .int .i64 i, .int .i64 0, .int .i64 0] 0 _ _ HQ.out rfl;have hw:=RW.own (uW T id w) ((HB4.out.2.1.zB HKA.out).mono (fun _ _ h=>h.elim)) HD.out HB4.out.1 HLT.out.2 HFR.out.1 HFR.out.2 (zB9 b4 [.int .i64 i, .int .i64 9, .int .i64 i, .int .i64 0, .int .i64 0] 0 wB);simp only [zCz,yZ,Nat.reduceAdd,List.take_zero,List.nil_append] at R5 hw;generalize (((((wB).setCell ⟨b4,0,none⟩ (.int .i64 i)).setCell ⟨b4,1,none⟩ (.int .i64 9)).setCell ⟨b4,2,none⟩ (.int .i64 i)).setCell ⟨b4,3,none⟩ (.int .i64 0)).setCell ⟨b4,4,none⟩ (.int .i64 0)=wz at R5 hw ⊢;refine xA (v:=.tuple #[.agg #[.int .i64 i, .int .i64 9, .int .i64 i, .int .i64 0, .int .i64 0], .int .i64 0]) (by simp [results,Tryz.results14,go_sem,R5.cell (k:=0) rfl,R5.cell (k:=1) rfl,R5.cell (k:=2) rfl,R5.cell (k:=3) rfl,R5.cell (k:=4) rfl]) rfl ?_
  rw [HES.out,HDN.out];exact ⟨rfl,hw⟩
 ·go_upto_region 16 with (go_at_call 43;refine hn.call k48 ?_;intro w9 _ k9)
  obtain ⟨b9,wA,e3,e4,RA,KA,_⟩:=newRow w9 [.int .i64 a.kind, .int .i64 a.reg, .int .i64 a.obj, .int .i64 a.ex.kind, .int .i64 a.ex.num, .string a.ex.nm, .slice xa a.ex.args.length xc, .int .i64 a.count, .slice ta a.thn.length tc, .slice ea a.els.length ec] 68;rw [e3,e4];have k4A:Keeps zA w4 wA:=(k48.zB k9).zB KA;have k8A:Keeps zA w8 wA:=k9.zB KA;have HMA:Hid (RM wA T F id b u p m H):=xQ zR zo HM.out k4A;have HRA:=yB RA;have HR8A:=yB (HR8.out.keeps k8A (fun h=>h));have HR4A:=yB (HR4.out.keeps k4A (fun h=>h));have HKA:=yB k4A;have HLT:Hid (b8 < wA.heap.size /\ b4 < wA.heap.size):=⟨yI HB8.out.2.1 k8A.size,yI HB4.out.2.2 k4A.size⟩;have kA:=zH wA;have eac:zAS m i=(a.kind - 1,a.obj):=J243 _;have hKO:=HKO.out;rw [eac] at hKO;obtain ⟨rfl,rfl⟩:=hKO;have n0:(a.kind - 1==9)=false:=yY (by omega);have hsp:=zAr h4;rcases hdm:doM u m i a with ⟨m1,v,bad⟩;have HDM:=yB hdm
  have HDO:Hid (m1.ok u /\ m1.zM.length=m.zM.length /\ (m1.get i).st=2 /\ (m1.get i).fs=(m.get i).fs):=by
   exact J104 _
  have HST:Hid ((m.get i).next=some a /\ zAS m i=(a.kind - 1,a.obj) /\ (m.get i).fs=(m.get i).fs.dropLast++[f] /\ f.rest=a :: r /\ (m.get i).fs.getLast?=some f):=⟨h3,eac,hsp,h5,h4⟩
  have HDS:Calls Tryz.prog 44 #[.pointer (some ⟨b,0,none⟩), .int .i64 i, .agg #[.int .i64 a.kind, .int .i64 a.reg, .int .i64 a.obj, .int .i64 a.ex.kind, .int .i64 a.ex.num, .string a.ex.nm, .slice xa a.ex.args.length xc, .int .i64 a.count, .slice ta a.thn.length tc, .slice ea a.els.length ec]] wA fun e w'=>e=.returned (.tuple #[.int .i64 v, .int .i64 bad]) /\ RW wA T F id b u p m1 w':=by
   have:=zJ2 (xc:=xc) (ta:=ta) (tc:=tc) (ea:=ea) (ec:=ec) ⟨HMA.out,HH.out.2.1,HH.out.1,HH.out.2.2.2.2,HH.out.2.2.1,h6,hrl,xY hx HKA.out (fun _ _ h=>h)⟩ ⟨n2,n9⟩
   rw [hdm] at this;exact this
  have HDS:=yB HDS;have HBD:=yB hbd;have yA:=RA.zAI;replace y5:=fun W (q:Keeps zA wA W)=>y5 W (k4A.zB q)
  clear hn h3 h4 k8 k9 KA e3 e4 RA k4A k8A k48 eac k4 HEN HACT hsp hdm hx hrl h6 h5 hbd ts;go_upto_region 20 with (go_at_call 44;refine HDS.out.mono ?_;rintro e wB ⟨rfl,gB⟩;have DB:=yB gB;clear gB)
  obtain ⟨TB,HB,MB,xB,qB⟩:=DB.out;have HT8:Hid (TB b8=none /\ TB b4=none):=⟨xB.none HB8.out.2.2.1 HLT.out.1,xB.none HFR.out.1 HLT.out.2⟩;have R8B:=DB.out.row HR8A.out HB8.out.2.2.1;have HR8B:=yB R8B;have HR4B:=yB (DB.out.row HR4A.out HFR.out.1);have g3:=zx R8B 3 (by simp);have g4:=zx R8B 4 (by simp);have y8:=R8B.five;have kB:=zH wB;have HMB:=yB MB;have HXB:Hid (zAG T TB id wA /\ Keeps (zAh T id) wA wB):=⟨xB,qB⟩;clear MB xB qB R8B yA y5 kA;go_upto_region 22 with fail
  have R8C:=(HR8B.out.set 3 (by simp) (.int .i64 v)).set 4 (by simp) (.int .i64 bad);have KC:Keeps (fun q=>q=b8) wB ((wB.setCell ⟨b8,3,none⟩ (.int .i64 v)).setCell ⟨b8,4,none⟩ (.int .i64 bad)):=((yC (fun q=>q=b8) wB).setCell (p:=⟨b8,3,none⟩) (fun _=>rfl) _).setCell (p:=⟨b8,4,none⟩) (fun _=>rfl) _;generalize (wB.setCell ⟨b8,3,none⟩ (.int .i64 v)).setCell ⟨b8,4,none⟩ (.int .i64 bad)=wC at R8C KC ⊢;have R8C:zC wC b8 [.int .i64 i, .int .i64 (a.kind - 1), .int .i64 a.obj, .int .i64 v, .int .i64 bad]:=R8C;have HR8C:=yB R8C;have HR4C:=yB (HR4B.out.keeps KC (fun e=>HB8.out.2.2.2.2 e))
  have HNOT:Hid (∀ k,zAh TB id k \/ F k -> ¬ k=b8):=fun k e1 e2=>by
   rw [e2] at e1;rcases e1 with ⟨t,e1⟩ | e1
   ·rw [HT8.out.1] at e1;cases e1
   ·exact HB8.out.2.2.2.1 e1
  have HMC:Hid (RM wC TB F id b u p m1 HB):=MaP.keeps zR zo HMB.out KC HNOT.out;have HLC:Hid (b4 < wC.heap.size):=yI HLT.out.2 (yX HXB.out.2.size KC.size)
  have HXC:Hid (zAG T TB id w /\ Keeps (zAh T id) w wC):=⟨⟨HXB.out.1.1,fun k y e=>(HXB.out.1.2 k y e).imp (fun h=>h) (fun h=>⟨yX (HB4.out.2.1.zB HKA.out).size h.1,h.2⟩)⟩,(((HB4.out.2.1.zB HKA.out).mono (fun _ _ h=>h.elim)).trans HXB.out.2 (fun _ _ h=>h)).trans KC (fun k hlt e=>by
   have e':k=b8:=e;have:=HB8.out.1
   omega)⟩
  have hi1:i < m1.zM.length:=by rw [HDO.out.2.1];exact HH.out.2.2.1
  have HI1:=yB hi1;have y5:=HMC.out.zA1;rw [HDO.out.2.1,<- HNM.out] at y5;have y8':=R8C.five;have kC:=zH wC;clear R8C KC hi1 y8 kB g3 g4;by_cases hb:bad=0
  ·have hbb:(bad != 0)=false:=by rw [hb];rfl
   have HB0:=yB hb;clear hb;obtain ⟨rv1,gp1,cap1,css1,cs1,hL1⟩:=zAV.zIU zR HMC.out.zM (xL HI1.out) (HDO.out.2.2.2.trans HST.out.2.2.1);have hok1:=HDO.out.1.each i _ bd (xL HI1.out) HBD.out;have hfo1:=hok1.2.1 (by rw [HDO.out.2.2.1];decide);have hfo2:=hfo1.2;rw [HDO.out.2.2.2,HST.out.2.2.1] at hfo2;have HP:=yB (zG5 hL1 HST.out.2.2.2.1 hfo2.split.2);clear hL1 hfo2 hfo1 hok1;go_upto_region 26 with (go_at_call 45;refine HP.out.mono ?_;rintro e wD ⟨rfl,gD⟩;have DD:=yB (HMC.out.went zo gD);clear gD)
   obtain ⟨TD,HD',MD,xD,qD⟩:=DD.out;have HXD:Hid (zAG TB TD id wC /\ Keeps (zAh TB id) wC wD):=⟨xD,qD⟩;have HMD:=yB MD
   have hon:({ m1.get i with fs:=(m.get i).fs.dropLast++[⟨r,f.all,f.left⟩] }:WTh)=(m1.get i).on:=by
    unfold WTh.on;rw [HDO.out.2.2.2,HST.out.2.2.2.2];simp only [HST.out.2.2.2.1,List.tail_cons]
   have hok1:=HDO.out.1.each i _ bd (xL HI1.out) HBD.out;have hfo1:=hok1.2.1 (by rw [HDO.out.2.2.1];decide)
   have HL:=yB (zFx (n:=bd.regs) (u:=u) (t:=(m1.get i).on) (i:=i) MD.zM (by rw [hon];exact xC HI1.out) (zNt hfo1.2) (by
    have:(m1.get i).on.regs=(m1.get i).regs:=by unfold WTh.on;split <;> rfl
    rw [this];exact hfo1.1))
   have y5:=MD.zA1;rw [zm.zBC,HDO.out.2.1,<- HNM.out] at y5;have HON:=yB hon;have kD:=zH wD;clear MD xD qD hon hok1 hfo1 y8' kC;go_upto_region 27 with (go_at_call 46;refine HL.out.mono ?_;rintro e wE ⟨rfl,gE⟩;have DE:=yB (HMD.out.went zo gE);clear gE)
   have DF:Hid (RW wC TB F id b u p (m1.zAT i (m1.get i).on.local) wE):=by
    have h:=kZ HXD.out.1 HXD.out.2 DE.out;exact J78 _
   have R8E:=DF.out.row HR8C.out HT8.out.1;have y8:=R8E.five
   have HDN:Hid (zAs u m i=(m1.zAT i (m1.get i).on.local,⟨i,a.kind - 1,a.obj,v,bad⟩)):=by
    show zAs u m i=_
    exact J139 _
   have kE:=zH wE;clear kD y5 R8E;exact J13 _
  ·have hbb:(bad != 0)=true:=uE.2 hb
   have HB0:=yB hb;clear hb;obtain ⟨tf,sf⟩:=HMC.out.stX HI1.out;have DF:=yB (sf wC kC 4)
   have HDN:Hid (zAs u m i=(m1.zAT i { m1.get i with st:=4 },⟨i,a.kind - 1,a.obj,v,bad⟩)):=by
    show zAs u m i=_
    unfold zAs;simp only [HST.out.1,HST.out.2.1,HDM.out];rw [if_pos HB0.out]
   have ts:=HMC.out.st HI1.out;clear sf;go_upto_region 24 with fail
   generalize wC.setCell ⟨p.gt,i*3,none⟩ (.int .i64 4)=wE at DF ⊢;have R8E:=DF.out.row HR8C.out HT8.out.1;have y8:=R8E.five;have kE:=zH wE;clear y8' kC y5 R8E tf ts;exact J13 _
theorem zKa (h:RM w T F id b u p m H) (hu:zX u=true) (hm:m.ok u) (hd:m.idle) (i:Int) :
 Calls Tryz.prog 14 #[.pointer (some ⟨b,0,none⟩), .int .i64 i] w (zOD w T F id b u p (stepM u m i)):=by
 by_cases h0:zBh m i=0
 ·obtain ⟨h1,h2,_⟩:=hm.run h0
  obtain ⟨k,rfl⟩:∃ k:Nat,i=k:=⟨i.toNat,by omega⟩
  exact zLJ h hu hm hd k h0
 ·exact zL8 h hm i h0
end
end Go.Proofs.YtfokdllgnblamaaGreatDoor
