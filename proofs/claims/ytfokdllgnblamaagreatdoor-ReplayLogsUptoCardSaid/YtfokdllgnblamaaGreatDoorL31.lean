/- Layer L: texts joined. -/
import Derived.Test.YtfokdllgnblamaaGreatDoorL30
set_option linter.all false
set_option maxHeartbeats 4000000
set_option maxRecDepth 100000
namespace Go.Proofs.YtfokdllgnblamaaGreatDoor
open Go.RowKit Go.Maps
abbrev vV:=@Go.WalkArith.wf_i64
abbrev vF:=@Go.Proofs.Tryz.underlying176
abbrev uW:=@MaP.zG
theorem J176 (P:Prop) (h:P:=by cases e;exact absurd hq (Nat.lt_irrefl _)):P:=h
theorem J178 (P:Prop) (h:P:=by have:=HB4.out.1;show ¬ b4 < _;omega):P:=h
theorem J182 (P:Prop) (h:P:=by rw [e3];exact yV _):P:=h
theorem J189 (P:Prop) (h:P:=by simp [results,Tryz.results48,go_sem,R5.cell (k:=0) rfl,R5.cell (k:=1) rfl]):P:=h
theorem zAV {H:Type} {P:Program} (w:World) {ops:Array Oper} {rest:List Oper} {o:Oper} {a:Act} {Q:Exit -> Act -> World -> Prop}
 (hg:o.guard=none) (m x v:Operand) (t:TypeId) (hop:o.op=Op.insert t m x v)
 (k e:TypeId) (K:Keyed P k) (ht:P.underlying t=some (.map k e)) (R:Value -> Option (DataW H × List MemPlace)) (b n:Nat) (D:DataW H)
 (hm:a.eval m=.map (some b)) (hown:w.ownsMap P k R b n D) (hn:n < maxLen) (key val:Value) (kl:Lit) (hx:a.eval x=key) (hv:a.eval v=val) (hkey:keyOf P k key=some kl)
 (d:DataW H) (ps:List MemPlace) (hval:R val=some (d,ps))
 (hK:∀ w',w'.ownsMap P k R b (n+1) (D.put kl d) -> w.grownBy w' (some b) -> wpList P ops Q rest (a.put o.dst undef) w') :
 wpList P ops Q (o :: rest) a w:=by
 refine wpList_plain hg fun K' hK'=>?_
 obtain ⟨w',hrun,r1,r2⟩:=hown.update K ht hn hkey hval;unfold Oper.wp;simp [execOp,hop,hm,hx,hv,hrun,Result.andThen]
 exact hK' _ _ (hK w' r1 r2)
theorem zD3:Keyed Tryz.prog 3:=int_keyed xH
theorem zMv (w:World):(zeroValue 3).run Tryz.prog w=.ok (.int .i64 0) w:=by kernel_rfl
theorem zBG (n:Int) (h:0 <= n /\ n < 100):keyOf Tryz.prog 3 (.int .i64 n)=some (.int .i64 n):=keyOf_int_mk xH (vV (by omega))
theorem zKA (w:World) (k:Int) (hk:k=2 \/ k=3 \/ k=5 \/ k=6 \/ k=7 \/ k=8):Calls Tryz.prog 77 #[.int .i64 k] w fun e w'=>e=.returned (.int .i64 (k - 1)) /\ Keeps zA w w':=by
 have hmm:=@run_makeMap Tryz.prog;have hown0:Hid ((w.alloc (.map #[] 0)).ownsMap (H:=Unit) Tryz.prog 3 (plainElem Tryz.prog 3) w.heap.size 0 (.map [])):=World.ownsMap_made _ _ _ _;have hg0:Hid (Keeps zA w (w.alloc (.map #[] 0))):=(yB _ _).alloc _;have n9:(k==9)=false:=xG (by omega);have n4:(k==4)=false:=xG (by omega);have hkk:=yA hk;have hky:=yA (zBG k (by omega));clear hk;go_enter Tryz.func77,Tryz.ntmps77
 go_wp2_with (first | (refine zAV _ rfl _ _ _ 176 rfl 3 3 zD3 vF _ w.heap.size 0 _ rfl hown0.out (by unfold maxLen;omega) _ _ _ rfl rfl (zBG 2 (by decide)) _ [] (plainElem_int xH (vV (by decide))) ?_;intro w1 ho1 hr1;have hown1:=yA ho1;have hg1:Hid (Keeps zA w w1):=hg0.out.grown hr1 (fun q e hq=>by exact J176 _);clear ho1 hr1) | (refine zAV _ rfl _ _ _ 176 rfl 3 3 zD3 vF _ w.heap.size 1 _ rfl hown1.out (by unfold maxLen;omega) _ _ _ rfl rfl (zBG 3 (by decide)) _ [] (plainElem_int xH (vV (by decide))) ?_;intro w2 ho2 hr2;have hown2:=yA ho2;have hg2:Hid (Keeps zA w w2):=hg1.out.grown hr2 (fun q e hq=>by exact J176 _);clear ho2 hr2) | (refine zAV _ rfl _ _ _ 176 rfl 3 3 zD3 vF _ w.heap.size 2 _ rfl hown2.out (by unfold maxLen;omega) _ _ _ rfl rfl (zBG 5 (by decide)) _ [] (plainElem_int xH (vV (by decide))) ?_;intro w3 ho3 hr3;have hown3:=yA ho3;have hg3:Hid (Keeps zA w w3):=hg2.out.grown hr3 (fun q e hq=>by exact J176 _);clear ho3 hr3) | (refine zAV _ rfl _ _ _ 176 rfl 3 3 zD3 vF _ w.heap.size 3 _ rfl hown3.out (by unfold maxLen;omega) _ _ _ rfl rfl (zBG 6 (by decide)) _ [] (plainElem_int xH (vV (by decide))) ?_;intro w4 ho4 hr4;have hown4:=yA ho4;have hg4:Hid (Keeps zA w w4):=hg3.out.grown hr4 (fun q e hq=>by exact J176 _);clear ho4 hr4) | (refine zAV _ rfl _ _ _ 176 rfl 3 3 zD3 vF _ w.heap.size 4 _ rfl hown4.out (by unfold maxLen;omega) _ _ _ rfl rfl (zBG 7 (by decide)) _ [] (plainElem_int xH (vV (by decide))) ?_;intro w5 ho5 hr5;have hown5:=yA ho5;have hg5:Hid (Keeps zA w w5):=hg4.out.grown hr5 (fun q e hq=>by exact J176 _);clear ho5 hr5) | (refine zAV _ rfl _ _ _ 176 rfl 3 3 zD3 vF _ w.heap.size 5 _ rfl hown5.out (by unfold maxLen;omega) _ _ _ rfl rfl (zBG 8 (by decide)) _ [] (plainElem_int xH (vV (by decide))) ?_;intro w6 ho6 hr6;have hown6:=yA ho6;have hg6:Hid (Keeps zA w w6):=hg5.out.grown hr6 (fun q e hq=>by exact J176 _);clear ho6 hr6) | (at_lookup;refine wpList_lookup_own_int _ rfl _ _ 176 rfl 3 3 .i64 zD3 vF xH (zMv _) w.heap.size _ _ rfl hown6.out _ _ rfl hky.out ?_;intro c hat hwc;have HAT:=yA hat;clear hat hwc))
 go_ret
 refine ⟨?_,hg6.out⟩
 have hat:=HAT.out;rcases hkk.out with rfl | rfl | rfl | rfl | rfl | rfl
 all_goals (
  have e:DataW.lit (H:=Unit) (Lit.int .i64 _)=.lit (.int .i64 c):=(show _=_ from hat);cases e;rfl)
theorem zKV (w:World) (k:Int) (hk:2 <= k /\ k <= 9):Calls Tryz.prog 77 #[.int .i64 k] w fun e w'=>e=.returned (.int .i64 (k - 1)) /\ Keeps zA w w':=by
 by_cases h:k=9 \/ k=4
 ·rcases h with rfl | rfl
  all_goals (
   go_enter Tryz.func77,Tryz.ntmps77
   go_wp2_with fail
   go_ret
   exact ⟨rfl,zI w⟩)
 ·exact zKA w k (by omega)
theorem zLC {w:World} {b gt nm ct i:Nat} {st:Int} (hst:st ≠ 2) (hi:i < nm) (hb:∀ W,Keeps zA w W -> W.cell? ⟨b,5,none⟩=some (.slice (some ⟨gt,0,none⟩) nm ct)) (hs:∀ W,Keeps zA w W -> W.cell? ⟨gt,i*3,none⟩=some (.int .i64 st)) :
 Calls Tryz.prog 48 #[.pointer (some ⟨b,0,none⟩), .int .i64 i] w fun e w'=>e=.returned (.agg #[.int .i64 0, .int .i64 0]) /\ Keeps zA w w':=by
 have i1:(0:Int) <= i:=by omega
 have i2:(i:Int) < nm:=by omega
 have e1:(st != 2)=true:=bne_iff_ne.2 hst;obtain ⟨b4,w4,e3,e4,R4,K4,_⟩:=newRow w [.int .i64 0, .int .i64 0] 91;have y4:=R4.all2;have k4:=zI w4;replace hb:=fun W (q:Keeps zA w4 W)=>hb W (K4.zB q)
 replace hs:=fun W (q:Keeps zA w4 W)=>hs W (K4.zB q)
 have f0:=zK (R4.free (k:=0) (by simp)) ⟨_,R4.cell (k:=0) rfl⟩;have f1:=zK (R4.free (k:=1) (by simp)) ⟨_,R4.cell (k:=1) rfl⟩;have HB4:Hid (w.heap.size <= b4 /\ Keeps zA w w4):=⟨by exact J182 _,K4⟩;go_enter Tryz.func48,Tryz.ntmps48
 go_upto_region 1 with fail
 try rw [e3]
 try rw [e4]
 have HR4:=yA R4;clear e3 e4 R4 K4;go_wp2_with fail
 have R5:zC _ b4 [.int .i64 0, .int .i64 0]:=(HR4.out.set 0 (by simp) (.int .i64 0)).set 1 (by simp) (.int .i64 0);have K5:=((HB4.out.2).setCell (p:=⟨b4,0,none⟩) (fun h=>absurd h (J178 _)) (.int .i64 0)).setCell (p:=⟨b4,1,none⟩) (fun h=>absurd h (J178 _)) (.int .i64 0);generalize (w4.setCell ⟨b4,0,none⟩ (.int .i64 0)).setCell ⟨b4,1,none⟩ (.int .i64 0)=wz at R5 K5 ⊢;refine xM (v:=.agg #[.int .i64 0, .int .i64 0]) (J189 _) rfl ⟨rfl,K5⟩
theorem zM4 {w:World} {b gt nm ct i:Nat} (hi:i < nm) (hb:∀ W,Keeps zA w W -> W.cell? ⟨b,5,none⟩=some (.slice (some ⟨gt,0,none⟩) nm ct)) (hs:∀ W,Keeps zA w W -> W.cell? ⟨gt,i*3,none⟩=some (.int .i64 2))
 (HT:Ret w 50 #[.pointer (some ⟨gt,i*3,none⟩)] .nilIface) :
 Calls Tryz.prog 48 #[.pointer (some ⟨b,0,none⟩), .int .i64 i] w fun e w'=>e=.returned (.agg #[.int .i64 9, .int .i64 i]) /\ Keeps zA w w':=by
 have i1:(0:Int) <= i:=by omega
 have i2:(i:Int) < nm:=by omega
 obtain ⟨b4,w4,e3,e4,R4,K4,_⟩:=newRow w [.int .i64 0, .int .i64 0] 91;have y4:=R4.all2;have k4:=zI w4;replace hb:=fun W (q:Keeps zA w4 W)=>hb W (K4.zB q)
 replace hs:=fun W (q:Keeps zA w4 W)=>hs W (K4.zB q)
 have f0:=zK (R4.free (k:=0) (by simp)) ⟨_,R4.cell (k:=0) rfl⟩;have f1:=zK (R4.free (k:=1) (by simp)) ⟨_,R4.cell (k:=1) rfl⟩;have HB4:Hid (w.heap.size <= b4 /\ Keeps zA w w4):=⟨by exact J182 _,K4⟩;go_enter Tryz.func48,Tryz.ntmps48
 go_upto_region 1 with fail
 try rw [e3]
 try rw [e4]
 have HR4:=yA R4;clear e3 e4 R4 K4;go_upto_region 5 with (go_at_call 50;refine HT.call HB4.out.2 ?_;intro w5 k05 k5)
 have HB5:Hid (Keeps zA w w5):=k05;clear k05;go_wp2_with fail
 have R5:zC _ b4 [.int .i64 9, .int .i64 i]:=((HR4.out.keeps k5 (fun h=>h)).set 0 (by simp) (.int .i64 9)).set 1 (by simp) (.int .i64 i);have K5:=((HB5.out).setCell (p:=⟨b4,0,none⟩) (fun h=>absurd h (J178 _)) (.int .i64 9)).setCell (p:=⟨b4,1,none⟩) (fun h=>absurd h (J178 _)) (.int .i64 i);generalize (w5.setCell ⟨b4,0,none⟩ (.int .i64 9)).setCell ⟨b4,1,none⟩ (.int .i64 i)=wz at R5 K5 ⊢;refine xM (v:=.agg #[.int .i64 9, .int .i64 i]) (J189 _) rfl ⟨rfl,K5⟩
theorem zNx {w:World} {F:Nat -> Prop} {b gt nm ct i:Nat} {f:zx} {pv:Value} {a:Ac} {r:List Ac} (hi:i < nm) (hb:∀ W,Keeps zA w W -> W.cell? ⟨b,5,none⟩=some (.slice (some ⟨gt,0,none⟩) nm ct)) (hs:∀ W,Keeps zA w W -> W.cell? ⟨gt,i*3,none⟩=some (.int .i64 2))
 (HT:Ret w 50 #[.pointer (some ⟨gt,i*3,none⟩)] pv) (hpl:zBS w F f pv) (hr:f.rest=a :: r) (hk:2 <= a.kind /\ a.kind <= 9) :
 Calls Tryz.prog 48 #[.pointer (some ⟨b,0,none⟩), .int .i64 i] w fun e w'=>e=.returned (.agg #[.int .i64 (a.kind - 1), .int .i64 a.obj]) /\ Keeps zA w w':=by
 have i1:(0:Int) <= i:=by omega
 have i2:(i:Int) < nm:=by omega
 have HKK:=yA hk;clear hk;obtain ⟨b4,w4,e3,e4,R4,K4,_⟩:=newRow w [.int .i64 0, .int .i64 0] 91;have y4:=R4.all2;have k4:=zI w4;replace hb:=fun W (q:Keeps zA w4 W)=>hb W (K4.zB q)
 replace hs:=fun W (q:Keeps zA w4 W)=>hs W (K4.zB q)
 have f0:=zK (R4.free (k:=0) (by simp)) ⟨_,R4.cell (k:=0) rfl⟩;have f1:=zK (R4.free (k:=1) (by simp)) ⟨_,R4.cell (k:=1) rfl⟩;have HB4:Hid (w.heap.size <= b4 /\ Keeps zA w w4):=⟨by exact J182 _,K4⟩;unfold zBS at hpl;rw [hr] at hpl;rcases hpl with hp | hp
 all_goals (first | (obtain ⟨h0,v,rfl,hv⟩:=hp;clear h0) | (obtain ⟨v,v2,rfl,hv,hv2⟩:=hp;obtain ⟨sg,sh,rfl⟩:=hv2.slice;clear hv2))
 all_goals (
  obtain ⟨ga,oa,sc,xa,xc,tv,ev,rfl,hga,hxs,htv,hev,q⟩:=hv.head;obtain ⟨ta,tc,rfl⟩:=htv.slice;obtain ⟨ea,ec,rfl⟩:=hev.slice
  have d:∀ W,Keeps zA w4 W -> W.cell? ⟨ga,oa,none⟩=some (.int .i64 a.kind) /\ W.cell? ⟨ga,oa+1,none⟩=some (.int .i64 a.reg) /\ W.cell? ⟨ga,oa+2,none⟩=some (.int .i64 a.obj) /\ W.cell? ⟨ga,oa+3,none⟩=some (.int .i64 a.ex.kind) /\ W.cell? ⟨ga,oa+4,none⟩=some (.int .i64 a.ex.num) ∧
   W.cell? ⟨ga,oa+5,none⟩=some (.string a.ex.nm) /\ W.cell? ⟨ga,oa+6,none⟩=some (.slice xa a.ex.args.length xc) /\ W.cell? ⟨ga,oa+7,none⟩=some (.int .i64 a.count) /\ W.cell? ⟨ga,oa+8,none⟩=some (.slice ta a.thn.length tc) /\ W.cell? ⟨ga,oa+9,none⟩=some (.slice ea a.els.length ec) :=
   fun W hk'=>have hk:=HB4.out.2.zB hk'
    ⟨hk.cell (fun h=>h) q.1,hk.cell (fun h=>h) q.2.1,hk.cell (fun h=>h) q.2.2.1,hk.cell (fun h=>h) q.2.2.2.1,hk.cell (fun h=>h) q.2.2.2.2.1,hk.cell (fun h=>h) q.2.2.2.2.2.1,hk.cell (fun h=>h) q.2.2.2.2.2.2.1,hk.cell (fun h=>h) q.2.2.2.2.2.2.2.1,hk.cell (fun h=>h) q.2.2.2.2.2.2.2.2.1,hk.cell (fun h=>h) q.2.2.2.2.2.2.2.2.2⟩
  clear hv q hxs htv hev hga;have j1:¬ ((r.length+1:Nat):Int)=0:=by omega
  have j2:(((r.length+1:Nat):Int)==0)=false:=xG j1;generalize a.kind=kk at d HKK;generalize a.obj=oo at d;go_enter Tryz.func48,Tryz.ntmps48
  go_upto_region 1 with fail
  try rw [e3]
  try rw [e4]
  have HR4:=yA R4;clear e3 e4 R4 K4;go_upto_region 6 with (go_at_call 50;refine HT.call HB4.out.2 ?_;intro w5 k05 k5;have HB5:Hid (Keeps zA w w5):=k05;clear k05)
  go_upto_region 7 with (first | (go_at_call 50;refine HT.call HB5.out ?_;intro w6 k06 k6;have k46:=k5.zB k6;have HB6:Hid (Keeps zA w w6):=k06;clear k06) | (go_at_call 232;refine (zCX _ _ ⟨_,_,_,rfl⟩).mono ?_;rintro e w7 ⟨rfl,k7⟩;have k47:=k46.zB k7) | (go_at_call 233;refine (zDn _ _ _ _ ⟨_,_,_,rfl⟩ ⟨_,_,_,rfl⟩).mono ?_;rintro e w7 ⟨rfl,k7⟩;have k47:=k46.zB k7))
  obtain ⟨ba,wa,e3,e4,RA,KA,_⟩:=newRow w7 [.int .i64 kk, .int .i64 a.reg, .int .i64 oo, .int .i64 a.ex.kind, .int .i64 a.ex.num, .string a.ex.nm, .slice xa a.ex.args.length xc, .int .i64 a.count, .slice ta a.thn.length tc, .slice ea a.els.length ec] 68;rw [e3,e4];have K4A:Keeps zA w4 wa:=k47.zB KA;have HBA:Hid (Keeps zA w wa):=((HB6.out.zB k7).zB KA);have HRA4:=yA (HR4.out.keeps K4A (fun h=>h));have y:=RA.zAx;replace y4:=fun W (q:Keeps zA wa W)=>y4 W (K4A.zB q)
  replace f0:=fun W (q:Keeps zA wa W)=>f0 W (K4A.zB q)
  replace f1:=fun W (q:Keeps zA wa W)=>f1 W (K4A.zB q)
  clear e3 e4 RA KA k5 k6 k7 k46 k47 k4 d hb hs K4A;refine zFg 6 (by kernel_rfl) [some (.pointer (some ⟨ba,0,none⟩)),some (.int .i64 kk),some (.int .i64 (kk - 1)),some (.pointer (some ⟨ba,2,none⟩)),some (.int .i64 oo),some (.agg #[.int .i64 (kk - 1), .int .i64 oo])] rfl (fun _ _ _=>False) (fun _ _ _ _ h _=>h) ?_ ?_
  ·refine ⟨?_,?_,?_,?_,?_,?_,trivial⟩ <;> (intro vs gs W Q' hR hd hK;have HRW:Keeps zA wa W:=((zI wa).drew).zB hR;simp only [zDP,zCQ,zFM,zJ,tz,Option.bind,Act.put] at hd hK ⊢;try simp only [hd] at hK ⊢)
   all_goals try (try clear hd;clear f0 f1 y4;go_wp2_with (go_at_call 77;refine (zKV _ _ HKK.out).mono ?_;rintro e w8 ⟨rfl,k8⟩);first | exact hK _ _ (yB _ _) rfl | exact hK _ _ (by assumption) rfl)
  ·intro vs W hR hFF
   have HRW:Keeps zA wa W:=((zI wa).drew).zB hR;have e5:vs 5=_:=hFF 5 (by decide);simp only [zJ,tz,Option.bind,Act.put];rw [e5];clear hFF e5 y;go_wp2_with fail
   have R5:zC _ b4 [.int .i64 (kk - 1), .int .i64 oo]:=((HRA4.out.keeps HRW (fun h=>h)).set 0 (by simp) (.int .i64 (kk - 1))).set 1 (by simp) (.int .i64 oo);have K5:=((HBA.out.zB HRW).setCell (p:=⟨b4,0,none⟩) (fun h=>absurd h (J178 _)) (.int .i64 (kk - 1))).setCell (p:=⟨b4,1,none⟩) (fun h=>absurd h (J178 _)) (.int .i64 oo);generalize (W.setCell ⟨b4,0,none⟩ (.int .i64 (kk - 1))).setCell ⟨b4,1,none⟩ (.int .i64 oo)=wz at R5 K5 ⊢;refine xM (v:=.agg #[.int .i64 (kk - 1), .int .i64 oo]) (J189 _) rfl ⟨rfl,K5⟩)
section
variable {w:World} {T:zS} {F:Nat -> Prop} {id b i:Nat} {u:Un} {p:zBE} {m:ze} {H:List HTh}
theorem MaP.zB2 {R:zA0 zx} {sz:Nat} {ty:TypeId} {B:zCY} (h:MaP R sz ty B w T F id b u p m H):∀ W,Keeps zA w W -> W.cell? ⟨b,5,none⟩=some (.slice (some ⟨p.gt,0,none⟩) m.zL.length p.ct):=fun W q=>(zC.zFl (show zC w b [_,_,_,_,_,_] from h.row) W q).2.2.2.2.2
theorem MaP.zMd {R:zA0 zx} {sz:Nat} {ty:TypeId} {B:zCY} (h:MaP R sz ty B w T F id b u p m H):∀ W,Keeps zA w W -> W.cell? ⟨b,4,none⟩=some (.slice p.oad m.owners.length p.ocap):=fun W q=>(zC.zFl (show zC w b [_,_,_,_,_,_] from h.row) W q).2.2.2.2.1
theorem MaP.zMK {R:zA0 zx} {sz:Nat} {ty:TypeId} {B:zCY} (h:MaP R sz ty B w T F id b u p m H):∀ W,Keeps zA w W -> W.cell? ⟨b,3,none⟩=some (.slice p.cad m.cells.length p.ccap):=fun W q=>(zC.zFl (show zC w b [_,_,_,_,_,_] from h.row) W q).2.2.2.1
theorem MaP.st {R:zA0 zx} {sz:Nat} {ty:TypeId} {B:zCY} (h:MaP R sz ty B w T F id b u p m H) (hi:i < m.zL.length):∀ W,Keeps zA w W -> W.cell? ⟨p.gt,i*3,none⟩=some (.int .i64 (m.get i).st):=by
 obtain ⟨rv,fv,hH,_⟩:=h.zL.get (xT hi);exact zT (zAF h.zL.row hH).1
theorem zHq {g i:Nat} {zL:List WTh} {t:WTh} {fs:List zx} {f:zx} {rv:Value} {gp cap:Nat} {css:List (List Value)} {pv:Value} (hL:ThL w T F id g i H zL t fs f rv gp cap css pv) (hd:fs.length < 1000000):Ret w 50 #[.pointer (some ⟨g,i*3,none⟩)] pv:=fun W hk=>zFj W g (i*3) gp fs.length cap pv (hk.cell (fun h=>h) hL.fv) (hk.cell (fun h=>h) hL.cell) (by omega) hL.pl.one
theorem zEB (h:MaP zi 1 103 zBW w T F id b u p m H) (hm:m.ok u) (hi:i < m.zL.length) :
 Calls Tryz.prog 48 #[.pointer (some ⟨b,0,none⟩), .int .i64 i] w fun e w'=>e=.returned (.agg #[.int .i64 (zAa m i).1, .int .i64 (zAa m i).2]) /\ Keeps zA w w':=by
 have hs:=h.st hi;by_cases h2:(m.get i).st=2
 ·obtain ⟨bd,hbd,hok,_⟩:=hm.th hi
  rw [h2] at hs;rcases zCR (hok.2.2 h2) (hok.2.1 (by rw [h2];decide)).2 with ⟨h3,h4⟩ | ⟨a,f,r,h3,h4,h5,h6,h7⟩
  ·have e:zAa m i=(9,(i:Int)):=by unfold zAa;rw [h2,h3];rfl
   rw [e];obtain ⟨rv,fv,hH,_,hfs⟩:=h.zL.get (xT hi);rw [h4] at hfs;obtain ⟨css,_,_,_,⟨ad,cap,rfl⟩,_⟩:=hfs;have c:=(zAF h.zL.row hH).2.2;exact zM4 hi h.zB2 hs (fun W hk=>zJc W p.gt (i*3) ad cap (hk.cell (fun h=>h) c))
  ·have e:zAa m i=(a.kind - 1,a.obj):=by unfold zAa;rw [h2,h3];rfl
   rw [e];have hsp:=zAY h4;have hfo:=(hok.2.1 (by rw [h2];decide)).2;rw [hsp] at hfo;obtain ⟨rv,gp,cap,css,pv,hL⟩:=h.zL.last (xT hi) hsp;exact zNx hi h.zB2 hs (zHq hL hfo.split.2) hL.pl h5 h7
 ·have e:zAa m i=(0,0):=by unfold zAa;rw [if_pos h2]
  rw [e];exact zLC h2 hi h.zB2 hs
end
theorem zKB {w:World} {b i:Nat} {o:Int} (HA:Ret w 48 #[.pointer (some ⟨b,0,none⟩), .int .i64 i] (.agg #[.int .i64 0, .int .i64 o])) :
 Calls Tryz.prog 72 #[.pointer (some ⟨b,0,none⟩), .int .i64 i] w fun e w'=>e=.returned (.bool false) /\ Keeps zA w w':=by
 have k0:=zI w;go_enter Tryz.func72,Tryz.ntmps72
 go_upto_region 2 with (go_at_call 48;refine HA.call k0 ?_;intro w1 K1 k1;have HK1:=yA K1;clear K1)
 obtain ⟨b4,w4,e3,e4,R4,K4,_⟩:=newRow w1 [.int .i64 0, .int .i64 o] 91;rw [e3,e4];have HB4:Hid (Keeps zA w w4):=HK1.out.zB K4;have y4:=R4.all2;have k4:=zI w4;clear e3 e4 R4 K4 k1;go_wp2_with fail
 go_ret
 exact ⟨rfl,HB4.out⟩
theorem zJh {w:World} {b i go no oc:Nat} {o v:Int} (h0:0 <= o) (hlt:o < no) (HA:Ret w 48 #[.pointer (some ⟨b,0,none⟩), .int .i64 i] (.agg #[.int .i64 4, .int .i64 o]))
 (hb:∀ W,Keeps zA w W -> W.cell? ⟨b,4,none⟩=some (.slice (some ⟨go,0,none⟩) no oc)) (hc:∀ W,Keeps zA w W -> W.cell? ⟨go,o.toNat,none⟩=some (.int .i64 v)) :
 Calls Tryz.prog 72 #[.pointer (some ⟨b,0,none⟩), .int .i64 i] w fun e w'=>e=.returned (.bool (v==-1)) /\ Keeps zA w w':=by
 have k0:=zI w;have eo:((o.toNat:Nat):Int)=o:=by omega
 go_enter Tryz.func72,Tryz.ntmps72
 go_upto_region 2 with (go_at_call 48;refine HA.call k0 ?_;intro w1 K1 k1;have HK1:=yA K1;clear K1)
 obtain ⟨b4,w4,e3,e4,R4,K4,_⟩:=newRow w1 [.int .i64 4, .int .i64 o] 91;rw [e3,e4];have HB4:Hid (Keeps zA w w4):=HK1.out.zB K4;replace hb:=fun W (q:Keeps zA w4 W)=>hb W (HB4.out.zB q)
 replace hc:=fun W (q:Keeps zA w4 W)=>hc W (HB4.out.zB q)
 have y4:=R4.all2;have k4:=zI w4;clear e3 e4 R4 K4 k1;go_upto_region 6 with fail
 go_quiet (fail)
 go_wp2_with fail
 go_ret
 exact ⟨rfl,HB4.out.drewN _⟩
theorem zKS {w:World} {b i gt nm ct:Nat} {o s:Int} (h0:0 <= o) (hlt:o < nm) (HA:Ret w 48 #[.pointer (some ⟨b,0,none⟩), .int .i64 i] (.agg #[.int .i64 7, .int .i64 o]))
 (hb:∀ W,Keeps zA w W -> W.cell? ⟨b,5,none⟩=some (.slice (some ⟨gt,0,none⟩) nm ct)) (hc:∀ W,Keeps zA w W -> W.cell? ⟨gt,o.toNat*3,none⟩=some (.int .i64 s)) :
 Calls Tryz.prog 72 #[.pointer (some ⟨b,0,none⟩), .int .i64 i] w fun e w'=>e=.returned (.bool (s != 2&&s != 4)) /\ Keeps zA w w':=by
 have k0:=zI w;have eo:((o.toNat:Nat):Int)=o:=by omega
 go_enter Tryz.func72,Tryz.ntmps72
 go_upto_region 2 with (go_at_call 48;refine HA.call k0 ?_;intro w1 K1 k1;have HK1:=yA K1;clear K1)
 obtain ⟨b4,w4,e3,e4,R4,K4,_⟩:=newRow w1 [.int .i64 7, .int .i64 o] 91;rw [e3,e4];have HB4:Hid (Keeps zA w w4):=HK1.out.zB K4;replace hb:=fun W (q:Keeps zA w4 W)=>hb W (HB4.out.zB q)
 replace hc:=fun W (q:Keeps zA w4 W)=>hc W (HB4.out.zB q)
 have y4:=R4.all2;have k4:=zI w4;clear e3 e4 R4 K4 k1;go_upto_region 8 with fail
 go_quiet (fail)
 by_cases e2:s=2
 ·subst e2
  go_wp2_with fail
  go_ret
  exact ⟨rfl,HB4.out.drewN _⟩
 ·have n2:(s != 2)=true:=bne_iff_ne.2 e2
  go_wp2_with fail
  go_ret
  exact ⟨by rw [n2];rfl,HB4.out.drewN _⟩
theorem zFY {w:World} {b i:Nat} {k o:Int} (h0:k ≠ 0) (h4:k ≠ 4) (h7:k ≠ 7) (HA:Ret w 48 #[.pointer (some ⟨b,0,none⟩), .int .i64 i] (.agg #[.int .i64 k, .int .i64 o])) :
 Calls Tryz.prog 72 #[.pointer (some ⟨b,0,none⟩), .int .i64 i] w fun e w'=>e=.returned (.bool true) /\ Keeps zA w w':=by
 have k0:=zI w;have n0:(k==0)=false:=xG h0;have n4:(k==4)=false:=xG h4;have n7:(k==7)=false:=xG h7;go_enter Tryz.func72,Tryz.ntmps72
 go_upto_region 2 with (go_at_call 48;refine HA.call k0 ?_;intro w1 K1 k1;have HK1:=yA K1;clear K1)
 obtain ⟨b5,w5,e3,e4,R4,K4,_⟩:=newRow w1 [.int .i64 k, .int .i64 o] 91;rw [e3,e4];have HB4:Hid (Keeps zA w w5):=HK1.out.zB K4;have y4:=R4.all2;have k4:=zI w5;clear e3 e4 R4 K4 k1;go_wp2_with fail
 go_ret
 exact ⟨rfl,HB4.out⟩
theorem zFe {u:Un} {x:Ac} {n:Int} (h:Ac.may u n x=true) (hk:x.kind=5 \/ x.kind=6):0 <= x.obj /\ x.obj < u.mutexes:=by
 have:=Ac.zFP h (by omega)
 rcases hk with e | e <;> (rw [e] at this;exact this)
theorem zFi {u:Un} {x:Ac} {n:Int} (h:Ac.may u n x=true) (hk:x.kind=7 \/ x.kind=8):0 <= x.obj /\ x.obj < u.threads.length:=by
 have:=Ac.zFP h (by omega)
 rcases hk with e | e <;> (rw [e] at this;exact this)
theorem zDa {u:Un} {x:Ac} {n:Int} (h:Ac.may u n x=true) (hk:x.kind=2 \/ x.kind=3 \/ x.kind=4):0 <= x.obj /\ x.obj < u.cells.length:=by
 have:=Ac.zFP h (by omega)
 rcases hk with e | e | e <;> (rw [e] at this;exact this)
section
variable {w:World} {T:zS} {F:Nat -> Prop} {id b i:Nat} {u:Un} {p:zBE} {m:ze} {H:List HTh}
theorem zHV (h:MaP zi 1 103 zBW w T F id b u p m H) (hm:m.ok u) (hi:i < m.zL.length) :
 Calls Tryz.prog 72 #[.pointer (some ⟨b,0,none⟩), .int .i64 i] w fun e w'=>e=.returned (.bool (zAy m i)) /\ Keeps zA w w':=by
 have HA:Ret w 48 #[.pointer (some ⟨b,0,none⟩), .int .i64 i] (.agg #[.int .i64 (zAa m i).1, .int .i64 (zAa m i).2]):=fun W hk=>zEB (uW zR zAD h hk) hm hi
 by_cases h2:(m.get i).st=2
 ·obtain ⟨bd,hbd,hok,_⟩:=hm.th hi
  rcases zCR (hok.2.2 h2) (hok.2.1 (by rw [h2];decide)).2 with ⟨h3,h4⟩ | ⟨a,f,r,h3,h4,h5,h6,h7⟩
  ·have e:zAa m i=(9,(i:Int)):=by unfold zAa;rw [h2,h3];rfl
   have e2:zAy m i=true:=by unfold zAy;rw [e];rfl
   rw [e2];rw [e] at HA;exact zFY (by simp) (by simp) (by simp) HA
  ·have e:zAa m i=(a.kind - 1,a.obj):=by unfold zAa;rw [h2,h3];rfl
   rw [e] at HA;by_cases k5:a.kind=5
   ·obtain ⟨o1,o2⟩:=zFe h6 (.inl k5)
    have hlt:a.obj.toNat < m.owners.length:=by rw [hm.owners];omega
    have e2:zAy m i=(m.owners.getD a.obj.toNat 0==-1):=by unfold zAy;rw [e,k5];rfl
    rw [e2];rw [show a.kind - 1=4 by omega] at HA;obtain ⟨g,cap,e3,_,hr⟩:=h.owners.at hlt;have e3:Value.slice p.oad m.owners.length p.ocap=.slice (some ⟨g,0,none⟩) m.owners.length cap:=e3;have hb:=h.zMd;rw [e3] at hb;exact zJh o1 (by omega) HA hb (zT (hr.cell (zAA m.owners _ hlt)))
   ·by_cases k8:a.kind=8
    ·obtain ⟨o1,o2⟩:=zFi h6 (.inr k8)
     have hlt:a.obj.toNat < m.zL.length:=by rw [hm.zL];omega
     have e2:zAy m i=((m.get a.obj.toNat).st != 2&&(m.get a.obj.toNat).st != 4):=by
      unfold zAy;rw [e,k8];simp [bne]
      rfl
     rw [e2];rw [show a.kind - 1=7 by omega] at HA;exact zKS o1 (by omega) HA h.zB2 (h.st hlt)
    ·have e2:zAy m i=true:=by
      unfold zAy;rw [e];simp only
      rw [if_neg (by omega),if_neg (by omega),if_neg (by omega)]
     rw [e2];exact zFY (by omega) (by omega) (by omega) HA
 ·have e:zAa m i=(0,0):=by unfold zAa;rw [if_pos h2]
  have e2:zAy m i=false:=by unfold zAy;rw [e];rfl
  rw [e2];rw [e] at HA;exact zKB HA
end
end Go.Proofs.YtfokdllgnblamaaGreatDoor
