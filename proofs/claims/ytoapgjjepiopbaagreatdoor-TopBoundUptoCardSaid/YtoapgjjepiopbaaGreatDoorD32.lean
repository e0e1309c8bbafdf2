/- Layer D: texts joined. -/
import Derived.Test.YtoapgjjepiopbaaGreatDoorD31
set_option linter.all false
set_option maxHeartbeats 4000000
set_option maxRecDepth 100000
namespace Go.Proofs.YtoapgjjepiopbaaGreatDoor
open Go.RowKit Go.Maps
abbrev vV:=@Go.WalkArith.wf_i64
abbrev vC:=@Go.Proofs.Tryz.underlying250
abbrev vB:=@MaP.zG
theorem J192(P:Prop)(h:P:=by cases e;exact absurd hq (Nat.lt_irrefl _)):P:=h
theorem J195(P:Prop)(h:P:=by have:=HB4.out.1;show¬b4<_;omega):P:=h
theorem J206(P:Prop)(h:P:=by simp[results,Tryz.results64,go_sem,R5.cell (k:=0) rfl,R5.cell (k:=1) rfl]):P:=h
theorem J224(P:Prop)(h:P:=by rw[e3];exact yT _):P:=h
theorem zAX{H:Type}{P:Program}(w:World){ops:Array Oper}{rest:List Oper}{o:Oper}{a:Act}{Q:Exit->Act->World->Prop}
 (hg:o.guard=none) (m x v:Operand) (t:TypeId) (hop:o.op=Op.insert t m x v)
 (k e:TypeId) (K:Keyed P k) (ht:P.underlying t=some (.map k e)) (R:Value->Option (DataW H × List MemPlace)) (b n:Nat) (D:DataW H)
 (hm:a.eval m=.map (some b)) (hown:w.ownsMap P k R b n D) (hn:n<maxLen) (key val:Value) (kl:Lit) (hx:a.eval x=key) (hv:a.eval v=val) (hkey:keyOf P k key=some kl)
 (d:DataW H) (ps:List MemPlace) (hval:R val=some (d,ps))
 (hK:∀w',w'.ownsMap P k R b (n+1) (D.put kl d)->w.grownBy w' (some b)->wpList P ops Q rest (a.put o.dst undef) w'):
 wpList P ops Q (o :: rest) a w:=by
 refine wpList_plain hg λK' hK'=>?_
 obtain⟨w',hrun,r1,r2⟩:=hown.update K ht hn hkey hval;unfold Oper.wp;simp[execOp,hop,hm,hx,hv,hrun,Result.andThen]
 exact hK' _ _ (hK w' r1 r2)
theorem zEY:Keyed Tryz.prog 3:=int_keyed xG
theorem zPH(w:World):(zeroValue 3).run Tryz.prog w=.ok (.int .i64 0) w:=by kernel_rfl
theorem zBS(n:Int)(h:0<=n/\n<100):keyOf Tryz.prog 3 (.int .i64 n)=some (.int .i64 n):=keyOf_int_mk xG (vV (by omega))
theorem zL5(w:World)(k:Int)(hk:k=2\/k=3\/k=5\/k=6\/k=7\/k=8):Calls Tryz.prog 106 #[k] w λe w'=>e=.returned (.int .i64 (k-1))/\Keeps zA w w':=by
 have hmm:=@run_makeMap Tryz.prog;have hown0:Hid ((w.alloc (.map #[] 0)).ownsMap (H:=Unit) Tryz.prog 3 (plainElem Tryz.prog 3) w.heap.size 0 (.map [])):=World.ownsMap_made _ _ _ _;have hg0:Hid (Keeps zA w (w.alloc (.map #[] 0))):=(yB _ _).alloc _;have n9:(k==9)=false:=xN (by omega);have n4:(k==4)=false:=xN (by omega);have hkk:=yA hk;have hky:=yA (zBS k (by omega));clear hk;go_enter Tryz.func106,Tryz.ntmps106
 go_wp2_with (first|(refine zAX _ rfl _ _ _ 250 rfl 3 3 zEY vC _ w.heap.size 0 _ rfl hown0.out (by unfold maxLen;omega) _ _ _ rfl rfl (zBS 2 (by decide)) _ [] (plainElem_int xG (vV (by decide))) ?_;intro w1 ho1 hr1;have hown1:=yA ho1;have hg1:Hid (Keeps zA w w1):=hg0.out.grown hr1 (λq e hq=>by exact J192 _);clear ho1 hr1)|(refine zAX _ rfl _ _ _ 250 rfl 3 3 zEY vC _ w.heap.size 1 _ rfl hown1.out (by unfold maxLen;omega) _ _ _ rfl rfl (zBS 3 (by decide)) _ [] (plainElem_int xG (vV (by decide))) ?_;intro w2 ho2 hr2;have hown2:=yA ho2;have hg2:Hid (Keeps zA w w2):=hg1.out.grown hr2 (λq e hq=>by exact J192 _);clear ho2 hr2)|(refine zAX _ rfl _ _ _ 250 rfl 3 3 zEY vC _ w.heap.size 2 _ rfl hown2.out (by unfold maxLen;omega) _ _ _ rfl rfl (zBS 5 (by decide)) _ [] (plainElem_int xG (vV (by decide))) ?_;intro w3 ho3 hr3;have hown3:=yA ho3;have hg3:Hid (Keeps zA w w3):=hg2.out.grown hr3 (λq e hq=>by exact J192 _);clear ho3 hr3)|(refine zAX _ rfl _ _ _ 250 rfl 3 3 zEY vC _ w.heap.size 3 _ rfl hown3.out (by unfold maxLen;omega) _ _ _ rfl rfl (zBS 6 (by decide)) _ [] (plainElem_int xG (vV (by decide))) ?_;intro w4 ho4 hr4;have hown4:=yA ho4;have hg4:Hid (Keeps zA w w4):=hg3.out.grown hr4 (λq e hq=>by exact J192 _);clear ho4 hr4)|(refine zAX _ rfl _ _ _ 250 rfl 3 3 zEY vC _ w.heap.size 4 _ rfl hown4.out (by unfold maxLen;omega) _ _ _ rfl rfl (zBS 7 (by decide)) _ [] (plainElem_int xG (vV (by decide))) ?_;intro w5 ho5 hr5;have hown5:=yA ho5;have hg5:Hid (Keeps zA w w5):=hg4.out.grown hr5 (λq e hq=>by exact J192 _);clear ho5 hr5)|(refine zAX _ rfl _ _ _ 250 rfl 3 3 zEY vC _ w.heap.size 5 _ rfl hown5.out (by unfold maxLen;omega) _ _ _ rfl rfl (zBS 8 (by decide)) _ [] (plainElem_int xG (vV (by decide))) ?_;intro w6 ho6 hr6;have hown6:=yA ho6;have hg6:Hid (Keeps zA w w6):=hg5.out.grown hr6 (λq e hq=>by exact J192 _);clear ho6 hr6)|(at_lookup;refine wpList_lookup_own_int _ rfl _ _ 250 rfl 3 3 .i64 zEY vC xG (zPH _) w.heap.size _ _ rfl hown6.out _ _ rfl hky.out ?_;intro c hat hwc;have HAT:=yA hat;clear hat hwc))
 go_ret
 refine⟨?_,hg6.out⟩
 have hat:=HAT.out;rcases hkk.out with rfl|rfl|rfl|rfl|rfl|rfl
 all_goals (
  have e:DataW.lit (H:=Unit) (Lit.int .i64 _)=.lit (.int .i64 c):=(show _=_ from hat);cases e;rfl)
theorem zLT(w:World)(k:Int)(hk:2<=k/\k<=9):Calls Tryz.prog 106 #[k] w λe w'=>e=.returned (.int .i64 (k-1))/\Keeps zA w w':=by
 by_cases h:k=9\/k=4
 ·rcases h with rfl|rfl
  all_goals (
   go_enter Tryz.func106,Tryz.ntmps106
   go_wp2_with fail
   go_ret
   exact⟨rfl,zF w⟩)
 ·exact zL5 w k (by omega)
theorem zOL{w:World}{b gt nm ct i:Nat}{st:Int}(hst:st≠2)(hi:i<nm)(hb:∀W,Keeps zA w W->W.cell? ⟨b,5,none⟩=some (.slice (some ⟨gt,0,none⟩) nm ct))(hs:∀W,Keeps zA w W->W.cell? ⟨gt,i*3,none⟩=some (.int .i64 st)):
 Calls Tryz.prog 64 #[.pointer (some ⟨b,0,none⟩),i] w λe w'=>e=.returned (.agg #[(0:Int),(0:Int)])/\Keeps zA w w':=by
 have i1:(0:Int)<=i:=by omega
 have i2:(i:Int)<nm:=by omega
 have e1:(st != 2)=true:=uN.2 hst;obtain⟨b4,w4,e3,e4,R4,K4,_⟩:=newRow w [(0:Int),(0:Int)] 138;have y4:=R4.all2;have k4:=zF w4;replace hb:=λW (q:Keeps zA w4 W)=>hb W (K4.zC q)
 replace hs:=λW (q:Keeps zA w4 W)=>hs W (K4.zC q)
 have f0:=zK (R4.free (k:=0) (by simp)) ⟨_,R4.cell (k:=0) rfl⟩;have f1:=zK (R4.free (k:=1) (by simp)) ⟨_,R4.cell (k:=1) rfl⟩;have HB4:Hid (w.heap.size<=b4/\Keeps zA w w4):=⟨by exact J224 _,K4⟩;go_enter Tryz.func64,Tryz.ntmps64
 go_upto_region 1 with fail
 try rw[e3]
 try rw[e4]
 have HR4:=yA R4;clear e3 e4 R4 K4;go_wp2_with fail
 have R5:zB _ b4 [(0:Int),(0:Int)]:=(HR4.out.set 0 (by simp) (.int .i64 0)).set 1 (by simp) (.int .i64 0);have K5:=((HB4.out.2).setCell (p:=⟨b4,0,none⟩) (λh=>absurd h (J195 _)) (.int .i64 0)).setCell (p:=⟨b4,1,none⟩) (λh=>absurd h (J195 _)) (.int .i64 0);generalize (w4.setCell ⟨b4,0,none⟩ (.int .i64 0)).setCell ⟨b4,1,none⟩ (.int .i64 0)=wz at R5 K5 ⊢;refine xK (v:=.agg #[(0:Int),(0:Int)]) (J206 _) rfl ⟨rfl,K5⟩
theorem zPj{w:World}{b gt nm ct i:Nat}(hi:i<nm)(hb:∀W,Keeps zA w W->W.cell? ⟨b,5,none⟩=some (.slice (some ⟨gt,0,none⟩) nm ct))(hs:∀W,Keeps zA w W->W.cell? ⟨gt,i*3,none⟩=some (.int .i64 2))
 (HT:Ret w 66 #[.pointer (some ⟨gt,i*3,none⟩)] .nilIface):
 Calls Tryz.prog 64 #[.pointer (some ⟨b,0,none⟩),i] w λe w'=>e=.returned (.agg #[(9:Int),i])/\Keeps zA w w':=by
 have i1:(0:Int)<=i:=by omega
 have i2:(i:Int)<nm:=by omega
 obtain⟨b4,w4,e3,e4,R4,K4,_⟩:=newRow w [(0:Int),(0:Int)] 138;have y4:=R4.all2;have k4:=zF w4;replace hb:=λW (q:Keeps zA w4 W)=>hb W (K4.zC q)
 replace hs:=λW (q:Keeps zA w4 W)=>hs W (K4.zC q)
 have f0:=zK (R4.free (k:=0) (by simp)) ⟨_,R4.cell (k:=0) rfl⟩;have f1:=zK (R4.free (k:=1) (by simp)) ⟨_,R4.cell (k:=1) rfl⟩;have HB4:Hid (w.heap.size<=b4/\Keeps zA w w4):=⟨by exact J224 _,K4⟩;go_enter Tryz.func64,Tryz.ntmps64
 go_upto_region 1 with fail
 try rw[e3]
 try rw[e4]
 have HR4:=yA R4;clear e3 e4 R4 K4;go_upto_region 5 with(go_at_call 66;refine HT.call HB4.out.2 ?_;intro w5 k05 k5)
 have HB5:Hid (Keeps zA w w5):=k05;clear k05;go_wp2_with fail
 have R5:zB _ b4 [(9:Int),i]:=((HR4.out.keeps k5 (λh=>h)).set 0 (by simp) (.int .i64 9)).set 1 (by simp) (.int .i64 i);have K5:=((HB5.out).setCell (p:=⟨b4,0,none⟩) (λh=>absurd h (J195 _)) (.int .i64 9)).setCell (p:=⟨b4,1,none⟩) (λh=>absurd h (J195 _)) (.int .i64 i);generalize (w5.setCell ⟨b4,0,none⟩ (.int .i64 9)).setCell ⟨b4,1,none⟩ (.int .i64 i)=wz at R5 K5 ⊢;refine xK (v:=.agg #[(9:Int),i]) (J206 _) rfl ⟨rfl,K5⟩
theorem zQH{w:World}{F:Nat->Prop}{b gt nm ct i:Nat}{f:WFr}{pv:Value}{a:Ac}{r:List Ac}(hi:i<nm)(hb:∀W,Keeps zA w W->W.cell? ⟨b,5,none⟩=some (.slice (some ⟨gt,0,none⟩) nm ct))(hs:∀W,Keeps zA w W->W.cell? ⟨gt,i*3,none⟩=some (.int .i64 2))
 (HT:Ret w 66 #[.pointer (some ⟨gt,i*3,none⟩)] pv) (hpl:zBc w F f pv) (hr:f.rest=a :: r) (hk:2<=a.kind/\a.kind<=9):
 Calls Tryz.prog 64 #[.pointer (some ⟨b,0,none⟩),i] w λe w'=>e=.returned (.agg #[.int .i64 (a.kind-1),a.obj])/\Keeps zA w w':=by
 have i1:(0:Int)<=i:=by omega
 have i2:(i:Int)<nm:=by omega
 have HKK:=yA hk;clear hk;obtain⟨b4,w4,e3,e4,R4,K4,_⟩:=newRow w [(0:Int),(0:Int)] 138;have y4:=R4.all2;have k4:=zF w4;replace hb:=λW (q:Keeps zA w4 W)=>hb W (K4.zC q)
 replace hs:=λW (q:Keeps zA w4 W)=>hs W (K4.zC q)
 have f0:=zK (R4.free (k:=0) (by simp)) ⟨_,R4.cell (k:=0) rfl⟩;have f1:=zK (R4.free (k:=1) (by simp)) ⟨_,R4.cell (k:=1) rfl⟩;have HB4:Hid (w.heap.size<=b4/\Keeps zA w w4):=⟨by exact J224 _,K4⟩;unfold zBc at hpl;rw[hr] at hpl;rcases hpl with hp|hp
 all_goals (first|(obtain⟨h0,v,rfl,hv⟩:=hp;clear h0)|(obtain⟨v,v2,rfl,hv,hv2⟩:=hp;obtain⟨sg,sh,rfl⟩:=hv2.slice;clear hv2))
 all_goals (
  obtain⟨ga,oa,sc,xa,xc,tv,ev,rfl,hga,hxs,htv,hev,q⟩:=hv.head;obtain⟨ta,tc,rfl⟩:=htv.slice;obtain⟨ea,ec,rfl⟩:=hev.slice
  have d:∀W,Keeps zA w4 W->W.cell? ⟨ga,oa,none⟩=some (.int .i64 a.kind)/\W.cell? ⟨ga,oa+1,none⟩=some (.int .i64 a.reg)/\W.cell? ⟨ga,oa+2,none⟩=some (.int .i64 a.obj)/\W.cell? ⟨ga,oa+3,none⟩=some (.int .i64 a.ex.kind)/\W.cell? ⟨ga,oa+4,none⟩=some (.int .i64 a.ex.num) ∧
   W.cell? ⟨ga,oa+5,none⟩=some (.string a.ex.nm)/\W.cell? ⟨ga,oa+6,none⟩=some (.slice xa a.ex.args.length xc)/\W.cell? ⟨ga,oa+7,none⟩=some (.int .i64 a.count)/\W.cell? ⟨ga,oa+8,none⟩=some (.slice ta a.thn.length tc)/\W.cell? ⟨ga,oa+9,none⟩=some (.slice ea a.els.length ec):=
   λW hk'=>have hk:=HB4.out.2.zC hk'
    ⟨hk.cell (λh=>h) q.1,hk.cell (λh=>h) q.2.1,hk.cell (λh=>h) q.2.2.1,hk.cell (λh=>h) q.2.2.2.1,hk.cell (λh=>h) q.2.2.2.2.1,hk.cell (λh=>h) q.2.2.2.2.2.1,hk.cell (λh=>h) q.2.2.2.2.2.2.1,hk.cell (λh=>h) q.2.2.2.2.2.2.2.1,hk.cell (λh=>h) q.2.2.2.2.2.2.2.2.1,hk.cell (λh=>h) q.2.2.2.2.2.2.2.2.2⟩
  clear hv q hxs htv hev hga;have j1:¬((r.length+1:Nat):Int)=0:=by omega
  have j2:(((r.length+1:Nat):Int)==0)=false:=xN j1;generalize a.kind=kk at d HKK;generalize a.obj=oo at d;go_enter Tryz.func64,Tryz.ntmps64
  go_upto_region 1 with fail
  try rw[e3]
  try rw[e4]
  have HR4:=yA R4;clear e3 e4 R4 K4;go_upto_region 6 with(go_at_call 66;refine HT.call HB4.out.2 ?_;intro w5 k05 k5;have HB5:Hid (Keeps zA w w5):=k05;clear k05)
  go_upto_region 7 with(first|(go_at_call 66;refine HT.call HB5.out ?_;intro w6 k06 k6;have k46:=k5.zC k6;have HB6:Hid (Keeps zA w w6):=k06;clear k06)|(go_at_call 366;refine(zCm _ _ ⟨_,_,_,rfl⟩).mono ?_;rintro e w7 ⟨rfl,k7⟩;have k47:=k46.zC k7)|(go_at_call 367;refine(zDz _ _ _ _ ⟨_,_,_,rfl⟩ ⟨_,_,_,rfl⟩).mono ?_;rintro e w7 ⟨rfl,k7⟩;have k47:=k46.zC k7))
  obtain⟨ba,wa,e3,e4,RA,KA,_⟩:=newRow w7 [kk,a.reg,oo,a.ex.kind,a.ex.num,a.ex.nm,.slice xa a.ex.args.length xc,a.count,.slice ta a.thn.length tc,.slice ea a.els.length ec] 146;rw[e3,e4];have K4A:Keeps zA w4 wa:=k47.zC KA;have HBA:Hid (Keeps zA w wa):=((HB6.out.zC k7).zC KA);have HRA4:=yA (HR4.out.keeps K4A (λh=>h));have y:=RA.zq;replace y4:=λW (q:Keeps zA wa W)=>y4 W (K4A.zC q)
  replace f0:=λW (q:Keeps zA wa W)=>f0 W (K4A.zC q)
  replace f1:=λW (q:Keeps zA wa W)=>f1 W (K4A.zC q)
  clear e3 e4 RA KA k5 k6 k7 k46 k47 k4 d hb hs K4A;refine zBG 6 (by kernel_rfl) [some (.pointer (some ⟨ba,0,none⟩)),some (.int .i64 kk),some (.int .i64 (kk-1)),some (.pointer (some ⟨ba,2,none⟩)),some (.int .i64 oo),some (.agg #[.int .i64 (kk-1),oo])] rfl (λ_ _ _=>False) (λ_ _ _ _ h _=>h) ?_ ?_
  ·refine⟨?_,?_,?_,?_,?_,?_,trivial⟩ <;> (intro vs gs W Q' hR hd hK;have HRW:Keeps zA wa W:=((zF wa).drew).zC hR;simp only[zBK,zAt,zBo,zJ,tz,Option.bind,Act.put] at hd hK ⊢;try simp only[hd] at hK ⊢)
   all_goals try(try clear hd;clear f0 f1 y4;go_wp2_with (go_at_call 106;refine(zLT _ _ HKK.out).mono ?_;rintro e w8 ⟨rfl,k8⟩);first|exact hK _ _ (yB _ _) rfl|exact hK _ _ (by assumption) rfl)
  ·intro vs W hR hFF
   have HRW:Keeps zA wa W:=((zF wa).drew).zC hR;have e5:vs 5=_:=hFF 5 (by decide);simp only[zJ,tz,Option.bind,Act.put];rw[e5];clear hFF e5 y;go_wp2_with fail
   have R5:zB _ b4 [.int .i64 (kk-1),oo]:=((HRA4.out.keeps HRW (λh=>h)).set 0 (by simp) (.int .i64 (kk-1))).set 1 (by simp) (.int .i64 oo);have K5:=((HBA.out.zC HRW).setCell (p:=⟨b4,0,none⟩) (λh=>absurd h (J195 _)) (.int .i64 (kk-1))).setCell (p:=⟨b4,1,none⟩) (λh=>absurd h (J195 _)) (.int .i64 oo);generalize (W.setCell ⟨b4,0,none⟩ (.int .i64 (kk-1))).setCell ⟨b4,1,none⟩ (.int .i64 oo)=wz at R5 K5 ⊢;refine xK (v:=.agg #[.int .i64 (kk-1),oo]) (J206 _) rfl ⟨rfl,K5⟩)
section
variable {w:World} {T:zZ} {F:Nat->Prop} {id b i:Nat} {u:Un} {p:zB8} {m:zy} {H:List HTh}
theorem MaP.zCL{R:zA5 WFr}{sz:Nat}{ty:TypeId}{B:zC0}(h:MaP R sz ty B w T F id b u p m H):∀W,Keeps zA w W->W.cell? ⟨b,5,none⟩=some (.slice (some ⟨p.gt,0,none⟩) m.zP.length p.ct):=λW q=>(zB.zGm (show zB w b [_,_,_,_,_,_] from h.row) W q).2.2.2.2.2
theorem MaP.zO4{R:zA5 WFr}{sz:Nat}{ty:TypeId}{B:zC0}(h:MaP R sz ty B w T F id b u p m H):∀W,Keeps zA w W->W.cell? ⟨b,4,none⟩=some (.slice p.oad m.owners.length p.ocap):=λW q=>(zB.zGm (show zB w b [_,_,_,_,_,_] from h.row) W q).2.2.2.2.1
theorem MaP.zMd{R:zA5 WFr}{sz:Nat}{ty:TypeId}{B:zC0}(h:MaP R sz ty B w T F id b u p m H):∀W,Keeps zA w W->W.cell? ⟨b,3,none⟩=some (.slice p.cad m.cells.length p.ccap):=λW q=>(zB.zGm (show zB w b [_,_,_,_,_,_] from h.row) W q).2.2.2.1
theorem MaP.st{R:zA5 WFr}{sz:Nat}{ty:TypeId}{B:zC0}(h:MaP R sz ty B w T F id b u p m H)(hi:i<m.zP.length):∀W,Keeps zA w W->W.cell? ⟨p.gt,i*3,none⟩=some (.int .i64 (m.get i).st):=by
 obtain⟨rv,fv,hH,_⟩:=h.zP.get (uD hi);exact zL (zAP h.zP.row hH).1
theorem zJn{g i:Nat}{zP:List WTh}{t:WTh}{fs:List WFr}{f:WFr}{rv:Value}{gp cap:Nat}{css:List (List Value)}{pv:Value}(hL:ThL w T F id g i H zP t fs f rv gp cap css pv)(hd:fs.length<1000000):Ret w 66 #[.pointer (some ⟨g,i*3,none⟩)] pv:=λW hk=>zGY W g (i*3) gp fs.length cap pv (hk.cell (λh=>h) hL.fv) (hk.cell (λh=>h) hL.cell) (by omega) hL.pl.one
theorem zEZ(h:MaP zm 1 148 zBk w T F id b u p m H)(hm:m.ok u)(hi:i<m.zP.length):
 Calls Tryz.prog 64 #[.pointer (some ⟨b,0,none⟩),i] w λe w'=>e=.returned (.agg #[.int .i64 (zAc m i).1,.int .i64 (zAc m i).2])/\Keeps zA w w':=by
 have hs:=h.st hi;by_cases h2:(m.get i).st=2
 ·obtain⟨bd,hbd,hok,_⟩:=hm.th hi
  rw[h2] at hs;rcases zDH (hok.2.2 h2) (hok.2.1 (by rw[h2];decide)).2 with⟨h3,h4⟩|⟨a,f,r,h3,h4,h5,h6,h7⟩
  ·have e:zAc m i=(9,(i:Int)):=J227 _
   rw[e];obtain⟨rv,fv,hH,_,hfs⟩:=h.zP.get (uD hi);rw[h4] at hfs;obtain⟨css,_,_,_,⟨ad,cap,rfl⟩,_⟩:=hfs;have c:=(zAP h.zP.row hH).2.2;exact zPj hi h.zCL hs (λW hk=>zKt W p.gt (i*3) ad cap (hk.cell (λh=>h) c))
  ·have e:zAc m i=(a.kind-1,a.obj):=J227 _
   rw[e];have hsp:=zAg h4;have hfo:=(hok.2.1 (by rw[h2];decide)).2;rw[hsp] at hfo;obtain⟨rv,gp,cap,css,pv,hL⟩:=h.zP.last (uD hi) hsp;exact zQH hi h.zCL hs (zJn hL hfo.split.2) hL.pl h5 h7
 ·have e:zAc m i=(0,0):=by unfold zAc;rw[if_pos h2]
  rw[e];exact zOL h2 hi h.zCL hs
end
theorem zMC{w:World}{b i:Nat}{o:Int}(HA:Ret w 64 #[.pointer (some ⟨b,0,none⟩),.int .i64 i] (.agg #[(0:Int),o])):
 Calls Tryz.prog 62 #[.pointer (some ⟨b,0,none⟩),i] w λe w'=>e=.returned false/\Keeps zA w w':=by
 have k0:=zF w;go_enter Tryz.func62,Tryz.ntmps62
 go_upto_region 2 with(go_at_call 64;refine HA.call k0 ?_;intro w1 K1 k1;have HK1:=yA K1;clear K1)
 obtain⟨b4,w4,e3,e4,R4,K4,_⟩:=newRow w1 [(0:Int),o] 138;rw[e3,e4];have HB4:Hid (Keeps zA w w4):=HK1.out.zC K4;have y4:=R4.all2;have k4:=zF w4;clear e3 e4 R4 K4 k1;go_wp2_with fail
 go_ret
 exact⟨rfl,HB4.out⟩
theorem zLX{w:World}{b i go no oc:Nat}{o v:Int}(h0:0<=o)(hlt:o<no)(HA:Ret w 64 #[.pointer (some ⟨b,0,none⟩),.int .i64 i] (.agg #[(4:Int),o]))
 (hb:∀W,Keeps zA w W->W.cell? ⟨b,4,none⟩=some (.slice (some ⟨go,0,none⟩) no oc)) (hc:∀W,Keeps zA w W->W.cell? ⟨go,o.toNat,none⟩=some (.int .i64 v)):
 Calls Tryz.prog 62 #[.pointer (some ⟨b,0,none⟩),i] w λe w'=>e=.returned (.bool (v==-1))/\Keeps zA w w':=by
 have k0:=zF w;have eo:((o.toNat:Nat):Int)=o:=by omega
 go_enter Tryz.func62,Tryz.ntmps62
 go_upto_region 2 with(go_at_call 64;refine HA.call k0 ?_;intro w1 K1 k1;have HK1:=yA K1;clear K1)
 obtain⟨b4,w4,e3,e4,R4,K4,_⟩:=newRow w1 [(4:Int),o] 138;rw[e3,e4];have HB4:Hid (Keeps zA w w4):=HK1.out.zC K4;replace hb:=λW (q:Keeps zA w4 W)=>hb W (HB4.out.zC q)
 replace hc:=λW (q:Keeps zA w4 W)=>hc W (HB4.out.zC q)
 have y4:=R4.all2;have k4:=zF w4;clear e3 e4 R4 K4 k1;go_upto_region 6 with fail
 go_quiet (fail)
 go_wp2_with fail
 go_ret
 exact⟨rfl,HB4.out.drewN _⟩
theorem zML{w:World}{b i gt nm ct:Nat}{o s:Int}(h0:0<=o)(hlt:o<nm)(HA:Ret w 64 #[.pointer (some ⟨b,0,none⟩),.int .i64 i] (.agg #[(7:Int),o]))
 (hb:∀W,Keeps zA w W->W.cell? ⟨b,5,none⟩=some (.slice (some ⟨gt,0,none⟩) nm ct)) (hc:∀W,Keeps zA w W->W.cell? ⟨gt,o.toNat*3,none⟩=some (.int .i64 s)):
 Calls Tryz.prog 62 #[.pointer (some ⟨b,0,none⟩),i] w λe w'=>e=.returned (.bool (s != 2&&s != 4))/\Keeps zA w w':=by
 have k0:=zF w;have eo:((o.toNat:Nat):Int)=o:=by omega
 go_enter Tryz.func62,Tryz.ntmps62
 go_upto_region 2 with(go_at_call 64;refine HA.call k0 ?_;intro w1 K1 k1;have HK1:=yA K1;clear K1)
 obtain⟨b4,w4,e3,e4,R4,K4,_⟩:=newRow w1 [(7:Int),o] 138;rw[e3,e4];have HB4:Hid (Keeps zA w w4):=HK1.out.zC K4;replace hb:=λW (q:Keeps zA w4 W)=>hb W (HB4.out.zC q)
 replace hc:=λW (q:Keeps zA w4 W)=>hc W (HB4.out.zC q)
 have y4:=R4.all2;have k4:=zF w4;clear e3 e4 R4 K4 k1;go_upto_region 8 with fail
 go_quiet (fail)
 by_cases e2:s=2
 ·subst e2
  go_wp2_with fail
  go_ret
  exact⟨rfl,HB4.out.drewN _⟩
 ·have n2:(s != 2)=true:=uN.2 e2
  go_wp2_with fail
  go_ret
  exact⟨by rw[n2];rfl,HB4.out.drewN _⟩
theorem zGi{w:World}{b i:Nat}{k o:Int}(h0:k≠0)(h4:k≠4)(h7:k≠7)(HA:Ret w 64 #[.pointer (some ⟨b,0,none⟩),.int .i64 i] (.agg #[k,o])):
 Calls Tryz.prog 62 #[.pointer (some ⟨b,0,none⟩),i] w λe w'=>e=.returned true/\Keeps zA w w':=by
 have k0:=zF w;have n0:(k==0)=false:=xN h0;have n4:(k==4)=false:=xN h4;have n7:(k==7)=false:=xN h7;go_enter Tryz.func62,Tryz.ntmps62
 go_upto_region 2 with(go_at_call 64;refine HA.call k0 ?_;intro w1 K1 k1;have HK1:=yA K1;clear K1)
 obtain⟨b5,w5,e3,e4,R4,K4,_⟩:=newRow w1 [k,o] 138;rw[e3,e4];have HB4:Hid (Keeps zA w w5):=HK1.out.zC K4;have y4:=R4.all2;have k4:=zF w5;clear e3 e4 R4 K4 k1;go_wp2_with fail
 go_ret
 exact⟨rfl,HB4.out⟩
theorem zGn{u:Un}{x:Ac}{n:Int}(h:Ac.may u n x=true)(hk:x.kind=5\/x.kind=6):0<=x.obj/\x.obj<u.mutexes:=by
 have:=Ac.zF4 h (by omega)
 rcases hk with e|e <;> (rw[e] at this;exact this)
theorem zGT{u:Un}{x:Ac}{n:Int}(h:Ac.may u n x=true)(hk:x.kind=7\/x.kind=8):0<=x.obj/\x.obj<u.threads.length:=by
 have:=Ac.zF4 h (by omega)
 rcases hk with e|e <;> (rw[e] at this;exact this)
theorem zDo{u:Un}{x:Ac}{n:Int}(h:Ac.may u n x=true)(hk:x.kind=2\/x.kind=3\/x.kind=4):0<=x.obj/\x.obj<u.cells.length:=by
 have:=Ac.zF4 h (by omega)
 rcases hk with e|e|e <;> (rw[e] at this;exact this)
section
variable {w:World} {T:zZ} {F:Nat->Prop} {id b i:Nat} {u:Un} {p:zB8} {m:zy} {H:List HTh}
theorem zJA(h:MaP zm 1 148 zBk w T F id b u p m H)(hm:m.ok u)(hi:i<m.zP.length):
 Calls Tryz.prog 62 #[.pointer (some ⟨b,0,none⟩),i] w λe w'=>e=.returned (.bool (zBA m i))/\Keeps zA w w':=by
 have HA:Ret w 64 #[.pointer (some ⟨b,0,none⟩),.int .i64 i] (.agg #[.int .i64 (zAc m i).1,.int .i64 (zAc m i).2]):=λW hk=>zEZ (vB zU zAG h hk) hm hi
 by_cases h2:(m.get i).st=2
 ·obtain⟨bd,hbd,hok,_⟩:=hm.th hi
  rcases zDH (hok.2.2 h2) (hok.2.1 (by rw[h2];decide)).2 with⟨h3,h4⟩|⟨a,f,r,h3,h4,h5,h6,h7⟩
  ·have e:zAc m i=(9,(i:Int)):=J227 _
   have e2:zBA m i=true:=by unfold zBA;rw[e];rfl
   rw[e2];rw[e] at HA;exact zGi (by simp) (by simp) (by simp) HA
  ·have e:zAc m i=(a.kind-1,a.obj):=J227 _
   rw[e] at HA;by_cases k5:a.kind=5
   ·obtain⟨o1,o2⟩:=zGn h6 (.inl k5)
    have hlt:a.obj.toNat<m.owners.length:=by rw[hm.owners];omega
    have e2:zBA m i=(m.owners.getD a.obj.toNat 0==-1):=by unfold zBA;rw[e,k5];rfl
    rw[e2];rw[show a.kind-1=4 by omega] at HA;obtain⟨g,cap,e3,_,hr⟩:=h.owners.at hlt;have e3:Value.slice p.oad m.owners.length p.ocap=.slice (some ⟨g,0,none⟩) m.owners.length cap:=e3;have hb:=h.zO4;rw[e3] at hb;exact zLX o1 (by omega) HA hb (zL (hr.cell (zAB m.owners _ hlt)))
   ·by_cases k8:a.kind=8
    ·obtain⟨o1,o2⟩:=zGT h6 (.inr k8)
     have hlt:a.obj.toNat<m.zP.length:=by rw[hm.zP];omega
     have e2:zBA m i=((m.get a.obj.toNat).st != 2&&(m.get a.obj.toNat).st != 4):=by
      unfold zBA;rw[e,k8];simp[bne]
      rfl
     rw[e2];rw[show a.kind-1=7 by omega] at HA;exact zML o1 (by omega) HA h.zCL (h.st hlt)
    ·have e2:zBA m i=true:=by
      unfold zBA;rw[e];simp only
      rw[if_neg (by omega),if_neg (by omega),if_neg (by omega)]
     rw[e2];exact zGi (by omega) (by omega) (by omega) HA
 ·have e:zAc m i=(0,0):=by unfold zAc;rw[if_pos h2]
  have e2:zBA m i=false:=by unfold zBA;rw[e];rfl
  rw[e2];rw[e] at HA;exact zMC HA
end
end Go.Proofs.YtoapgjjepiopbaaGreatDoor
namespace Go.Proofs.YtoapgjjepiopbaaGreatDoor
open Go.RowKit
section
variable {w:World} {b gt nm ct:Nat}
theorem zPL(i:Int)(hi:i<0):Calls Tryz.prog 63 #[.pointer (some ⟨b,0,none⟩),i] w λe w'=>e=.returned (.int .i64 2)/\Keeps zA w w':=by
 have e1:decide (i<0)=true:=uC hi;go_enter Tryz.func63,Tryz.ntmps63
 exact J31 _
theorem zNT(i:Int)(hi:0<=i)(hn:(nm:Int)<=i)(k5:w.cell? ⟨b,5,none⟩=some (.slice (some ⟨gt,0,none⟩) nm ct)):
 Calls Tryz.prog 63 #[.pointer (some ⟨b,0,none⟩),i] w λe w'=>e=.returned (.int .i64 2)/\Keeps zA w w':=by
 have e1:decide (i<0)=false:=uK (by omega);go_enter Tryz.func63,Tryz.ntmps63
 go_wp2_with fail
 go_ret
 exact⟨rfl,yB _ _⟩
theorem zLm(i:Nat)(st:Int)(hst:st=1\/st=3\/st=4)(hi:i<nm)(k5:w.cell? ⟨b,5,none⟩=some (.slice (some ⟨gt,0,none⟩) nm ct))(t0:w.cell? ⟨gt,i*3,none⟩=some (.int .i64 st)):
 Calls Tryz.prog 63 #[.pointer (some ⟨b,0,none⟩),i] w λe w'=>e=.returned (.int .i64 (if st=1 then 80 else if st=3 then 81 else 82))/\Keeps zA w w':=by
 have i0:(0:Int)<=i:=by omega
 have e1:decide ((i:Int)<0)=false:=uK (by omega);have i2:(i:Int)<nm:=by omega
 rcases hst with rfl|rfl|rfl
 all_goals (
  go_enter Tryz.func63,Tryz.ntmps63
  go_wp2_with fail
  go_ret
  exact⟨rfl,yB _ _⟩)
theorem zPV(i:Nat)(a:Bool)(hi:i<nm)(k5:w.cell? ⟨b,5,none⟩=some (.slice (some ⟨gt,0,none⟩) nm ct))(t0:w.cell? ⟨gt,i*3,none⟩=some (.int .i64 2))
 (HA:Ret w 62 #[.pointer (some ⟨b,0,none⟩),.int .i64 i] (.bool a)):
 Calls Tryz.prog 63 #[.pointer (some ⟨b,0,none⟩),i] w λe w'=>e=.returned (.int .i64 (if a=true then 0 else 83))/\Keeps zA w w':=by
 have i0:(0:Int)<=i:=by omega
 have e1:decide ((i:Int)<0)=false:=uK (by omega);have i2:(i:Int)<nm:=by omega
 have k0:=zF w;cases a
 all_goals (
  go_enter Tryz.func63,Tryz.ntmps63
  go_wp2_with (go_at_call 62;refine HA.call k0 ?_;intro w1 K1 k1;have HK1:=yA K1;clear K1)
  go_ret
  exact⟨rfl,HK1.out⟩)
end
section
variable {w:World} {T:zZ} {F:Nat->Prop} {id b:Nat} {u:Un} {p:zB8} {m:zy} {H:List HTh}
theorem zFm(h:MaP zm 1 148 zBk w T F id b u p m H)(hm:m.ok u)(i:Int):
 Calls Tryz.prog 63 #[.pointer (some ⟨b,0,none⟩),i] w λe w'=>e=.returned (.int .i64 (zCF m i))/\Keeps zA w w':=by
 have k5:=h.zCL w (zF w);by_cases hlo:i<0
 ·have e:zCF m i=2:=by unfold zCF;rw[if_pos (.inl hlo)]
  rw[e];exact zPL i hlo
 ·by_cases hhi:(m.zP.length:Int)<=i
  ·have e:zCF m i=2:=by unfold zCF;rw[if_pos (.inr hhi)]
   rw[e];exact zNT i (by omega) hhi k5
  ·obtain⟨k,rfl⟩:∃k:Nat,i=k:=⟨i.toNat,by omega⟩
   have hk:k<m.zP.length:=by omega
   have t0:=h.st hk w (zF w);obtain⟨bd,hbd,hok,_⟩:=hm.th hk;by_cases h2:(m.get k).st=2
   ·have HA:Ret w 62 #[.pointer (some ⟨b,0,none⟩),.int .i64 k] (.bool (zBA m k)):=λW hq=>zJA (vB zU zAG h hq) hm hk
    rw[h2] at t0;have:=zPV k (zBA m k) hk k5 t0 HA
    have e:zCF m k=if zBA m k=true then 0 else 83:=by
     unfold zCF;rw[if_neg (by omega)];simp only[Int.toNat_natCast,h2];rfl
    rw[e];exact this
   ·have hst:(m.get k).st=1\/(m.get k).st=3\/(m.get k).st=4:=by rcases hok.1 with e|e|e|e <;> omega
    have:=zLm k _ hst hk k5 t0
    have e:zCF m k=if (m.get k).st=1 then 80 else if (m.get k).st=3 then 81 else 82:=by
     unfold zCF;rw[if_neg (by omega)];simp only[Int.toNat_natCast];rcases hst with e|e|e <;> rw[e] <;> rfl
    rw[e];exact this
end
def zH3(w:World)(xs:List Int)(e:Ending)(w':World):Prop:=
 ∃v,e=.returned v/\w'.ownsRow 0 3 1 v xs.length (ints xs)/\Keeps zA w w'/\∀kb,v.ownBlock=some kb->w.heap.size<=kb
def enK(m:zy)(k:Nat):List Int:=((List.range k).filter (zBA m)).map λ(i:Nat)=>(i:Int)
theorem zOH(m:zy)(k:Nat):enK m (k+1)=if zBA m k=true then enK m k++[(k:Int)] else enK m k:=by
 unfold enK;rw[List.range_succ,List.filter_append,List.map_append];by_cases h:zBA m k=true
 ·simp[h]
 ·simp[h]
theorem zK2(m:zy)(k:Nat):(enK m k).length<=k:=by
 unfold enK;rw[kE];exact yX (List.length_filter_le _ _) (by simp)
theorem zOt(m:zy):enK m m.zP.length=zA1 m:=rfl
theorem zIN(w:World)(b gt nm ct:Nat)(m:zy)(h8:nm<=8)(k5:∀W,Keeps zA w W->W.cell? ⟨b,5,none⟩=some (.slice (some ⟨gt,0,none⟩) nm ct))
 (HA:∀i,i<nm->Ret w 62 #[.pointer (some ⟨b,0,none⟩),.int .i64 i] (.bool (zBA m i))):
 Calls Tryz.prog 26 #[.pointer (some ⟨b,0,none⟩)] w (zH3 w (enK m nm)):=by
 obtain⟨i0,hi0,hz0,hz1,hz2⟩:=info_parts zBI;have n1:(0:Int)<=nm:=by omega
 have HAA:Hid (∀i,i<nm->Ret w 62 #[.pointer (some ⟨b,0,none⟩),.int .i64 i] (.bool (zBA m i))):=HA;have k0:=zF w;clear HA;go_enter Tryz.func26,Tryz.ntmps26
 go_wp2_with fail
 go_loopw [3,10] (λv i wr=>∃k mm adv capv,k<=nm/\i=.int .i64 (k:Nat)/\v=.slice adv mm capv/\Hid (mm=(enK m k).length/\wr.ownsRow 0 3 1 (.slice adv mm capv) mm (ints (enK m k)))/\Hid (Keeps zA w wr)/\Hid (∀kb,(Value.slice adv mm capv).ownBlock=some kb->w.heap.size<=kb)) (λ_ i _=>nm-(intOf i).toNat)
 case atStart=>exact⟨0,0,none,0,yF _,rfl,rfl,⟨rfl,World.ownsRow_nil _ _ _ _⟩,yB _ _,λkb e=>by exact J170 _⟩
 case round =>
  obtain⟨k,mm,adv,capv,hk,rfl,rfl,hown,hb,hq⟩:=hrel;have k5r:=k5 wr hb.out;by_cases hlt:k<nm
  ·have i1:(0:Int)<=k:=by omega
   have i2:(k:Int)<(nm:Int):=by omega
   have hm:Hid (mm<=8):=by
    have h1:=zK2 m k;have h2:=hown.out.1;show mm<=8
    omega
   have HP:=yA (zOH m k);have HR:=HAA.out k hlt;generalize hr:zBA m k=r at HP HR;clear hr;cases r
   ·have HQ:Hid (mm=(enK m (k+1)).length/\wr.ownsRow 0 3 1 (.slice adv mm capv) mm (ints (enK m (k+1)))):=by rw[HP.out];exact hown.out
    clear HP hown;go_wp2_with (go_at_call 62;refine HR.call hb.out ?_;intro w1 g0 g1;have G0:=yA g0;have G1:=yA g1;clear g0 g1)
    go_roundw
    case rel=>exact⟨k+1,mm,adv,capv,by omega,by go_num,rfl,⟨HQ.out.1,zD HQ.out.2 G1.out (λ_ _ h=>h)⟩,G0.out,hq.out⟩
    case measure=>simp[intOf];omega
   ·have HQ:Hid (enK m (k+1)=enK m k++[(k:Int)]):=by rw[HP.out];exact rfl
    clear HP;go_wp2_with (first|(go_at_call 62;refine HR.call hb.out ?_;intro w1 g0 g1;have G0:=yA g0;have G1:=yA g1;have hs1:wr.heap.size<=w1.heap.size:=g1.size;have ho1:Hid (w1.ownsRow 0 3 1 (.slice adv mm capv) mm (ints (enK m k))):=(by exact zD hown.out.2 g1 (λ_ _ h=>h));clear g0 g1)|(at_builtin;refine wpList_append_lies _ (by rfl) _ _ 22 (by rfl) 0 3 i0 _ 1 8 Tryz.underlying22 hi0 hz0 hz1 hz2 rfl (by decide) (.slice adv mm capv) mm _ (by rfl) (by exact ho1.out.alloc _) ⟨w1.heap.size,0,none⟩ 1 1 [.int .i64 k] (by rfl) (by rfl) (World.news_of_block (cs:=#[.int .i64 k]) (t:=3) (fr:=(0,0)) (yG w1 _)) (by simp[Value.oneCell']) (by decide) (by have:=hm.out;unfold maxLen;omega) (by have:=hm.out;omega) (yF _) (w1.heap.size+1) (by simp) ?_;intro gg cm' w6 hown6 hgr6 hat6 hlt6;have hB6:Hid (Keeps zA w w6):=(by exact((G0.out.alloc _).grown hgr6 (λkb e hlt=>absurd (hq.out kb e) (by omega))));have hO6:Hid (mm+1=(enK m (k+1)).length/\w6.ownsRow 0 3 1 (.slice (some ⟨gg,0,none⟩) (mm+1) cm') (mm+1) (ints (enK m (k+1)))):=(by rw[HQ.out];refine⟨by rw[xC,hown.out.1];rfl,?_⟩;unfold ints;rw[List.map_append];exact hown6);have hG6:Hid (∀kb,(Value.slice (some ⟨gg,0,none⟩) (mm+1) cm').ownBlock=some kb->w.heap.size<=kb):=(by intro kb e;simp[Value.ownBlock] at e;subst e;rcases hat6 with h|h;exact hq.out _ h;have:=hb.out.size;omega);clear hown6 hgr6 hat6 hlt6))
    go_roundw
    case rel=>exact⟨k+1,mm+1,_,_,by omega,by go_num,rfl,hO6,hB6,hG6⟩
    case measure=>simp[intOf];omega
  ·have hkn:k=nm:=by omega
   subst hkn;clear hlt;go_wp2_with fail
   go_ret
   obtain⟨e,ho⟩:=hown.out;subst e;exact⟨_,rfl,ho,hb.out,hq.out⟩
section
variable {w:World} {T:zZ} {F:Nat->Prop} {id b:Nat} {u:Un} {p:zB8} {m:zy} {H:List HTh}
theorem zIq(h:MaP zm 1 148 zBk w T F id b u p m H)(hr:zX u=true)(hm:m.ok u):Calls Tryz.prog 26 #[.pointer (some ⟨b,0,none⟩)] w (zH3 w (zA1 m)):=by
 have h8:m.zP.length<=8:=by rw[hm.zP];exact(zBT hr).2.1
 exact zIN w b p.gt m.zP.length p.ct m h8 h.zCL (λi hi W hq=>zJA (vB zU zAG h hq) hm hi)
end
