/- Layer D: texts joined. -/
import Derived.Test.YtoapgjjepiopbaaGreatDoorD22
import Derived.Shelf.Strings.BuilderK
import Derived.Shelf.Strconv.Itoa3
import Derived.Shelf.Strings.Repeat
set_option linter.all false
set_option maxHeartbeats 4000000
set_option maxRecDepth 8000
namespace Go.Proofs.YtoapgjjepiopbaaGreatDoor
open Go.RowKit
abbrev kU:=@Go.Proofs.Tryz.underlying5
theorem J3(P:Prop)(h:P:=by exact hK _ _ (yB _ _) rfl):P:=h
theorem zHQ{u:Un}(h:zX u=true):u.threads.length<=8:=by
 rcases xR 8 u.threads.length with h1|h1
 ·rw[zFD (λhh=>by have:=hh.2.1;omega)] at h;cases h
 ·exact h1
theorem zGU(a b:Option Addr)(l1 c1 l2 c2:Nat)(w:World):(Instr.field 53 (.agg #[.slice a l1 c1,.slice b l2 c2]) 0).run Tryz.prog w=.ok (.slice a l1 c1) w:=by
 simp[Instr.field,asAgg,go_sem,underlying,Tryz.underlying53]
theorem zGs(a b:Option Addr)(l1 c1 l2 c2:Nat)(w:World):(Instr.field 53 (.agg #[.slice a l1 c1,.slice b l2 c2]) 1).run Tryz.prog w=.ok (.slice b l2 c2) w:=by
 simp[Instr.field,asAgg,go_sem,underlying,Tryz.underlying53]
theorem zFx(cs:List Int)(mu:Int)(bs:List Bd)(w:World)(F:Nat->Prop)(uca uta:Option Addr)(ucc utc:Nat)(hcs:zAw w F cs uca)(hbd:zBy w F bs uta)(hF:∀k,F k->k<w.heap.size)(hkd:∀b,b∈bs->Ac.zBe b.acts)(hsz:zAj bs<900000000)(hl1:cs.length<1000000000)(hl2:bs.length<1000000000):
 Calls Tryz.prog 6 #[.agg #[.slice uca cs.length ucc,mu,.slice uta bs.length utc]] w λe w'=>e=.returned (.int .i64 (zB9 (zX ⟨cs,mu,bs⟩) (unS bs) (unW bs)))/\Keeps zA w w':=by
 obtain⟨v,hv⟩:=eX (zB9 (zX ⟨cs,mu,bs⟩) (unS bs) (unW bs));rw[<-hv];obtain⟨r,hr⟩:=eX (zX ⟨cs,mu,bs⟩);have HR:=yA hr;rw[<-hr] at hv;have HV:=yA hv;clear hv;have HRT:Hid (∀W,Keeps zA w W->Calls Tryz.prog 16 #[.agg #[.slice uca cs.length ucc,mu,.slice uta bs.length utc]] W λe w'=>e=.returned r/\Keeps zA W w'):=λW hk=>hr ▸ zCo cs mu bs W F uca uta ucc utc (hcs.keeps hk (λ_ _ h=>h)) (hbd.keeps hk (λ_ _ h=>h)) (λk h=>yH (hF k h) hk.size) hkd hsz hl1 hl2
 have HBO:Hid (r=true->∀W,Keeps zA w W->Calls Tryz.prog 17 #[.agg #[.slice uca cs.length ucc,mu,.slice uta bs.length utc]] W λe w'=>∃z1 z2,e=.returned (.agg #[z1,z2])/\zN w' (λ_=>True) 1000000000 (unS bs) z1/\zN w' (λ_=>True) 1000000000 (unW bs) z2/\Keeps zA W w'):=λhr1 W hk=>zHG cs mu bs W F uca uta ucc utc (hbd.keeps hk (λ_ _ h=>h)) (λk h=>yH (hF k h) hk.size) (zCD (u:=⟨cs,mu,bs⟩) (hr.symm.trans hr1)) hsz hl2
 have HDL:Hid (r=true->∀m,m<=unW bs+1->(dig 1000000000 m).length<=10000000000):=λhr1 m hm=>yX (zJc (by decide) (zCD (u:=⟨cs,mu,bs⟩) (hr.symm.trans hr1)) hsz (zHQ (u:=⟨cs,mu,bs⟩) (hr.symm.trans hr1)) hm) (by decide)
 have HSW:Hid (unS bs<=unW bs):=zFR bs;clear hcs hbd hF hsz hl1 hl2 hr hkd;go_enter Tryz.func6,Tryz.ntmps6
 go_upto_region 1 with fail
 obtain⟨b1,hb1⟩:=eX w.heap.size;have hr1:zB (w.alloc (.cells #[.slice uca cs.length ucc,mu,.slice uta bs.length utc] 25)) b1 [.slice uca cs.length ucc,.int .i64 mu,.slice uta bs.length utc]:=J169 _;have hk1:Keeps zA w (w.alloc (.cells #[.slice uca cs.length ucc,mu,.slice uta bs.length utc] 25)):=(yB _ _).alloc _;rw[<-hb1];generalize w.alloc (.cells #[.slice uca cs.length ucc,mu,.slice uta bs.length utc] 25)=w1 at hr1 hk1 ⊢;have R1:=yA hr1;have K1:=yA hk1;obtain⟨y0,y1,y2⟩:=hr1.three;clear hr1 hk1 hb1;generalize cs.length=n0 at y0 R1 HRT HBO;generalize bs.length=n2 at y2 R1 HRT HBO;clear HR;cases r
 ·go_wp2_with (go_at_call 16;refine(HRT.out _ K1.out).mono ?_;rintro e w2 ⟨rfl,g2⟩;have c:=(R1.out.keeps g2 (λh=>h)).three;clear y0 y1 y2;obtain⟨y0,y1,y2⟩:=c;have K2:Hid (Keeps zA w w2):=K1.out.zC g2;clear g2)
  go_ret
  exact⟨by rw[HV.out];rfl,K2.out⟩
 ·have HBO2:=yA (HBO.out rfl)
  have HDL2:=yA (HDL.out rfl);clear HBO HDL;go_upto_region 3 with(go_at_call 16;refine(HRT.out _ K1.out).mono ?_;rintro e w2 ⟨rfl,g2⟩;have c:=(R1.out.keeps g2 (λh=>h)).three;clear y0 y1 y2;obtain⟨y0,y1,y2⟩:=c;have K2:Hid (Keeps zA w w2):=K1.out.zC g2;clear g2)
  obtain⟨a,ha⟩:=eX (decide (60<unS bs));obtain⟨b,hb⟩:=eX (decide (10000<unW bs))
  have HVV:Hid (v=if a then 70 else (if b then 71 else 0)):=by
   show _=_
   rw[HV.out,ha,hb];unfold zB9;by_cases h1:60<unS bs
   ·simp[h1]
   ·by_cases h2:10000<unW bs
    ·simp[h1,h2]
    ·simp[h1,h2]
  have HAB:=yA (λ(W:World)(k:Nat)(v u:Value)(F:Nat->Prop)(hk:k<=unW bs)(h1:zN W F 1000000000 k v)(h2:zN W F 1000000000 60 u)=>zNm h1 h2 (by have:=HDL2.out k (by omega);omega) (by have h:=zDU (b:=1000000000) (n:=60) (i:=1) (by decide) (by decide);omega));have HAC:=yA (λ(W:World)(k:Nat)(v u:Value)(F:Nat->Prop)(hk:k<=unW bs)(h1:zN W F 1000000000 k v)(h2:zN W F 1000000000 10000 u)=>zNm h1 h2 (by have:=HDL2.out k (by omega);omega) (by have h:=zDU (b:=1000000000) (n:=10000) (i:=1) (by decide) (by decide);omega));have HA:=yA ha;have HB:=yA hb;clear ha hb HV HDL2;go_upto_region 4 with(go_at_call 17;refine(HBO2.out _ K2.out).mono ?_;rintro e w3 ⟨z1,z2,rfl,n1,n2,g3⟩;have N1:=yA n1;have N2:=yA n2;obtain⟨p1,r1,rfl,_⟩:=n1;generalize (dig 1000000000 (unS bs)).length=q1 at N1 ⊢;obtain⟨p2,r2,rfl,_⟩:=n2;generalize (dig 1000000000 (unW bs)).length=q2 at N2 ⊢;have K3:Hid (Keeps zA w w3):=K2.out.zC g3;have hfl:=zGU p1 p2 q1 r1 q2 r2 w3;have hfm:=zGs p1 p2 q1 r1 q2 r2 w3;clear g3)
  obtain⟨b3,hb3⟩:=eX w3.heap.size;have hr3:zB (w3.alloc (.cells #[.slice p1 q1 r1,.slice p2 q2 r2] 53)) b3 [.slice p1 q1 r1,.slice p2 q2 r2]:=by rw[hb3];exact yK (yG w3 _)
  have hk3:Keeps zA w3 (w3.alloc (.cells #[.slice p1 q1 r1,.slice p2 q2 r2] 53)):=(yB _ _).alloc _;rw[<-hb3];generalize w3.alloc (.cells #[.slice p1 q1 r1,.slice p2 q2 r2] 53)=w4 at hr3 hk3 ⊢;have R3:=yA hr3;have K4:Hid (Keeps zA w w4):=K3.out.zC hk3;have N14:=yA (N1.out.zG hk3);have N24:=yA (N2.out.zG hk3);clear hr3 hk3 hb3 N1 N2 K3 y0 y1 y2 HRT HBO2
  refine zW 4 (by kernel_rfl) (by kernel_rfl) (Keeps zA) (yB zA) (λa b c h h'=>xJ h h') (zAz [some (.pointer (some ⟨b3,0,none⟩)),some (.slice p1 q1 r1)] (λj v W=>match j with
   | 2=>zN W (λ_=>True) 1000000000 60 v
   | _=>v=.bool (decide (60<unS bs)))) (vQ (λj v W W' h hk=>by
     revert h
     split
     ·exact λh=>h.zG hk
     ·exact λh=>h)) ?_ ?_
  ·intro q oo hq ho vs W Q' hR0 hd hK
   have hR:Keeps zA w4 W:=((yB zA w4).drew).zC hR0;obtain⟨y0,y1⟩:=(R3.out.keeps (hR) (λh=>h)).two;have NW:=yA (N14.out.zG hR);clear hR hR0;rcases (show q=0\/q=1\/q=2\/q=3 by omega) with rfl|rfl|rfl|rfl
   all_goals (simp only[yC,yD,yN] at ho;subst ho;simp only[zJ,yC,yD,yO,Option.bind,Act.put,yE,yM,yJ] at hK ⊢;clear hq)
   ·exact J2 _
   ·exact J132 _
   ·clear hd
    go_wp2_with (go_at_call 19;refine(zFW 60 (by decide) _).mono ?_;rintro e W1 ⟨z,rfl,n1,g1⟩)
    exact J45 _
   ·have e1:vs 1=_:=hd 1 (by kernel_rfl)
    obtain⟨z2,e2,h2⟩:∃z,vs 2=z/\zN W (λ_=>True) 1000000000 60 z:=⟨_,rfl,hd 2 (by kernel_rfl)⟩
    have H2:=yA h2;rw[e1,e2] at hK ⊢;clear h2;clear hd;go_wp2_with (go_at_call 18;refine(HAB.out W _ _ _ (λ_=>True) (by have:=HSW.out;omega) NW.out H2.out).mono ?_;rintro e W1 ⟨rfl,rfl⟩)
    exact J3 _
  ·intro vs W4 hR0 hF
   have hR:Keeps zA w4 W4:=((yB zA w4).drew).zC hR0;have K4':Hid (Keeps zA w W4):=K4.out.zC hR;have e3:vs 3=_:=(hF 3 (by decide):vs 3=.bool (decide (60<unS bs)));simp only[zJ,yC,yD,yO,Option.bind,Act.put,yE,yM,yJ,yZ,yU];rw[e3];clear hF e3;generalize vs 0=y0;generalize vs 1=y1;generalize vs 2=y2;rw[<-HA.out];have R34:=yA (R3.out.keeps hR (λh=>h));have N25:=yA (N24.out.zG hR);clear hR hR0 HA N14 N24 HAB R3;cases a
   ·go_upto_region 6 with fail
    refine zW 4 (by kernel_rfl) (by kernel_rfl) (Keeps zA) (yB zA) (λa b c h h'=>xJ h h') (zAz [some (.pointer (some ⟨b3,1,none⟩)),some (.slice p2 q2 r2)] (λj v W=>match j with
     | 2=>zN W (λ_=>True) 1000000000 10000 v
     | _=>v=.bool (decide (10000<unW bs)))) (vQ (λj v W W' h hk=>by
       revert h
       split
       ·exact λh=>h.zG hk
       ·exact λh=>h)) ?_ ?_
    ·intro q oo hq ho vs W Q' hR0 hd hK
     have hR:Keeps zA W4 W:=((yB zA W4).drew).zC hR0;obtain⟨y0,y1⟩:=(R34.out.keeps (hR) (λh=>h)).two;have NW:=yA (N25.out.zG hR);clear hR hR0;rcases (show q=0\/q=1\/q=2\/q=3 by omega) with rfl|rfl|rfl|rfl
     all_goals (simp only[yC,yD,yN] at ho;subst ho;simp only[zJ,yC,yD,yO,Option.bind,Act.put,yE,yM,yJ] at hK ⊢;clear hq)
     ·exact J2 _
     ·exact J132 _
     ·clear hd
      go_wp2_with (go_at_call 19;refine(zFW 10000 (by decide) _).mono ?_;rintro e W1 ⟨z,rfl,n1,g1⟩)
      exact J45 _
     ·have e1:vs 1=_:=hd 1 (by kernel_rfl)
      obtain⟨z2,e2,h2⟩:∃z,vs 2=z/\zN W (λ_=>True) 1000000000 10000 z:=⟨_,rfl,hd 2 (by kernel_rfl)⟩
      have H2:=yA h2;rw[e1,e2] at hK ⊢;clear h2;clear hd;go_wp2_with (go_at_call 18;refine(HAC.out W _ _ _ (λ_=>True) (yT _) NW.out H2.out).mono ?_;rintro e W1 ⟨rfl,rfl⟩)
      exact J3 _
    ·intro vs W6 hR0 hF
     have hR:Keeps zA W4 W6:=((yB zA W4).drew).zC hR0;have K6':Hid (Keeps zA w W6):=K4'.out.zC hR;have e3:vs 3=_:=(hF 3 (by decide):vs 3=.bool (decide (10000<unW bs)));simp only[zJ,yC,yD,yO,Option.bind,Act.put,yE,yM,yJ,yZ,yU];rw[e3];clear hF e3;generalize vs 0=y0;generalize vs 1=y1;generalize vs 2=y2;rw[<-HB.out];clear hR hR0 HB;cases b
     ·go_wp2_with fail
      go_ret
      exact⟨by rw[HVV.out];rfl,K6'.out⟩
     ·go_wp2_with fail
      go_ret
      exact⟨by rw[HVV.out];rfl,K6'.out⟩
   ·go_wp2_with fail
    go_ret
    exact⟨by rw[HVV.out];rfl,K4'.out⟩
end Go.Proofs.YtoapgjjepiopbaaGreatDoor
namespace Go.Proofs
open Go.Shelf
def Tryz.zFq:Go.Shelf.Ren:=⟨fun|166=>57|240=>104|276=>158|n=>n,fun|70=>115|9=>9|0=>0|72=>118|37=>116|3=>3|4=>4|5=>5|20=>20|75=>122|80=>61|164=>248|n=>n,fun|n=>n⟩
theorem Tryz.zO9:Go.Proofs.Lays.n166 Tryz.prog Tryz.zFq:={
 mixed:=by kernel_rfl
 f166:=Tryz.func57.trans (congrArg some (by kernel_rfl))
 f240:=Tryz.func104.trans (congrArg some (by kernel_rfl))
 f276:=Tryz.func158.trans (congrArg some (by kernel_rfl))
 t0:=Tryz.underlying0
 a0:=Tryz.isAgg0
 z0:=Tryz.sizeOf0
 v0:=Tryz.zeroValue0
 t3:=Tryz.underlying3
 a3:=Tryz.isAgg3
 z3:=Tryz.sizeOf3
 v3:=Tryz.zeroValue3
 t4:=Tryz.underlying4
 a4:=Tryz.isAgg4
 z4:=Tryz.sizeOf4
 v4:=Tryz.zeroValue4
 t9:=Tryz.underlying9
 a9:=Tryz.isAgg9
 z9:=Tryz.sizeOf9
 v9:=Tryz.zeroValue9
 t20:=Tryz.underlying20
 a20:=Tryz.isAgg20
 z20:=Tryz.sizeOf20
 v20:=Tryz.zeroValue20
 t37:=Tryz.underlying116
 a37:=Tryz.isAgg116
 z37:=Tryz.sizeOf116
 v37:=Tryz.zeroValue116
 t70:=Tryz.underlying115
 a70:=Tryz.isAgg115
 z70:=Tryz.sizeOf115
 v70:=Tryz.zeroValue115
 t72:=Tryz.underlying118
 a72:=Tryz.isAgg118
 z72:=Tryz.sizeOf118
 v72:=Tryz.zeroValue118
 t75:=Tryz.underlying122
 a75:=Tryz.isAgg122
 z75:=Tryz.sizeOf122
 v75:=Tryz.zeroValue122
 t164:=Tryz.underlying248
 a164:=Tryz.isAgg248
 z164:=Tryz.sizeOf248
 v164:=Tryz.zeroValue248 }
theorem Tryz.zEw:Builder.Extra Tryz.prog Tryz.zFq:={
 sizeBuilder:=by kernel_rfl
 liesBuilder:=by kernel_rfl
 t5:=Tryz.underlying5
 a5:=Tryz.isAgg5
 z5:=Tryz.sizeOf5
 v5:=Tryz.zeroValue5
 infoByte:=by kernel_rfl
 cellsByte:=by kernel_rfl
 sizeByte:=by kernel_rfl
 neB5:=by decide }
open Go.RowKit in
theorem Tryz.Builder_WriteString_k(B b:Nat)(bs:List Value)(s:ByteArray)(w:World)(h:Lib.IsBuilderF 118 5 B b bs w)(hlen:bs.length+s.size<=140737488355328)(hBw:B<=w.heap.size):
 Calls Tryz.prog 57 #[.pointer (some ⟨b,0,none⟩),s] w λe w'=>e=.returned (.tuple #[s.size,.nilIface])/\(Lib.BuilderAtF 118 5 B b (.pointer (some ⟨b,0,none⟩)) (bs++Lib.strCells s) w'/\Below B w w'/\Lib.OthersKept 5 (some b) w w'):=Any.Builder_WriteString_k Tryz.zO9 Tryz.zEw B b bs s w h hlen hBw
def Tryz.zFf:Go.Shelf.Ren:=⟨fun|169=>58|n=>n,fun|70=>115|9=>9|0=>0|72=>118|37=>116|127=>198|3=>3|5=>5|n=>n,fun|n=>n⟩
theorem Tryz.zOe:Go.Proofs.Lays.n169 Tryz.prog Tryz.zFf:={
 mixed:=by kernel_rfl
 f169:=Tryz.func58.trans (congrArg some (by kernel_rfl))
 t0:=Tryz.underlying0
 a0:=Tryz.isAgg0
 z0:=Tryz.sizeOf0
 v0:=Tryz.zeroValue0
 t3:=Tryz.underlying3
 a3:=Tryz.isAgg3
 z3:=Tryz.sizeOf3
 v3:=Tryz.zeroValue3
 t9:=Tryz.underlying9
 a9:=Tryz.isAgg9
 z9:=Tryz.sizeOf9
 v9:=Tryz.zeroValue9
 t37:=Tryz.underlying116
 a37:=Tryz.isAgg116
 z37:=Tryz.sizeOf116
 v37:=Tryz.zeroValue116
 t70:=Tryz.underlying115
 a70:=Tryz.isAgg115
 z70:=Tryz.sizeOf115
 v70:=Tryz.zeroValue115
 t72:=Tryz.underlying118
 a72:=Tryz.isAgg118
 z72:=Tryz.sizeOf118
 v72:=Tryz.zeroValue118
 t127:=Tryz.underlying198
 a127:=Tryz.isAgg198
 z127:=Tryz.sizeOf198
 v127:=Tryz.zeroValue198 }
theorem Tryz.zE0:Builder.Extra Tryz.prog Tryz.zFf:={
 sizeBuilder:=by kernel_rfl
 liesBuilder:=by kernel_rfl
 t5:=Tryz.underlying5
 a5:=Tryz.isAgg5
 z5:=Tryz.sizeOf5
 v5:=Tryz.zeroValue5
 infoByte:=by kernel_rfl
 cellsByte:=by kernel_rfl
 sizeByte:=by kernel_rfl
 neB5:=by decide }
open Go.RowKit in
theorem Tryz.Builder_String_any_k(B b:Nat)(l:List UInt8)(w:World)(h:Lib.IsBuilderF 118 5 B b (Lib.byteCells l) w)(hBw:B<=w.heap.size):
 Calls Tryz.prog 58 #[.pointer (some ⟨b,0,none⟩)] w λe w'=>e=.returned (.string ⟨l.toArray⟩)/\(Lib.IsBuilderF 118 5 B b (Lib.byteCells l) w'/\Below B w w'/\Lib.OthersKept 5 (some b) w w'):=Any.Builder_String_any_k Tryz.zOe Tryz.zE0 B b l w h hBw
def Tryz.zIJ:Go.Shelf.Ren:=⟨fun|171=>55|243=>99|246=>153|283=>192|284=>193|285=>194|286=>195|129=>229|317=>228|318=>230|319=>231|320=>197|337=>232|338=>233|n=>n,fun|3=>3|9=>9|2=>2|4=>4|171=>299|0=>0|53=>245|37=>116|5=>5|173=>302|212=>353|51=>242|20=>20|213=>354|46=>169|232=>399|233=>400|n=>n,fun|17=>0|18=>2|19=>3|n=>n⟩
theorem Tryz.zMT:Go.Proofs.LaysM.n171 Tryz.prog Tryz.zIJ:={
 mixed:=by kernel_rfl
 f129:=Tryz.func229.trans (congrArg some (by kernel_rfl))
 f171:=Tryz.func55.trans (congrArg some (by kernel_rfl))
 f243:=Tryz.func99.trans (congrArg some (by kernel_rfl))
 f246:=Tryz.func153.trans (congrArg some (by kernel_rfl))
 f283:=Tryz.func192.trans (congrArg some (by kernel_rfl))
 f284:=Tryz.func193.trans (congrArg some (by kernel_rfl))
 f285:=Tryz.func194.trans (congrArg some (by kernel_rfl))
 f286:=Tryz.func195.trans (congrArg some (by kernel_rfl))
 f317:=Tryz.func228.trans (congrArg some (by kernel_rfl))
 f318:=Tryz.func230.trans (congrArg some (by kernel_rfl))
 f319:=Tryz.func231.trans (congrArg some (by kernel_rfl))
 f320:=Tryz.func197.trans (congrArg some (by kernel_rfl))
 f337:=Tryz.func232.trans (congrArg some (by kernel_rfl))
 f338:=Tryz.func233.trans (congrArg some (by kernel_rfl))
 t0:=Tryz.underlying0
 a0:=Tryz.isAgg0
 z0:=Tryz.sizeOf0
 v0:=Tryz.zeroValue0
 t2:=Tryz.underlying2
 a2:=Tryz.isAgg2
 z2:=Tryz.sizeOf2
 v2:=Tryz.zeroValue2
 t3:=Tryz.underlying3
 a3:=Tryz.isAgg3
 z3:=Tryz.sizeOf3
 v3:=Tryz.zeroValue3
 t4:=Tryz.underlying4
 a4:=Tryz.isAgg4
 z4:=Tryz.sizeOf4
 v4:=Tryz.zeroValue4
 t5:=Tryz.underlying5
 a5:=Tryz.isAgg5
 z5:=Tryz.sizeOf5
 v5:=Tryz.zeroValue5
 t9:=Tryz.underlying9
 a9:=Tryz.isAgg9
 z9:=Tryz.sizeOf9
 v9:=Tryz.zeroValue9
 t20:=Tryz.underlying20
 a20:=Tryz.isAgg20
 z20:=Tryz.sizeOf20
 v20:=Tryz.zeroValue20
 t37:=Tryz.underlying116
 a37:=Tryz.isAgg116
 z37:=Tryz.sizeOf116
 v37:=Tryz.zeroValue116
 t46:=Tryz.underlying169
 a46:=Tryz.isAgg169
 z46:=Tryz.sizeOf169
 v46:=Tryz.zeroValue169
 t51:=Tryz.underlying242
 a51:=Tryz.isAgg242
 z51:=Tryz.sizeOf242
 v51:=Tryz.zeroValue242
 t53:=Tryz.underlying245
 a53:=Tryz.isAgg245
 z53:=Tryz.sizeOf245
 v53:=Tryz.zeroValue245
 t171:=Tryz.underlying299
 a171:=Tryz.isAgg299
 z171:=Tryz.sizeOf299
 v171:=Tryz.zeroValue299
 t173:=Tryz.underlying302
 a173:=Tryz.isAgg302
 z173:=Tryz.sizeOf302
 v173:=Tryz.zeroValue302
 t212:=Tryz.underlying353
 a212:=Tryz.isAgg353
 z212:=Tryz.sizeOf353
 v212:=Tryz.zeroValue353
 t213:=Tryz.underlying354
 a213:=Tryz.isAgg354
 z213:=Tryz.sizeOf354
 t232:=Tryz.underlying399
 a232:=Tryz.isAgg399
 z232:=Tryz.sizeOf399
 v232:=Tryz.zeroValue399
 t233:=Tryz.underlying400
 a233:=Tryz.isAgg400
 z233:=Tryz.sizeOf400
 v233:=Tryz.zeroValue400
 g17:=by kernel_rfl
 g18:=by kernel_rfl
 g19:=by kernel_rfl
 i0:=by kernel_rfl
 i2:=by kernel_rfl
 i3:=by kernel_rfl
 i4:=by kernel_rfl
 i5:=by kernel_rfl
 i9:=by kernel_rfl
 i20:=by kernel_rfl
 i37:=by kernel_rfl
 i46:=by kernel_rfl
 i51:=by kernel_rfl
 i53:=by kernel_rfl
 i171:=by kernel_rfl
 i173:=by kernel_rfl
 i212:=by kernel_rfl
 i232:=by kernel_rfl
 i233:=by kernel_rfl
 m17:=by kernel_rfl
 m18:=by kernel_rfl
 m19:=by kernel_rfl }
open Go.RowKit Go.Sort Go.Lib in
theorem Tryz.strconv_Itoa (n:Int) (h0:-9223372036854775808 <= n) (h1:n <= 9223372036854775807) (w:World) (htab:Lib.TabIs Tryz.prog w "internal/strconv.uint64pow10" .u64 Lib.pow10Tab) :
 Calls Tryz.prog 55 #[n] w λe w'=>e=.returned (.string ⟨(Lib.itoa n).toArray⟩)/\∃k os,w'=grow (w.drewN k) os:=Any.strconv_Itoa Tryz.zMT n h0 h1 w htab
def Tryz.zFk:Go.Shelf.Ren:=⟨fun|105=>56|212=>100|99=>101|165=>102|166=>57|170=>103|169=>58|263=>154|264=>155|206=>156|240=>104|241=>157|276=>158|277=>196|n=>n,fun|9=>9|3=>3|4=>4|20=>20|0=>0|46=>169|109=>195|5=>5|72=>118|76=>123|51=>242|146=>243|53=>245|148=>246|70=>115|37=>116|75=>122|127=>198|164=>248|80=>61|n=>n,fun|n=>n⟩
theorem Tryz.zOv:Go.Proofs.Lays.n105 Tryz.prog Tryz.zFk:={
 mixed:=by kernel_rfl
 f99:=Tryz.func101.trans (congrArg some (by kernel_rfl))
 f105:=Tryz.func56.trans (congrArg some (by kernel_rfl))
 f165:=Tryz.func102.trans (congrArg some (by kernel_rfl))
 f166:=Tryz.func57.trans (congrArg some (by kernel_rfl))
 f169:=Tryz.func58.trans (congrArg some (by kernel_rfl))
 f170:=Tryz.func103.trans (congrArg some (by kernel_rfl))
 f206:=Tryz.func156.trans (congrArg some (by kernel_rfl))
 f212:=Tryz.func100.trans (congrArg some (by kernel_rfl))
 f240:=Tryz.func104.trans (congrArg some (by kernel_rfl))
 f241:=Tryz.func157.trans (congrArg some (by kernel_rfl))
 f263:=Tryz.func154.trans (congrArg some (by kernel_rfl))
 f264:=Tryz.func155.trans (congrArg some (by kernel_rfl))
 f276:=Tryz.func158.trans (congrArg some (by kernel_rfl))
 f277:=Tryz.func196.trans (congrArg some (by kernel_rfl))
 t0:=Tryz.underlying0
 a0:=Tryz.isAgg0
 z0:=Tryz.sizeOf0
 v0:=Tryz.zeroValue0
 t3:=Tryz.underlying3
 a3:=Tryz.isAgg3
 z3:=Tryz.sizeOf3
 v3:=Tryz.zeroValue3
 t4:=Tryz.underlying4
 a4:=Tryz.isAgg4
 z4:=Tryz.sizeOf4
 v4:=Tryz.zeroValue4
 t5:=Tryz.underlying5
 a5:=Tryz.isAgg5
 z5:=Tryz.sizeOf5
 v5:=Tryz.zeroValue5
 t9:=Tryz.underlying9
 a9:=Tryz.isAgg9
 z9:=Tryz.sizeOf9
 v9:=Tryz.zeroValue9
 t20:=Tryz.underlying20
 a20:=Tryz.isAgg20
 z20:=Tryz.sizeOf20
 v20:=Tryz.zeroValue20
 t37:=Tryz.underlying116
 a37:=Tryz.isAgg116
 z37:=Tryz.sizeOf116
 v37:=Tryz.zeroValue116
 t46:=Tryz.underlying169
 a46:=Tryz.isAgg169
 z46:=Tryz.sizeOf169
 v46:=Tryz.zeroValue169
 t51:=Tryz.underlying242
 a51:=Tryz.isAgg242
 z51:=Tryz.sizeOf242
 v51:=Tryz.zeroValue242
 t53:=Tryz.underlying245
 a53:=Tryz.isAgg245
 z53:=Tryz.sizeOf245
 v53:=Tryz.zeroValue245
 t70:=Tryz.underlying115
 a70:=Tryz.isAgg115
 z70:=Tryz.sizeOf115
 v70:=Tryz.zeroValue115
 t72:=Tryz.underlying118
 a72:=Tryz.isAgg118
 z72:=Tryz.sizeOf118
 v72:=Tryz.zeroValue118
 t75:=Tryz.underlying122
 a75:=Tryz.isAgg122
 z75:=Tryz.sizeOf122
 v75:=Tryz.zeroValue122
 t76:=Tryz.underlying123
 a76:=Tryz.isAgg123
 z76:=Tryz.sizeOf123
 v76:=Tryz.zeroValue123
 t109:=Tryz.underlying195
 a109:=Tryz.isAgg195
 z109:=Tryz.sizeOf195
 v109:=Tryz.zeroValue195
 t127:=Tryz.underlying198
 a127:=Tryz.isAgg198
 z127:=Tryz.sizeOf198
 v127:=Tryz.zeroValue198
 t146:=Tryz.underlying243
 a146:=Tryz.isAgg243
 z146:=Tryz.sizeOf243
 v146:=Tryz.zeroValue243
 t148:=Tryz.underlying246
 a148:=Tryz.isAgg246
 z148:=Tryz.sizeOf246
 v148:=Tryz.zeroValue246
 t164:=Tryz.underlying248
 a164:=Tryz.isAgg248
 z164:=Tryz.sizeOf248
 v164:=Tryz.zeroValue248 }
theorem Tryz.zFA:Builder.Extra Tryz.prog Tryz.zFk:={
 sizeBuilder:=by kernel_rfl
 liesBuilder:=by kernel_rfl
 t5:=Tryz.underlying5
 a5:=Tryz.isAgg5
 z5:=Tryz.sizeOf5
 v5:=Tryz.zeroValue5
 infoByte:=by kernel_rfl
 cellsByte:=by kernel_rfl
 sizeByte:=by kernel_rfl
 neB5:=by decide }
open Go.RowKit Go.Sort Go.Lib in
theorem Tryz.strings_Repeat(s:ByteArray)(c:Nat)(w:World)(hc:c<=9223372036854775807)(hlen:s.size*c<=140737488355328):
 Calls Tryz.prog 56 #[s,c] w λe w'=>e=.returned (.string ⟨(Lib.repeatL s.data.toList c).toArray⟩)/\Below w.heap.size w w':=Any.strings_Repeat Tryz.zOv Tryz.zFA s c w hc hlen
end Go.Proofs
