/- Layer L: texts joined. -/
import Derived.Test.YtfokdllgnblamaaGreatDoorL46
set_option linter.all false
set_option maxHeartbeats 8000000
set_option maxRecDepth 8000
namespace Go.Proofs.YtfokdllgnblamaaGreatDoor
open Go.RowKit
theorem J175 (P:Prop) (h:P:=by simp [results,Tryz.results43,go_sem,R5.cell (k:=0) rfl,R5.cell (k:=1) rfl,R5.cell (k:=2) rfl,R5.cell (k:=3) rfl,R5.cell (k:=4) rfl,R5.cell (k:=5) rfl,R5.cell (k:=6) rfl,R5.cell (k:=7) rfl,R5.cell (k:=8) rfl,R5.cell (k:=9) rfl]):P:=h
theorem J179 (P:Prop) (h:P:=by repeat' first | assumption | exact yB _ _ | apply Keeps.drewN | apply Keeps.alloc):P:=h
def zGC (w:World) (g:Nat):Nat -> List Value -> World
 | _,[]=>w
 | k,v :: r=>zGC (w.setCell ⟨g,k,none⟩ v) g (k+1) r
theorem zIF {g:Nat}:(vs:List Value) -> (k:Nat) -> (w:World) -> (cs:List Value) -> zC w g cs -> k+vs.length=cs.length -> zC (zGC w g k vs) g (cs.take k++vs)
 | [],k,w,cs,h,e=>by
   have e':cs.take k=cs:=List.take_of_length_le (by simp at e;omega);rw [e',List.append_nil];exact h
 | v :: r,k,w,cs,h,e=>by
   have hk:k < cs.length:=by simp at e;omega
   have:=zIF r (k+1) (w.setCell ⟨g,k,none⟩ v) (cs.set k v) (h.set k hk v) (by simp at e ⊢;omega)
   have e2:(cs.set k v).take (k+1)++r=cs.take k++v :: r:=by
    rw [List.take_add_one,List.take_set_of_le (yV k)];simp [hk]
   rw [e2] at this;exact this
theorem zDC (g:Nat):(vs:List Value) -> (k:Nat) -> (w:World) -> Keeps (fun q=>q=g) w (zGC w g k vs)
 | [],_,w=>yB _ _
 | v :: r,k,w=>((yB (fun q=>q=g) w).setCell (p:=⟨g,k,none⟩) (fun _=>rfl) v).trans (zDC g r (k+1) _) (fun _ _ h=>h)
theorem zDO {w w2:World} {g:Nat} {cs:List Value} (vs:List Value) (h:zC w2 g cs) (hl:vs.length=cs.length) (hk:Keeps zA w w2) (hg:w.heap.size <= g):zC (zGC w2 g 0 vs) g vs /\ Keeps zA w (zGC w2 g 0 vs) :=
 ⟨by simpa using zIF vs 0 w2 cs h (by omega),hk.trans (zDC g vs 0 w2) (fun q hq e=>absurd hq (by have e':q=g:=e;omega))⟩
theorem zo {w:World} {g:Nat} {cs:List Value} (r:zC w g cs):∀ j,j < cs.length -> ∀ W,Keeps zA w W -> W.frozen? ⟨g,j,none⟩=false:=fun j hj=>zK (r.free (k:=j) hj) ⟨_,r.cell (yJ hj)⟩
abbrev zNR:Value:=.agg #[.int .i64 0, .int .i64 0, .int .i64 0, .int .i64 0, .int .i64 0, .string { data:=#[] }, .slice none 0 0, .int .i64 0, .slice none 0 0, .slice none 0 0]
theorem zKP {w:World} {g i cap:Nat} {ad:Option Addr} (c2:∀ W,Keeps zA w W -> W.cell? ⟨g,i*3+2,none⟩=some (.slice ad 0 cap)) :
 Calls Tryz.prog 43 #[.pointer (some ⟨g,i*3,none⟩)] w fun e w'=>e=.returned (.tuple #[zNR, .bool false]) /\ Keeps zA w w':=by
 obtain ⟨b4,w4,e3,e4,R4,K4,_⟩:=newRow w [.int .i64 0, .int .i64 0, .int .i64 0, .int .i64 0, .int .i64 0, .string { data:=#[] }, .slice none 0 0, .int .i64 0, .slice none 0 0, .slice none 0 0] 68;have fr:=zo R4;have HR4:=yA R4;have HB4:Hid (w.heap.size <= b4 /\ Keeps zA w w4):=⟨by exact J182 _,K4⟩;replace c2:=fun W (q:Keeps zA w4 W)=>c2 W (K4.zB q)
 have y:=R4.zAx;have k4:=zI w4;have f0:=fr 0 (by decide);have f1:=fr 1 (by decide);have f2:=fr 2 (by decide);have f3:=fr 3 (by decide);have f4:=fr 4 (by decide);have f5:=fr 5 (by decide);have f6:=fr 6 (by decide);have f7:=fr 7 (by decide);have f8:=fr 8 (by decide);have f9:=fr 9 (by decide);clear fr R4 K4;go_enter Tryz.func43,Tryz.ntmps43
 go_upto_region 1 with fail
 try rw [e3]
 try rw [e4]
 clear e3 e4;go_wp2_with fail
 obtain ⟨R5,K5⟩:=zDO (w:=w) [.int .i64 0, .int .i64 0, .int .i64 0, .int .i64 0, .int .i64 0, .string { data:=#[] }, .slice none 0 0, .int .i64 0, .slice none 0 0, .slice none 0 0] HR4.out rfl HB4.out.2 HB4.out.1;simp only [zGC,xC,Nat.reduceAdd] at R5 K5;refine xM (v:=.tuple #[.agg #[.int .i64 0, .int .i64 0, .int .i64 0, .int .i64 0, .int .i64 0, .string { data:=#[] }, .slice none 0 0, .int .i64 0, .slice none 0 0, .slice none 0 0], .bool false]) (J175 _) rfl ⟨rfl,K5⟩
theorem zL2 {w:World} {g i m cap gp ga oa na ac at_ left:Nat} {a:Ac} {xa ta ea:Option Addr} {xc tc ec:Nat} (hm:m < 1000000) (hat:at_ < na)
 (c2:∀ W,Keeps zA w W -> W.cell? ⟨g,i*3+2,none⟩=some (.slice (some ⟨gp,0,none⟩) (m+1) cap))
 (p:∀ W,Keeps zA w W -> W.cell? ⟨gp,m*3,none⟩=some (.slice (some ⟨ga,oa,none⟩) na ac) /\ W.cell? ⟨gp,m*3+1,none⟩=some (.int .i64 at_) /\ W.cell? ⟨gp,m*3+2,none⟩=some (.int .i64 left))
 (d:∀ W,Keeps zA w W -> zGs W ga (oa+at_*10) a xa xc ta tc ea ec) :
 Calls Tryz.prog 43 #[.pointer (some ⟨g,i*3,none⟩)] w fun e w'=>e=.returned (.tuple #[.agg #[.int .i64 a.kind, .int .i64 a.reg, .int .i64 a.obj, .int .i64 a.ex.kind, .int .i64 a.ex.num, .string a.ex.nm, .slice xa a.ex.args.length xc, .int .i64 a.count, .slice ta a.thn.length tc, .slice ea a.els.length ec], .bool true]) /\ Keeps zA w w':=by
 unfold zGs at d;have e1:IntKind.i64.wrap (((m+1:Nat):Int) - 1)=(m:Int):=J170 _;have i1:(0:Int) <= m:=by omega
 have i2:(m:Int) < ((m+1:Nat):Int):=by omega
 have i3:¬ ((m+1:Nat):Int)=0:=by omega
 have i4:(((m+1:Nat):Int)==0)=false:=xG i3;have i5:(0:Int) <= at_:=by omega
 have i6:(at_:Int) < na:=by omega
 obtain ⟨b4,w4,e3,e4,R4,K4,_⟩:=newRow w [.int .i64 0, .int .i64 0, .int .i64 0, .int .i64 0, .int .i64 0, .string { data:=#[] }, .slice none 0 0, .int .i64 0, .slice none 0 0, .slice none 0 0] 68;have fr:=zo R4;have HR4:=yA R4;have HB4:Hid (w.heap.size <= b4 /\ Keeps zA w w4):=⟨by exact J182 _,K4⟩;replace c2:=fun W (q:Keeps zA w4 W)=>c2 W (K4.zB q)
 replace p:=fun W (q:Keeps zA w4 W)=>p W (K4.zB q)
 replace d:=fun W (q:Keeps zA w4 W)=>d W (K4.zB q)
 have y:=R4.zAx;have k4:=zI w4;have f0:=fr 0 (by decide);have f1:=fr 1 (by decide);have f2:=fr 2 (by decide);have f3:=fr 3 (by decide);have f4:=fr 4 (by decide);have f5:=fr 5 (by decide);have f6:=fr 6 (by decide);have f7:=fr 7 (by decide);have f8:=fr 8 (by decide);have f9:=fr 9 (by decide);clear fr R4 K4;go_enter Tryz.func43,Tryz.ntmps43
 go_upto_region 1 with fail
 try rw [e3]
 try rw [e4]
 clear e3 e4;go_upto_region 3 with fail
 refine zP 13 (by kernel_rfl) (by kernel_rfl) (Keeps zA) (yB zA) (fun a b c h h'=>xD h h') (zAp [some (.pointer (some ⟨g,i*3,none⟩)),some (.pointer (some ⟨g,i*3,none⟩)),some (.pointer (some ⟨g,i*3+2,none⟩)),some (.slice (some ⟨gp,0,none⟩) (m+1) cap),some (.pointer (some ⟨g,i*3,none⟩)),some (.pointer (some ⟨g,i*3,none⟩)),some (.pointer (some ⟨g,i*3+2,none⟩)),some (.slice (some ⟨gp,0,none⟩) (m+1) cap),some (.int .i64 ((m+1:Nat):Int)),some (.int .i64 (m:Int)),some (.pointer (some ⟨gp,m*3,none⟩)),some (.agg #[.slice (some ⟨ga,oa,none⟩) na ac, .int .i64 at_, .int .i64 left]),none] (fun _ v W=>∃ b8,v=.pointer (some ⟨b8,0,none⟩) /\ zC W b8 [.slice none 0 0, .int .i64 0, .int .i64 0] /\ w4.heap.size <= b8)) (vO (fun _ _ _ _ h hk=>by obtain ⟨b8,e,h1,h2⟩:=h;exact ⟨b8,e,h1.keeps hk (fun h=>h),h2⟩)) ?_ ?_
 ·intro q oo hq ho vs W Q' hR hd hK
  have HRW:Keeps zA w4 W:=((zI w4).drew).zB hR;rcases (show q=0 \/ q=1 \/ q=2 \/ q=3 \/ q=4 \/ q=5 \/ q=6 \/ q=7 \/ q=8 \/ q=9 \/ q=10 \/ q=11 \/ q=12 by omega) with rfl | rfl | rfl | rfl | rfl | rfl | rfl | rfl | rfl | rfl | rfl | rfl | rfl
  all_goals (simp only [yC,yD,yP] at ho;subst ho;simp only [zJ,yC,yD,yN,Option.bind,Act.put,yE,yK,yF] at hK ⊢;clear hq)
  all_goals try ((try (have e:vs 0=_:=hd 0 (by decide +kernel);rw [e] at hK ⊢;clear e));(try (have e:vs 1=_:=hd 1 (by decide +kernel);rw [e] at hK ⊢;clear e));(try (have e:vs 2=_:=hd 2 (by decide +kernel);rw [e] at hK ⊢;clear e));(try (have e:vs 3=_:=hd 3 (by decide +kernel);rw [e] at hK ⊢;clear e));(try (have e:vs 4=_:=hd 4 (by decide +kernel);rw [e] at hK ⊢;clear e));(try (have e:vs 5=_:=hd 5 (by decide +kernel);rw [e] at hK ⊢;clear e));(try (have e:vs 6=_:=hd 6 (by decide +kernel);rw [e] at hK ⊢;clear e));(try (have e:vs 7=_:=hd 7 (by decide +kernel);rw [e] at hK ⊢;clear e));(try (have e:vs 8=_:=hd 8 (by decide +kernel);rw [e] at hK ⊢;clear e));(try (have e:vs 9=_:=hd 9 (by decide +kernel);rw [e] at hK ⊢;clear e));(try (have e:vs 10=_:=hd 10 (by decide +kernel);rw [e] at hK ⊢;clear e));(try (have e:vs 11=_:=hd 11 (by decide +kernel);rw [e] at hK ⊢;clear e));clear hd;go_wp2_with (fail);first | exact hK _ _ (yB _ _) rfl)
  ·clear hd
   exact J99 _
 ·intro vs W hR hFF
  have HRW:Keeps zA w4 W:=((zI w4).drew).zB hR;have e11:vs 11=_:=hFF 11 (by decide);obtain ⟨b8,e12,R8,l8⟩:=(hFF 12 (by decide):∃ b8,vs 12=.pointer (some ⟨b8,0,none⟩) /\ zC W b8 [.slice none 0 0, .int .i64 0, .int .i64 0] /\ w4.heap.size <= b8);simp only [zJ,yC,yD,yN,Option.bind,Act.put,yE,yK,yF,yT,yQ];rw [e11,e12];have c8:=R8.zEt;have g0:=zo R8 0 (by decide);have g1:=zo R8 1 (by decide);have g2:=zo R8 2 (by decide);have kWW:=zI W;clear hFF e11 e12 hR c2;go_upto_region 4 with fail
  obtain ⟨R9,K9⟩:=zDO (w:=w4) [.slice (some ⟨ga,oa,none⟩) na ac, .int .i64 at_, .int .i64 left] R8 rfl HRW l8;simp only [zGC,xC,Nat.reduceAdd] at R9 K9;generalize ((W.setCell ⟨b8,0,none⟩ (.slice (some ⟨ga,oa,none⟩) na ac)).setCell ⟨b8,1,none⟩ (.int .i64 at_)).setCell ⟨b8,2,none⟩ (.int .i64 left)=w6 at R9 K9 ⊢;clear c8 g0 g1 g2 kWW R8;have c9:=R9.zEt;have k6:=zI w6;replace f0:=fun W (q:Keeps zA w6 W)=>f0 W (K9.zB q)
  replace f1:=fun W (q:Keeps zA w6 W)=>f1 W (K9.zB q)
  replace f2:=fun W (q:Keeps zA w6 W)=>f2 W (K9.zB q)
  replace f3:=fun W (q:Keeps zA w6 W)=>f3 W (K9.zB q)
  replace f4:=fun W (q:Keeps zA w6 W)=>f4 W (K9.zB q)
  replace f5:=fun W (q:Keeps zA w6 W)=>f5 W (K9.zB q)
  replace f6:=fun W (q:Keeps zA w6 W)=>f6 W (K9.zB q)
  replace f7:=fun W (q:Keeps zA w6 W)=>f7 W (K9.zB q)
  replace f8:=fun W (q:Keeps zA w6 W)=>f8 W (K9.zB q)
  replace f9:=fun W (q:Keeps zA w6 W)=>f9 W (K9.zB q)
  replace d:=fun W (q:Keeps zA w6 W)=>d W (K9.zB q)
  replace y:=fun W (q:Keeps zA w6 W)=>y W (K9.zB q)
  have HR6:=yA (HR4.out.keeps K9 (fun h=>h));have HB6:Hid (w.heap.size <= b4 /\ Keeps zA w w6):=⟨HB4.out.1,HB4.out.2.zB K9⟩;clear K9 R9 HRW k4 p l8;go_wp2_with fail
  obtain ⟨R5,K5⟩:=zDO (w:=w) [.int .i64 a.kind, .int .i64 a.reg, .int .i64 a.obj, .int .i64 a.ex.kind, .int .i64 a.ex.num, .string a.ex.nm, .slice xa a.ex.args.length xc, .int .i64 a.count, .slice ta a.thn.length tc, .slice ea a.els.length ec] HR6.out rfl HB6.out.2 HB6.out.1;simp only [zGC,xC,Nat.reduceAdd] at R5 K5;refine xM (v:=.tuple #[.agg #[.int .i64 a.kind, .int .i64 a.reg, .int .i64 a.obj, .int .i64 a.ex.kind, .int .i64 a.ex.num, .string a.ex.nm, .slice xa a.ex.args.length xc, .int .i64 a.count, .slice ta a.thn.length tc, .slice ea a.els.length ec], .bool true]) (J175 _) rfl ⟨rfl,K5⟩
section
variable {B b n:Nat} {w:World} {T:List (Int × Int)} {O:List Int}
theorem zMn (h:zBt B w b n T O) (t o:Nat) (k:Int) (ht:t < 8) (ho:o < 8) (hk:1 <= k /\ k <= 9) (hst:(T.getD t (0,0)).1=2) (HR:Hid (okE ⟨t,k,o,if k=8 then 1 else 0,0⟩)) (h4:k=4 -> O.getD o 0 < 0) (h7:k=7 -> (T.getD o (0,0)).1=1 \/ (T.getD o (0,0)).1=3) :
 Calls Tryz.prog 90 #[.pointer (some ⟨b,0,none⟩), .int .i64 t, .agg #[.int .i64 k, .int .i64 o]] w fun e w'=>e=.returned (.bool true) /\ Keeps zA w w':=by
 obtain ⟨la,lc,ba,bc,hr⟩:=h.row
 have c:∀ W,Keeps zA w W -> W.cell? ⟨b,2+t*2,none⟩=some (.int .i64 2):=by
  have:=(zC2 hr (t:=t) (by rw [h.tl];exact ht)).1
  rw [hst] at this;exact zT this
 have d:=zT (zC2 hr (t:=o) (by rw [h.tl];exact ho)).1;have f:=zT (zFh hr h.tl (k:=o) (by rw [h.ol];exact ho));generalize (T.getD o (0,0)).1=s at d h7;generalize O.getD o 0=r at f h4;have i1:(0:Int) <= o:=by omega
 have i2:(o:Int) < 8:=by omega
 have i3:(0:Int) <= t:=by omega
 have i4:(t:Int) < 8:=by omega
 clear h hr hst ht ho;go_enter Tryz.func90,Tryz.ntmps90
 go_upto_region 1 with fail
 obtain ⟨b1,w1,e1,e2,R1,K1,s1⟩:=newRow w [.int .i64 k, .int .i64 o] 91;try rw [e1]
 try rw [e2]
 have y0:=R1.cell (k:=0) rfl;have y1:=R1.cell (k:=1) rfl;clear e1 e2;go_upto_region 2 with fail
 obtain ⟨b7,w2,x1,x2,R2,K2,s2⟩:=newRow w1 [.int .i64 t, .int .i64 k, .int .i64 o, .int .i64 0, .int .i64 0] 40;try rw [x1]
 try rw [x2]
 have ya:=(R1.keeps K2 (fun h=>h)).cell (k:=0) rfl;have yb:=(R1.keeps K2 (fun h=>h)).cell (k:=1) rfl;have kk:Keeps zA w w2:=K1.zB K2;have KK:=yA kk;have H1:Hid (zC w1 b1 [.int .i64 k, .int .i64 o] /\ zC w2 b7 [.int .i64 t, .int .i64 k, .int .i64 o, .int .i64 0, .int .i64 0] /\ b1 ≠ b7):=⟨R1,R2,by have:=s1.out;omega⟩;have H2:Hid (w.heap.size <= b7):=by have:=K1.size;show _ <= _;omega
 have z7:=R2.five;have f7:=zo R2 3 (by simp);clear x1 x2 y0 y1 s1 s2 K1 K2 R1 R2;by_cases h8:k=8
 ·subst h8
  have k2:=zI w2;go_upto_region 4 with fail
  have RS:zC (w2.setCell ⟨b7,3,none⟩ (.int .i64 1)) b7 [.int .i64 t, .int .i64 8, .int .i64 o, .int .i64 1, .int .i64 0]:=H1.out.2.1.set 3 (by simp) (.int .i64 1);have KS:Keeps (fun q=>q=b7) w2 (w2.setCell ⟨b7,3,none⟩ (.int .i64 1)):=(yB (fun q=>q=b7) w2).setCell (p:=⟨b7,3,none⟩) (fun _=>rfl) _;have ya3:=KS.cell (p:=⟨b1,0,none⟩) (fun h=>H1.out.2.2 h) ya;have yb3:=KS.cell (p:=⟨b1,1,none⟩) (fun h=>H1.out.2.2 h) yb;have kk3:Keeps zA w (w2.setCell ⟨b7,3,none⟩ (.int .i64 1)):=KK.out.setCell (p:=⟨b7,3,none⟩) (fun h=>absurd h (by have:=H2.out;show ¬ b7 < _;omega)) _;generalize w2.setCell ⟨b7,3,none⟩ (.int .i64 1)=w3 at RS KS ya3 yb3 kk3 ⊢;have KK:=yA kk3;have k3:=zI w3;have z3:=RS.five;clear z7 f7 ya yb kk k2 RS KS h4 h7;go_wp2_with (go_at_call 89;refine (zDi ⟨_,_,_,_,_⟩ HR.out _).mono ?_;rintro e w5 ⟨rfl,k5⟩;have q5:=xD KK.out k5;have c5:=c w5 q5;have d5:=d w5 q5;have f5:=f w5 q5;have y5:=k5.cell (p:=⟨b1,0,none⟩) (fun h=>h) ya3;have z5:=k5.cell (p:=⟨b1,1,none⟩) (fun h=>h) yb3;clear c d f ya3 yb3 kk3)
  go_ret
  exact ⟨rfl,(J179 _)⟩
 ·rw [if_neg h8] at HR
  have hb8:(k==8)=false:=xG h8;rcases (show k=1 \/ k=2 \/ k=3 \/ k=4 \/ k=5 \/ k=6 \/ k=7 \/ k=9 by omega) with rfl | rfl | rfl | rfl | rfl | rfl | rfl | rfl
  all_goals (
   clear hk h8;have k2:=zI w2;try have g4:decide (r < 0)=true:=xZ (h4 rfl)
   clear h4;first
   | (have h7:=h7 rfl
      rcases h7 with rfl | rfl
      all_goals (
       go_wp2_with (go_at_call 89;refine (zDi ⟨_,_,_,_,_⟩ HR.out _).mono ?_;rintro e w5 ⟨rfl,k5⟩;have q5:=xD KK.out k5;have c5:=c w5 q5;have d5:=d w5 q5;have f5:=f w5 q5;have y5:=k5.cell (p:=⟨b1,0,none⟩) (fun h=>h) ya;have z5:=k5.cell (p:=⟨b1,1,none⟩) (fun h=>h) yb;clear c d f ya yb kk)
       try (go_quiet (fail);go_wp2_with fail)
       go_ret
       exact ⟨rfl,(J179 _)⟩))
   | (clear h7
      go_wp2_with (go_at_call 89;refine (zDi ⟨_,_,_,_,_⟩ HR.out _).mono ?_;rintro e w5 ⟨rfl,k5⟩;have q5:=xD KK.out k5;have c5:=c w5 q5;have d5:=d w5 q5;have f5:=f w5 q5;have y5:=k5.cell (p:=⟨b1,0,none⟩) (fun h=>h) ya;have z5:=k5.cell (p:=⟨b1,1,none⟩) (fun h=>h) yb;clear c d f ya yb kk)
      try (go_quiet (fail);go_wp2_with fail)
      go_ret
      exact ⟨rfl,(J179 _)⟩))
end
theorem zJU {α:Type} {n i:Nat} (a b:α) (hi:i < n):(List.replicate i a++List.replicate (n - i) b).set i a=List.replicate (i+1) a++List.replicate (n - (i+1)) b:=by
 obtain ⟨q,hq⟩:∃ q,n - i=q+1:=⟨n - i - 1,by omega⟩
 rw [uP _ _ (by rw [uJ];exact yV _),uJ,kE,hq,List.replicate_succ,yK,show n - (i+1)=q by omega,List.replicate_succ',List.append_assoc];rfl
def T0:List (Int × Int):=(2,-1) :: List.replicate 7 (1,-1)
def O0:List Int:=List.replicate 8 (-1)
theorem zIj (w:World):Calls Tryz.prog 59 #[] w fun e w'=>∃ b,e=.returned (.pointer (some ⟨b,0,none⟩)) /\ zBt w.heap.size w' b 0 T0 O0 /\ Keeps zA w w':=by
 go_enter Tryz.func59,Tryz.ntmps59
 go_upto_region 2 with fail
 obtain ⟨b,w1,x1,x2,R1,K1,_⟩:=newRow w [.slice none 0 0, .slice none 0 0, .int .i64 0, .int .i64 0, .int .i64 0, .int .i64 0, .int .i64 0, .int .i64 0, .int .i64 0, .int .i64 0, .int .i64 0, .int .i64 0, .int .i64 0, .int .i64 0, .int .i64 0, .int .i64 0, .int .i64 0, .int .i64 0, .int .i64 0, .int .i64 0, .int .i64 0, .int .i64 0, .int .i64 0, .int .i64 0, .int .i64 0, .int .i64 0] 124;try rw [x1]
 try rw [x2]
 have HR1:Hid (zC w1 b (zA4 none 0 none 0 0 (List.replicate 0 (1,-1)++List.replicate (8 - 0) (0,0)) (List.replicate 8 0))):=R1;have HK1:Hid (Keeps zA w w1 /\ w.heap.size <= b):=⟨K1,Nat.le_of_eq x1⟩;clear x1 x2 R1 K1;go_wp2_with fail
 go_loopw [6] (fun iv wr=>∃ i:Nat,i <= 8 /\ iv=.int .i64 i /\ Hid (zC wr b (zA4 none 0 none 0 0 (List.replicate i (1,-1)++List.replicate (8 - i) (0,0)) (List.replicate 8 0)) /\ Keeps (fun q=>q=b) w1 wr)) (fun iv _=>8 - (intOf iv).toNat)
 case atStart=>exact ⟨0,yH _,rfl,HR1.out,yB _ _⟩
 case round =>
  obtain ⟨i,hi,rfl,HI⟩:=hrel;clear HR1;by_cases hlt:i < 8
  ·have hT:(List.replicate i ((1,-1):Int × Int)++List.replicate (8 - i) (0,0)).length=8:=by simp;omega
   have hO:(List.replicate 8 (0:Int)).length=8:=rfl;have f0:wr.frozen? ⟨b,2+i*2,none⟩=false:=zo HI.out.1 (2+i*2) (by rw [zCW hT hO];omega) wr (yB _ _);have f1:wr.frozen? ⟨b,2+i*2+1,none⟩=false:=zo HI.out.1 (2+i*2+1) (by rw [zCW hT hO];omega) wr (yB _ _);obtain ⟨c0,c1⟩:=zC2 HI.out.1 (t:=i) (by rw [hT];exact hlt);have h1:=zFT HI.out.1 (t:=i) (by rw [hT];exact hlt) 1;have h2:=zJG h1 (t:=i) (by rw [xA,hT];exact hlt) (-1)
   have e1:(((List.replicate i ((1,-1):Int × Int)++List.replicate (8 - i) (0,0)).set i (1,((List.replicate i ((1,-1):Int × Int)++List.replicate (8 - i) (0,0)).getD i (0,0)).2)).set i ((((List.replicate i ((1,-1):Int × Int)++List.replicate (8 - i) (0,0)).set i (1,((List.replicate i ((1,-1):Int × Int)++List.replicate (8 - i) (0,0)).getD i (0,0)).2)).getD i (0,0)).1,-1))=List.replicate (i+1) (1,-1)++List.replicate (8 - (i+1)) (0,0):=by
    have hg:∀ (L:List (Int × Int)) q,i < L.length -> (L.set i q).getD i (0,0)=q:=fun L q h=>by simp [List.getD,h]
    rw [hg _ _ (by rw [hT];exact hlt),vS];exact zJU _ _ hlt
   rw [e1] at h2;have H2:=yA h2;generalize ((List.replicate i ((1,-1):Int × Int)++List.replicate (8 - i) (0,0)).getD i (0,0)).1=z0 at c0;generalize ((List.replicate i ((1,-1):Int × Int)++List.replicate (8 - i) (0,0)).getD i (0,0)).2=z1 at c1;have HK:=yA HI.out.2;have i1:(0:Int) <= i:=by omega
   have i2:(i:Int) < 8:=by omega
   clear h1 h2 e1 hT hO HI hi;go_wp2_with fail
   exact ⟨⟨i+1,by omega,by go_num,H2.out,(HK.out.setCell (p:=⟨b,2+i*2,none⟩) (fun _=>rfl) _).setCell (p:=⟨b,2+i*2+1,none⟩) (fun _=>rfl) _⟩,by simp [intOf];omega⟩
  ·have hi8:i=8:=by omega
   subst hi8;have HR2:Hid (zC wr b (zA4 none 0 none 0 0 (List.replicate 8 (1,-1)) (List.replicate 0 (-1)++List.replicate (8 - 0) 0))):=HI.out.1;have HK2:=yA HI.out.2;clear hi hlt HI;go_wp2_with fail
   go_loopw [16] (fun iv wq=>∃ i:Nat,i <= 8 /\ iv=.int .i64 i /\ Hid (zC wq b (zA4 none 0 none 0 0 (List.replicate 8 (1,-1)) (List.replicate i (-1)++List.replicate (8 - i) 0)) /\ Keeps (fun q=>q=b) w1 wq)) (fun iv _=>8 - (intOf iv).toNat)
   case atStart=>exact ⟨0,yH _,rfl,HR2.out,HK2.out⟩
   case round =>
    obtain ⟨i,hi,rfl,HI⟩:=hrel;clear HR2 HK2;by_cases hlt:i < 8
    ·have hO:(List.replicate i (-1:Int)++List.replicate (8 - i) 0).length=8:=by simp;omega
     have f0:wr.frozen? ⟨b,18+i,none⟩=false:=zo HI.out.1 (18+i) (by rw [zCW rfl hO];omega) wr (yB _ _);have c0:=zFh HI.out.1 rfl (k:=i) (by rw [hO];exact hlt);have h1:=zJP HI.out.1 rfl (k:=i) (by rw [hO];exact hlt) (-1);rw [zJU _ _ hlt] at h1;have H2:=yA h1;generalize (List.replicate i (-1:Int)++List.replicate (8 - i) 0).getD i 0=z0 at c0;have HK:=yA HI.out.2;have i1:(0:Int) <= i:=by omega
     have i2:(i:Int) < 8:=by omega
     clear h1 hO HI hi;go_wp2_with fail
     exact ⟨⟨i+1,by omega,by go_num,H2.out,HK.out.setCell (p:=⟨b,18+i,none⟩) (fun _=>rfl) _⟩,by simp [intOf];omega⟩
    ·have hi8:i=8:=by omega
     subst hi8;have HR3:zC wr b (zA4 none 0 none 0 0 (List.replicate 8 (1,-1)) (List.replicate 8 (-1))):=HI.out.1;have f0:wr.frozen? ⟨b,2,none⟩=false:=zo HR3 2 (by decide) wr (yB _ _);have c0:wr.cell? ⟨b,2,none⟩=some (.int .i64 1):=(zC2 HR3 (t:=0) (by decide)).1;have H4:Hid (zC (wr.setCell ⟨b,2,none⟩ (.int .i64 2)) b (zA4 none 0 none 0 0 T0 O0)):=zFT HR3 (t:=0) (by decide) 2;have HK:=yA HI.out.2;clear hi hlt HI HR3;go_wp2_with fail
     go_ret
     refine ⟨b,rfl,⟨rfl,rfl,HK1.out.2,none,0,none,0,[],[],H4.out,xB _ _ _ _,xB _ _ _ _,fun g e=>by exact J153 _,fun g e=>by exact J153 _⟩,?_⟩
     exact HK1.out.1.trans (HK.out.setCell (p:=⟨b,2,none⟩) (fun _=>rfl) _) (fun q hq e=>by have e':q=b:=e;have:=HK1.out.2;omega)
end Go.Proofs.YtfokdllgnblamaaGreatDoor
