/- Layer D: texts joined. -/
import Derived.Test.YtoapgjjepiopbaaGreatDoorD06
import Derived.Deep.CutRange
set_option linter.all false
set_option maxHeartbeats 8000000
set_option maxRecDepth 8000
namespace Go.Proofs.YtoapgjjepiopbaaGreatDoor
open Go.RowKit Go.WideMaps Go.Maps
theorem J1(P:Prop) (h:P:=by
 clear HRES HZ HC;go_wp2_with (go_at_call 190;refine(HI.out _ _ _ _ (by first|exact GI.out|exact yB _ _) (by first|exact .inl ⟨rfl,rfl,rfl⟩|exact .inr ⟨rfl,rfl,rfl⟩)).mono ?_;rintro e wI ⟨rfl,g1⟩;clear d0 d1 d2 d3 d4 d5 d6 d7 d8 d9 z0 z1 z2 z3 z4 z5;obtain⟨d0,d1,d2,d3,d4,d5,d6,d7,d8,d9⟩:=(R1S.out.keeps g1 (λh=>h)).ten;obtain⟨z0,z1,z2,z3,z4,z5⟩:=zB.six (R3S.out.keeps g1 (λh=>h));have GI:=yA g1;clear g1)
 go_ret
 exact⟨by first|(rw[E0.out];done)|(rw[E0.out];first|rfl|(simp;omega)),KS.out.zC GI.out⟩):P:=h
theorem J16(P:Prop) (h:P:=by
 go_wp2_with fail
 go_meet
 case rel=>exact⟨by first|(rw[E0.out];done)|(rw[E0.out];first|rfl|(simp;omega)),rfl⟩):P:=h
theorem J131(P:Prop) (h:P:=by
 rcases (show cb=false\/cb=true by cases cb <;> simp) with hq|hq
 all_goals subst hq
 ·have E0:Hid (res=false):=by show _=_;rw[HRES.out];simp[*] <;> omega
  exact J1 _
 ·rcases (show ft=false\/ft=true by cases ft <;> simp) with hq|hq
  all_goals subst hq
  ·rcases (show¬nt=0\/nt=0 by omega) with h5|h5
   ·have h5i:¬(nt:Int)=0:=by omega
    have h5b:((nt:Int)==0)=false:=by rw[beq_eq_false_iff_ne];omega
    have E0:Hid (res=false):=by show _=_;rw[HRES.out];simp[*] <;> omega
    exact J1 _
   ·have h5i:(nt:Int)=0:=by omega
    rcases (show fo=false\/fo=true by cases fo <;> simp) with hq|hq
    all_goals subst hq
    ·rcases (show¬ne=0\/ne=0 by omega) with h6|h6
     ·have h6i:¬(ne:Int)=0:=by omega
      have h6b:((ne:Int)==0)=false:=by rw[beq_eq_false_iff_ne];omega
      have E0:Hid (res=false):=by show _=_;rw[HRES.out];simp[*] <;> omega
      exact J1 _
     ·have h6i:(ne:Int)=0:=by omega
      have E0:Hid (res=true):=by show _=_;rw[HRES.out];simp[*] <;> omega
      exact J1 _
    ·have E0:Hid (res=true):=by show _=_;rw[HRES.out];simp[*] <;> omega
     exact J1 _
  ·rcases (show fo=false\/fo=true by cases fo <;> simp) with hq|hq
   all_goals subst hq
   ·rcases (show¬ne=0\/ne=0 by omega) with h6|h6
    ·have h6i:¬(ne:Int)=0:=by omega
     have h6b:((ne:Int)==0)=false:=by rw[beq_eq_false_iff_ne];omega
     have E0:Hid (res=false):=by show _=_;rw[HRES.out];simp[*] <;> omega
     exact J1 _
    ·have h6i:(ne:Int)=0:=by omega
     have E0:Hid (res=true):=by show _=_;rw[HRES.out];simp[*] <;> omega
     exact J1 _
   ·have E0:Hid (res=true):=by show _=_;rw[HRES.out];simp[*] <;> omega
    exact J1 _):P:=h
theorem J133(P:Prop) (h:P:=by
 have E0:Hid (res=false):=by show _=_;rw[HRES.out];simp[*] <;> omega
 exact J1 _):P:=h
theorem J150(P:Prop) (h:P:=by
 have E0:Hid (zb=false):=by show _=_;rw[HZ.out];simp[*] <;> omega
 exact J16 _):P:=h
theorem J155(P:Prop) (h:P:=by
 have E0:Hid (cb=false):=by show _=_;rw[HC.out];simp[*] <;> omega
 exact J16 _):P:=h
theorem zB.six{w:World}{g:Nat}{a b c d e f:Value}(r:zB w g [a,b,c,d,e,f]):w.cell? ⟨g,0,none⟩=some a/\w.cell? ⟨g,1,none⟩=some b/\w.cell? ⟨g,2,none⟩=some c/\w.cell? ⟨g,3,none⟩=some d/\w.cell? ⟨g,4,none⟩=some e/\w.cell? ⟨g,5,none⟩=some f:=
 ⟨r.cell rfl,r.cell rfl,r.cell rfl,r.cell rfl,r.cell rfl,r.cell rfl⟩
theorem zLu(w:World):(zeroValue 293).run Tryz.prog w=.ok (flA ⟨false,false,false,false,false,false⟩) w:=by kernel_rfl
theorem zKX(k:Int)(hk:-9223372036854775808<=k/\k<9223372036854775808)(W:World)(g:Nat)(h:W.ownsMap Tryz.prog 3 zAx g 11 (shD 11)):
 (Instr.lookup 295 (.map (some g)) (.int .i64 k) true).run Tryz.prog W=.ok (.tuple #[flA (fields k),.bool (decide (1<=k/\k<=11))]) W:=by
 obtain⟨v,ps,e1,e2⟩:=h.look_ok zDY uA (zLu W) (zLn _) (zCU k hk);rw[(zKp k).1] at e1;rw[(zKp k).2] at e2;rw[e1,zKN e2]
theorem zJW(k xk xn count:Int)(reg name nm:ByteArray)(xa ta ea:Option Addr)(nx xc nt tc ne ec:Nat)(kn fr fn fe fc ft fo r1 r2 zb cb res:Bool)(w:World)
 (HLK:Hid (∀(W:World)(g:Nat),W.ownsMap Tryz.prog 3 zAx g 11 (shD 11)->(Instr.lookup 295 (.map (some g)) (.int .i64 k) true).run Tryz.prog W=.ok (.tuple #[.agg #[fr,fn,fe,fc,ft,fo],kn]) W))
 (HIR:Hid (∀W,Calls Tryz.prog 190 #[reg,fr] W λe w'=>e=.returned r1/\Keeps zA W w'))
 (HIN:Hid (∀W,Calls Tryz.prog 190 #[name,fn] W λe w'=>e=.returned r2/\Keeps zA W w'))
 (HZ:Hid (zb=(xk==0&&xn==0&&ze nm&&nx==0))) (HC:Hid (cb=(count==0 || fc&&decide (0<count)&&decide (count<=1000))))
 (HRES:Hid (res=(kn&&r1&&r2&&(fe&&xk != 0 || !fe&&zb)&&cb&&(ft || nt==0)&&(fo || ne==0)))):
 Calls Tryz.prog 135 #[.agg #[k,reg,name,xk,xn,nm,.slice xa nx xc,count,.slice ta nt tc,.slice ea ne ec]] w λe w'=>e=.returned res/\Keeps zA w w':=by
 go_enter Tryz.func135,Tryz.ntmps135
 go_upto_region 1 with fail
 obtain⟨b1,hb1⟩:=eX w.heap.size;have hr1:zB (w.alloc (.cells #[k,reg,name,xk,xn,nm,.slice xa nx xc,count,.slice ta nt tc,.slice ea ne ec] 191)) b1 [.int .i64 k,.string reg,.string name,.int .i64 xk,.int .i64 xn,.string nm,.slice xa nx xc,.int .i64 count,.slice ta nt tc,.slice ea ne ec]:=J169 _;have hk1:Keeps zA w (w.alloc (.cells #[k,reg,name,xk,xn,nm,.slice xa nx xc,count,.slice ta nt tc,.slice ea ne ec] 191)):=(yB _ _).alloc _;rw[<-hb1];generalize w.alloc (.cells #[k,reg,name,xk,xn,nm,.slice xa nx xc,count,.slice ta nt tc,.slice ea ne ec] 191)=w1 at hr1 hk1 ⊢;have R1:=yA hr1;have K1:=yA hk1;have HL1:Hid (b1<w1.heap.size):=hr1.lt (by simp);clear hr1 hk1 hb1
 refine zFT 8 6 (by kernel_rfl) (by kernel_rfl) _ rfl (λ_ _ _ _ h=>h) (Keeps zA) (yB zA) (λa b c h h'=>xJ h h') (zAz [none,some (.pointer (some ⟨b1,0,none⟩)),some (.int .i64 k),some (.tuple #[.agg #[fr,fn,fe,fc,ft,fo],kn]),some (.tuple #[.agg #[fr,fn,fe,fc,ft,fo],kn]),some (.agg #[fr,fn,fe,fc,ft,fo]),some (.bool kn),none] (λj v W=>match j with
  | 0=>∃g,v=.map (some g)/\W.ownsMap Tryz.prog 3 zAx g 11 (shD 11)
  | _=>∃b,v=.pointer (some ⟨b,0,none⟩)/\zB W b [false,false,false,false,false,false]/\w1.heap.size<=b)) (vQ (λj v W W' h hk=>by
    revert h
    split
    ·rintro⟨g,e,h1⟩;exact⟨g,e,h1.kept (row:=none) ⟨hk.os,hk.tape,hk.output,hk.size,λk hk2 _=>hk.block k hk2 (λh=>h)⟩ (by simp)⟩
    ·rintro⟨b,e,h1,h2⟩;exact⟨b,e,h1.keeps hk (λh=>h),h2⟩)) ?_ ?_ ?_
 ·intro q oo hq ho vs W Q' hR0 hd hK
  have hR:Keeps zA w1 W:=((yB zA w1).drew).zC hR0;obtain⟨d0,d1,d2,d3,d4,d5,d6,d7,d8,d9⟩:=(R1.out.keeps hR (λh=>h)).ten;have HW:Hid (w1.heap.size<=W.heap.size):=hR.size;clear hR hR0;rcases (show q=0\/q=1\/q=2\/q=3\/q=4\/q=5\/q=6\/q=7 by omega) with rfl|rfl|rfl|rfl|rfl|rfl|rfl|rfl
  all_goals (simp only[yC,yD,yN] at ho;subst ho;simp only[zJ,yC,yD,yO,Option.bind,Act.put,yE,yM,yJ] at hK ⊢;clear hq)
  ·clear hd
   go_wp2_with (go_at_call 189;refine(zJ6 _).mono ?_;rintro e W1 ⟨g,rfl,h1,g1⟩)
   exact hK _ _ g1 ⟨g,rfl,h1⟩
  ·exact J2 _
  ·exact J137 _
  ·obtain⟨g,e0,hg⟩:=(hd 0 (by kernel_rfl):∃g,vs 0=.map (some g)/\W.ownsMap Tryz.prog 3 zAx g 11 (shD 11))
   have hlk:=HLK.out W g hg;have e2:vs 2=_:=hd 2 (by kernel_rfl);rw[e0,e2] at hK ⊢;clear hg;exact J2 _
  ·exact J138 _
  ·exact J136 _
  ·exact J136 _
  ·clear hd
   go_wp2_with fail
   exact hK _ _ ((yB _ _).alloc _) ⟨_,rfl,yK (yG W _),HW.out⟩
 ·intro vs W hR0 hF
  have e4:vs 4=_:=hF 4 (by decide) (by decide);refine⟨.bool kn,.inl ⟨rfl,λw=>?_⟩,rfl⟩
  simp only[zJ,yC,yD,yO,Option.bind,Act.put,yE,yM,yJ];rw[e4];rfl
 ·intro vs W hR0 hF
  have hR:Keeps zA w1 W:=((yB zA w1).drew).zC hR0;have e5:vs 5=_:=hF 5 (by decide);have e6:vs 6=_:=hF 6 (by decide);obtain⟨b3,e7,h3,hb3⟩:=(hF 7 (by decide):∃b,vs 7=.pointer (some ⟨b,0,none⟩)/\zB W b [false,false,false,false,false,false]/\w1.heap.size<=b);have KW:Hid (Keeps zA w W):=K1.out.zC hR;have R1W:Hid (zB W b1 [k,reg,name,xk,xn,nm,.slice xa nx xc,count,.slice ta nt tc,.slice ea ne ec]):=R1.out.keeps hR (λh=>h);have R3W:=yA h3;have HB3:Hid (b1<w1.heap.size/\w1.heap.size<=b3/\w.heap.size<=w1.heap.size):=⟨HL1.out,hb3,K1.out.size⟩;simp only[zJ,yC,yD,yO,Option.bind,Act.put,yE,yM,yJ,yZ,yU];rw[e5,e6,e7];clear hF e5 e6 e7;generalize vs 0=y0;generalize vs 1=y1;generalize vs 2=y2;generalize vs 3=y3;generalize vs 4=y4;have z0:=h3.cell (k:=0) (v:=.bool false) rfl;have z1:=h3.cell (k:=1) (v:=.bool false) rfl;have z2:=h3.cell (k:=2) (v:=.bool false) rfl;have z3:=h3.cell (k:=3) (v:=.bool false) rfl;have z4:=h3.cell (k:=4) (v:=.bool false) rfl;have z5:=h3.cell (k:=5) (v:=.bool false) rfl;have f0:=h3.free (k:=0) (by simp);have f1:=h3.free (k:=1) (by simp);have f2:=h3.free (k:=2) (by simp);have f3:=h3.free (k:=3) (by simp);have f4:=h3.free (k:=4) (by simp);have f5:=h3.free (k:=5) (by simp);clear hR hR0 h3 hb3 HL1;go_upto_region 2 with fail
  have r3:zB ((((((W.setCell ⟨b3,0,none⟩ (.bool fr)).setCell ⟨b3,1,none⟩ (.bool fn)).setCell ⟨b3,2,none⟩ (.bool fe)).setCell ⟨b3,3,none⟩ (.bool fc)).setCell ⟨b3,4,none⟩ (.bool ft)).setCell ⟨b3,5,none⟩ (.bool fo)) b3 [.bool fr,.bool fn,.bool fe,.bool fc,.bool ft,.bool fo]:=((((((R3W.out.set 0 (by simp) _).set 1 (by simp) _).set 2 (by simp) _).set 3 (by simp) _).set 4 (by simp) _).set 5 (by simp) _);have k3:Keeps (λq=>q=b3) W ((((((W.setCell ⟨b3,0,none⟩ (.bool fr)).setCell ⟨b3,1,none⟩ (.bool fn)).setCell ⟨b3,2,none⟩ (.bool fe)).setCell ⟨b3,3,none⟩ (.bool fc)).setCell ⟨b3,4,none⟩ (.bool ft)).setCell ⟨b3,5,none⟩ (.bool fo)):=((((((yB (λq=>q=b3) W).setCell (p:=⟨b3,0,none⟩) (λ_=>rfl) _).setCell (p:=⟨b3,1,none⟩) (λ_=>rfl) _).setCell (p:=⟨b3,2,none⟩) (λ_=>rfl) _).setCell (p:=⟨b3,3,none⟩) (λ_=>rfl) _).setCell (p:=⟨b3,4,none⟩) (λ_=>rfl) _).setCell (p:=⟨b3,5,none⟩) (λ_=>rfl) _;generalize (((((W.setCell ⟨b3,0,none⟩ (.bool fr)).setCell ⟨b3,1,none⟩ (.bool fn)).setCell ⟨b3,2,none⟩ (.bool fe)).setCell ⟨b3,3,none⟩ (.bool fc)).setCell ⟨b3,4,none⟩ (.bool ft)).setCell ⟨b3,5,none⟩ (.bool fo)=wS at r3 k3 ⊢;have R3S:=yA r3;have R1S:Hid (zB wS b1 [k,reg,name,xk,xn,nm,.slice xa nx xc,count,.slice ta nt tc,.slice ea ne ec]):=R1W.out.keeps k3 (λe=>by have e':b1=b3:=e;have:=HB3.out;omega);have KS:Hid (Keeps zA w wS):=KW.out.trans k3 (λq hq e=>by have e':q=b3:=e;have:=HB3.out;omega);clear z0 z1 z2 z3 z4 z5 f0 f1 f2 f3 f4 f5 r3 k3 KW R3W R1W;obtain⟨d0,d1,d2,d3,d4,d5,d6,d7,d8,d9⟩:=R1S.out.ten;obtain⟨z0,z1,z2,z3,z4,z5⟩:=zB.six R3S.out;go_cut [5] from 14 (λv wx=>v=.bool zb/\wx=wS)
  case first =>
   rcases (show¬xk=0\/xk=0 by omega) with h0|h0
   ·have hb:(xk==0)=false:=by simpa using h0
    exact J150 _
   rcases (show¬xn=0\/xn=0 by omega) with h1|h1
   ·have hb:(xn==0)=false:=by simpa using h1
    exact J150 _
   rcases (show ze nm=false\/ze nm=true by exact J226 _) with h2|h2
   ·have s1:=zBC h2
    have s2:=zA2 h2;exact J150 _
   have s1:=zBB h2;rcases (show¬nx=0\/nx=0 by omega) with h3|h3
   ·have hi:¬(nx:Int)=0:=by omega
    have hb:((nx:Int)==0)=false:=J183 _;exact J150 _
   have hi:(nx:Int)=0:=by omega
   have E0:Hid (zb=true):=by show _=_;rw[HZ.out];simp[*] <;> omega
   exact J16 _
  case rest =>
   obtain⟨rfl,rfl⟩:=hcut;go_upto_region 3 with fail
   go_cut [6] from 14 (λv wx=>v=.bool cb/\wx=wc)
   case first =>
    rcases uL (count=0) with hc|hc
    ·have E0:Hid (cb=true):=by show _=_;rw[HC.out];simp[*] <;> omega
     exact J16 _
    ·have hcb:(count==0)=false:=by simpa using hc
     cases fc
     ·exact J155 _
     ·rcases (show count<=0\/0<count by omega) with h1|h1
      ·have h1n:¬0<count:=by omega
       exact J155 _
      ·rcases (show 1000<count\/count<=1000 by omega) with h2|h2
       ·have h2n:¬count<=1000:=by omega
        exact J155 _
       ·have E0:Hid (cb=true):=by show _=_;rw[HC.out];simp[*] <;> omega
        exact J16 _
   case rest =>
    obtain⟨rfl,rfl⟩:=hcut
    have HI:Hid (∀(W:World)(s:ByteArray)(b r:Bool),Keeps zA wc W->((s=reg/\b=fr/\r=r1)\/(s=name/\b=fn/\r=r2))->Calls Tryz.prog 190 #[s,b] W λe w'=>e=.returned r/\Keeps zA wc w'):=by
     rintro W s b r hW (⟨rfl,rfl,rfl⟩|⟨rfl,rfl,rfl⟩)
     ·exact(HIR.out W).mono λe w' h=>⟨h.1,hW.zC h.2⟩
     ·exact(HIN.out W).mono λe w' h=>⟨h.1,hW.zC h.2⟩
    clear HIR HIN HLK;rcases (show kn=false\/kn=true by cases kn <;> simp) with hq|hq
    all_goals subst hq
    ·have E0:Hid (res=false):=by show _=_;rw[HRES.out];simp[*] <;> omega
     clear HRES HZ HC;go_wp2_with fail
     go_ret
     exact⟨by first|(rw[E0.out];done)|(rw[E0.out];first|rfl|(simp;omega)),KS.out⟩
    rcases (show r1=false\/r1=true by cases r1 <;> simp) with hq|hq
    all_goals subst hq
    ·exact J133 _
    rcases (show r2=false\/r2=true by cases r2 <;> simp) with hq|hq
    all_goals subst hq
    ·exact J133 _
    rcases (show fe=false\/fe=true by cases fe <;> simp) with hq|hq
    all_goals subst hq
    ·rcases (show zb=false\/zb=true by cases zb <;> simp) with hq|hq
     all_goals subst hq
     ·exact J133 _
     ·exact J131 _
    ·rcases (show xk=0\/¬xk=0 by omega) with hx|hx
     ·exact J133 _
     ·have hxb:(xk==0)=false:=by simpa using hx
      exact J131 _
