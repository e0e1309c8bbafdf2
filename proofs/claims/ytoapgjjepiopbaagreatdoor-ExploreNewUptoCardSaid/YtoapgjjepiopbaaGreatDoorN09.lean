/- Layer N: texts joined. -/
import Derived.Test.YtoapgjjepiopbaaGreatDoorN08
import Derived.Deep.CutRange
set_option linter.all false
set_option maxHeartbeats 8000000
set_option maxRecDepth 8000
namespace Go.Proofs.YtoapgjjepiopbaaGreatDoor
open Go.RowKit Go.WideMaps Go.Maps
theorem J2 (P:Prop) (h:P:=by
 clear HRES HZ HC;go_wp2_with (go_at_call 190;refine (HI.out _ _ _ _ (by first | exact GI.out | exact Keeps.refl _ _) (by first | exact .inl ⟨rfl,rfl,rfl⟩ | exact .inr ⟨rfl,rfl,rfl⟩)).mono ?_;rintro e wI ⟨rfl,g1⟩;clear d0 d1 d2 d3 d4 d5 d6 d7 d8 d9 z0 z1 z2 z3 z4 z5;obtain ⟨d0,d1,d2,d3,d4,d5,d6,d7,d8,d9⟩:=(R1S.out.keeps g1 (fun h=>h)).ten;obtain ⟨z0,z1,z2,z3,z4,z5⟩:=zC.six (R3S.out.keeps g1 (fun h=>h));have GI:=Lib.hid g1;clear g1)
 go_ret
 exact ⟨by first | (rw [E0.out];done) | (rw [E0.out];first | rfl | (simp;omega)),KS.out.zB GI.out⟩):P:=h
theorem J14 (P:Prop) (h:P:=by
 go_wp2_with fail
 go_meet
 case rel=>exact ⟨by first | (rw [E0.out];done) | (rw [E0.out];first | rfl | (simp;omega)),rfl⟩):P:=h
theorem J114 (P:Prop) (h:P:=by
 rcases (show cb=false \/ cb=true by cases cb <;> simp) with hq | hq
 all_goals subst hq
 ·have E0:Hid (res=false):=by show _=_;rw [HRES.out];simp [*] <;> omega
  exact J2 _
 ·rcases (show ft=false \/ ft=true by cases ft <;> simp) with hq | hq
  all_goals subst hq
  ·rcases (show ¬ nt=0 \/ nt=0 by omega) with h5 | h5
   ·have h5i:¬ (nt:Int)=0:=by omega
    have h5b:((nt:Int)==0)=false:=by rw [beq_eq_false_iff_ne];omega
    have E0:Hid (res=false):=by show _=_;rw [HRES.out];simp [*] <;> omega
    exact J2 _
   ·have h5i:(nt:Int)=0:=by omega
    rcases (show fo=false \/ fo=true by cases fo <;> simp) with hq | hq
    all_goals subst hq
    ·rcases (show ¬ ne=0 \/ ne=0 by omega) with h6 | h6
     ·have h6i:¬ (ne:Int)=0:=by omega
      have h6b:((ne:Int)==0)=false:=by rw [beq_eq_false_iff_ne];omega
      have E0:Hid (res=false):=by show _=_;rw [HRES.out];simp [*] <;> omega
      exact J2 _
     ·have h6i:(ne:Int)=0:=by omega
      have E0:Hid (res=true):=by show _=_;rw [HRES.out];simp [*] <;> omega
      exact J2 _
    ·have E0:Hid (res=true):=by show _=_;rw [HRES.out];simp [*] <;> omega
     exact J2 _
  ·rcases (show fo=false \/ fo=true by cases fo <;> simp) with hq | hq
   all_goals subst hq
   ·rcases (show ¬ ne=0 \/ ne=0 by omega) with h6 | h6
    ·have h6i:¬ (ne:Int)=0:=by omega
     have h6b:((ne:Int)==0)=false:=by rw [beq_eq_false_iff_ne];omega
     have E0:Hid (res=false):=by show _=_;rw [HRES.out];simp [*] <;> omega
     exact J2 _
    ·have h6i:(ne:Int)=0:=by omega
     have E0:Hid (res=true):=by show _=_;rw [HRES.out];simp [*] <;> omega
     exact J2 _
   ·have E0:Hid (res=true):=by show _=_;rw [HRES.out];simp [*] <;> omega
    exact J2 _):P:=h
theorem J115 (P:Prop) (h:P:=by
 have E0:Hid (res=false):=by show _=_;rw [HRES.out];simp [*] <;> omega
 exact J2 _):P:=h
theorem J130 (P:Prop) (h:P:=by
 have E0:Hid (zb=false):=by show _=_;rw [HZ.out];simp [*] <;> omega
 exact J14 _):P:=h
theorem J137 (P:Prop) (h:P:=by
 have E0:Hid (cb=false):=by show _=_;rw [HC.out];simp [*] <;> omega
 exact J14 _):P:=h
theorem zC.six {w:World} {g:Nat} {a b c d e f:Value} (r:zC w g [a,b,c,d,e,f]):w.cell? ⟨g,0,none⟩=some a /\ w.cell? ⟨g,1,none⟩=some b /\ w.cell? ⟨g,2,none⟩=some c /\ w.cell? ⟨g,3,none⟩=some d /\ w.cell? ⟨g,4,none⟩=some e /\ w.cell? ⟨g,5,none⟩=some f :=
 ⟨r.cell rfl,r.cell rfl,r.cell rfl,r.cell rfl,r.cell rfl,r.cell rfl⟩
theorem zJf (w:World):(zeroValue 293).run Tryz.prog w=.ok (flA ⟨false,false,false,false,false,false⟩) w:=by kernel_rfl
theorem zIF (k:Int) (hk:-9223372036854775808 <= k /\ k < 9223372036854775808) (W:World) (g:Nat) (h:W.ownsMap Tryz.prog 3 zAZ g 11 (shD 11)) :
 (Instr.lookup 295 (.map (some g)) (.int .i64 k) true).run Tryz.prog W=.ok (.tuple #[flA (fields k), .bool (decide (1 <= k /\ k <= 11))]) W:=by
 obtain ⟨v,ps,e1,e2⟩:=h.look_ok zCz Tryz.underlying295 (zJf W) (zJe _) (zBg k hk);rw [(zIr k).1] at e1;rw [(zIr k).2] at e2;rw [e1,zIc e2]
theorem zHq (k xk xn count:Int) (reg name nm:ByteArray) (xa ta ea:Option Addr) (nx xc nt tc ne ec:Nat) (kn fr fn fe fc ft fo r1 r2 zb cb res:Bool) (w:World)
 (HLK:Hid (∀ (W:World) (g:Nat),W.ownsMap Tryz.prog 3 zAZ g 11 (shD 11) -> (Instr.lookup 295 (.map (some g)) (.int .i64 k) true).run Tryz.prog W=.ok (.tuple #[.agg #[.bool fr, .bool fn, .bool fe, .bool fc, .bool ft, .bool fo], .bool kn]) W))
 (HIR:Hid (∀ W,Calls Tryz.prog 190 #[.string reg, .bool fr] W fun e w'=>e=.returned (.bool r1) /\ Keeps zA W w'))
 (HIN:Hid (∀ W,Calls Tryz.prog 190 #[.string name, .bool fn] W fun e w'=>e=.returned (.bool r2) /\ Keeps zA W w'))
 (HZ:Hid (zb=(xk==0&&xn==0&&zV nm&&nx==0))) (HC:Hid (cb=(count==0 || fc&&decide (0 < count)&&decide (count <= 1000))))
 (HRES:Hid (res=(kn&&r1&&r2&&(fe&&xk != 0 || !fe&&zb)&&cb&&(ft || nt==0)&&(fo || ne==0)))) :
 Calls Tryz.prog 135 #[.agg #[.int .i64 k, .string reg, .string name, .int .i64 xk, .int .i64 xn, .string nm, .slice xa nx xc, .int .i64 count, .slice ta nt tc, .slice ea ne ec]] w fun e w'=>e=.returned (.bool res) /\ Keeps zA w w':=by
 go_enter Tryz.func135,Tryz.ntmps135
 go_upto_region 1 with fail
 obtain ⟨b1,hb1⟩:=eX w.heap.size;have hr1:zC (w.alloc (.cells #[.int .i64 k, .string reg, .string name, .int .i64 xk, .int .i64 xn, .string nm, .slice xa nx xc, .int .i64 count, .slice ta nt tc, .slice ea ne ec] 191)) b1 [.int .i64 k, .string reg, .string name, .int .i64 xk, .int .i64 xn, .string nm, .slice xa nx xc, .int .i64 count, .slice ta nt tc, .slice ea ne ec]:=J150 _;have hk1:Keeps zA w (w.alloc (.cells #[.int .i64 k, .string reg, .string name, .int .i64 xk, .int .i64 xn, .string nm, .slice xa nx xc, .int .i64 count, .slice ta nt tc, .slice ea ne ec] 191)):=(Keeps.refl _ _).alloc _;rw [<- hb1];generalize w.alloc (.cells #[.int .i64 k, .string reg, .string name, .int .i64 xk, .int .i64 xn, .string nm, .slice xa nx xc, .int .i64 count, .slice ta nt tc, .slice ea ne ec] 191)=w1 at hr1 hk1 ⊢;have R1:=Lib.hid hr1;have K1:=Lib.hid hk1;have HL1:Hid (b1 < w1.heap.size):=hr1.lt (by simp);clear hr1 hk1 hb1
 refine zEc 8 6 (by kernel_rfl) (by kernel_rfl) _ rfl (fun _ _ _ _ h=>h) (Keeps zA) (Keeps.refl zA) (fun a b c h h'=>Keeps.zB h h') (zA3 [none,some (.pointer (some ⟨b1,0,none⟩)),some (.int .i64 k),some (.tuple #[.agg #[.bool fr, .bool fn, .bool fe, .bool fc, .bool ft, .bool fo], .bool kn]),some (.tuple #[.agg #[.bool fr, .bool fn, .bool fe, .bool fc, .bool ft, .bool fo], .bool kn]),some (.agg #[.bool fr, .bool fn, .bool fe, .bool fc, .bool ft, .bool fo]),some (.bool kn),none] (fun j v W=>match j with
  | 0=>∃ g,v=.map (some g) /\ W.ownsMap Tryz.prog 3 zAZ g 11 (shD 11)
  | _=>∃ b,v=.pointer (some ⟨b,0,none⟩) /\ zC W b [.bool false, .bool false, .bool false, .bool false, .bool false, .bool false] /\ w1.heap.size <= b)) (zA3.st (fun j v W W' h hk=>by
    revert h
    split
    ·rintro ⟨g,e,h1⟩;exact ⟨g,e,h1.kept (row:=none) ⟨hk.os,hk.tape,hk.output,hk.size,fun k hk2 _=>hk.block k hk2 (fun h=>h)⟩ (by simp)⟩
    ·rintro ⟨b,e,h1,h2⟩;exact ⟨b,e,h1.keeps hk (fun h=>h),h2⟩)) ?_ ?_ ?_
 ·intro q oo hq ho vs W Q' hR0 hd hK
  have hR:Keeps zA w1 W:=((Keeps.refl zA w1).drew).zB hR0;obtain ⟨d0,d1,d2,d3,d4,d5,d6,d7,d8,d9⟩:=(R1.out.keeps hR (fun h=>h)).ten;have HW:Hid (w1.heap.size <= W.heap.size):=hR.size;clear hR hR0;rcases (show q=0 \/ q=1 \/ q=2 \/ q=3 \/ q=4 \/ q=5 \/ q=6 \/ q=7 by omega) with rfl | rfl | rfl | rfl | rfl | rfl | rfl | rfl
  all_goals (simp only [List.getElem?_cons_zero,List.getElem?_cons_succ,Option.some.injEq] at ho;subst ho;simp only [zJ,List.getElem?_cons_zero,List.getElem?_cons_succ,Option.bind_some,Option.bind,Act.put,List.setIfInBounds_toArray,List.set_cons_zero,List.set_cons_succ] at hK ⊢;clear hq)
  ·clear hd
   go_wp2_with (go_at_call 189;refine (zH3 _).mono ?_;rintro e W1 ⟨g,rfl,h1,g1⟩)
   exact hK _ _ g1 ⟨g,rfl,h1⟩
  ·exact J3 _
  ·exact J127 _
  ·obtain ⟨g,e0,hg⟩:=(hd 0 (by kernel_rfl):∃ g,vs 0=.map (some g) /\ W.ownsMap Tryz.prog 3 zAZ g 11 (shD 11))
   have hlk:=HLK.out W g hg;have e2:vs 2=_:=hd 2 (by kernel_rfl);rw [e0,e2] at hK ⊢;clear hg;exact J3 _
  ·exact J126 _
  ·exact J123 _
  ·exact J123 _
  ·clear hd
   go_wp2_with fail
   exact hK _ _ ((Keeps.refl _ _).alloc _) ⟨_,rfl,zC.zG (heap_alloc_new W _),HW.out⟩
 ·intro vs W hR0 hF
  have e4:vs 4=_:=hF 4 (by decide) (by decide);refine ⟨.bool kn, .inl ⟨rfl,fun w=>?_⟩,rfl⟩
  simp only [zJ,List.getElem?_cons_zero,List.getElem?_cons_succ,Option.bind_some,Option.bind,Act.put,List.setIfInBounds_toArray,List.set_cons_zero,List.set_cons_succ];rw [e4];rfl
 ·intro vs W hR0 hF
  have hR:Keeps zA w1 W:=((Keeps.refl zA w1).drew).zB hR0;have e5:vs 5=_:=hF 5 (by decide);have e6:vs 6=_:=hF 6 (by decide);obtain ⟨b3,e7,h3,hb3⟩:=(hF 7 (by decide):∃ b,vs 7=.pointer (some ⟨b,0,none⟩) /\ zC W b [.bool false, .bool false, .bool false, .bool false, .bool false, .bool false] /\ w1.heap.size <= b);have KW:Hid (Keeps zA w W):=K1.out.zB hR;have R1W:Hid (zC W b1 [.int .i64 k, .string reg, .string name, .int .i64 xk, .int .i64 xn, .string nm, .slice xa nx xc, .int .i64 count, .slice ta nt tc, .slice ea ne ec]):=R1.out.keeps hR (fun h=>h);have R3W:=Lib.hid h3;have HB3:Hid (b1 < w1.heap.size /\ w1.heap.size <= b3 /\ w.heap.size <= w1.heap.size):=⟨HL1.out,hb3,K1.out.size⟩;simp only [zJ,List.getElem?_cons_zero,List.getElem?_cons_succ,Option.bind_some,Option.bind,Act.put,List.setIfInBounds_toArray,List.set_cons_zero,List.set_cons_succ,List.drop_succ_cons,List.drop_zero];rw [e5,e6,e7];clear hF e5 e6 e7;generalize vs 0=y0;generalize vs 1=y1;generalize vs 2=y2;generalize vs 3=y3;generalize vs 4=y4;have z0:=h3.cell (k:=0) (v:=.bool false) rfl;have z1:=h3.cell (k:=1) (v:=.bool false) rfl;have z2:=h3.cell (k:=2) (v:=.bool false) rfl;have z3:=h3.cell (k:=3) (v:=.bool false) rfl;have z4:=h3.cell (k:=4) (v:=.bool false) rfl;have z5:=h3.cell (k:=5) (v:=.bool false) rfl;have f0:=h3.free (k:=0) (by simp);have f1:=h3.free (k:=1) (by simp);have f2:=h3.free (k:=2) (by simp);have f3:=h3.free (k:=3) (by simp);have f4:=h3.free (k:=4) (by simp);have f5:=h3.free (k:=5) (by simp);clear hR hR0 h3 hb3 HL1;go_upto_region 2 with fail
  have r3:zC ((((((W.setCell ⟨b3,0,none⟩ (.bool fr)).setCell ⟨b3,1,none⟩ (.bool fn)).setCell ⟨b3,2,none⟩ (.bool fe)).setCell ⟨b3,3,none⟩ (.bool fc)).setCell ⟨b3,4,none⟩ (.bool ft)).setCell ⟨b3,5,none⟩ (.bool fo)) b3 [.bool fr, .bool fn, .bool fe, .bool fc, .bool ft, .bool fo]:=((((((R3W.out.set 0 (by simp) _).set 1 (by simp) _).set 2 (by simp) _).set 3 (by simp) _).set 4 (by simp) _).set 5 (by simp) _);have k3:Keeps (fun q=>q=b3) W ((((((W.setCell ⟨b3,0,none⟩ (.bool fr)).setCell ⟨b3,1,none⟩ (.bool fn)).setCell ⟨b3,2,none⟩ (.bool fe)).setCell ⟨b3,3,none⟩ (.bool fc)).setCell ⟨b3,4,none⟩ (.bool ft)).setCell ⟨b3,5,none⟩ (.bool fo)):=((((((Keeps.refl (fun q=>q=b3) W).setCell (p:=⟨b3,0,none⟩) (fun _=>rfl) _).setCell (p:=⟨b3,1,none⟩) (fun _=>rfl) _).setCell (p:=⟨b3,2,none⟩) (fun _=>rfl) _).setCell (p:=⟨b3,3,none⟩) (fun _=>rfl) _).setCell (p:=⟨b3,4,none⟩) (fun _=>rfl) _).setCell (p:=⟨b3,5,none⟩) (fun _=>rfl) _;generalize (((((W.setCell ⟨b3,0,none⟩ (.bool fr)).setCell ⟨b3,1,none⟩ (.bool fn)).setCell ⟨b3,2,none⟩ (.bool fe)).setCell ⟨b3,3,none⟩ (.bool fc)).setCell ⟨b3,4,none⟩ (.bool ft)).setCell ⟨b3,5,none⟩ (.bool fo)=wS at r3 k3 ⊢;have R3S:=Lib.hid r3;have R1S:Hid (zC wS b1 [.int .i64 k, .string reg, .string name, .int .i64 xk, .int .i64 xn, .string nm, .slice xa nx xc, .int .i64 count, .slice ta nt tc, .slice ea ne ec]):=R1W.out.keeps k3 (fun e=>by have e':b1=b3:=e;have:=HB3.out;omega);have KS:Hid (Keeps zA w wS):=KW.out.trans k3 (fun q hq e=>by have e':q=b3:=e;have:=HB3.out;omega);clear z0 z1 z2 z3 z4 z5 f0 f1 f2 f3 f4 f5 r3 k3 KW R3W R1W;obtain ⟨d0,d1,d2,d3,d4,d5,d6,d7,d8,d9⟩:=R1S.out.ten;obtain ⟨z0,z1,z2,z3,z4,z5⟩:=zC.six R3S.out;go_cut [5] from 14 (fun v wx=>v=.bool zb /\ wx=wS)
  case first =>
   rcases (show ¬ xk=0 \/ xk=0 by omega) with h0 | h0
   ·have hb:(xk==0)=false:=by simpa using h0
    exact J130 _
   rcases (show ¬ xn=0 \/ xn=0 by omega) with h1 | h1
   ·have hb:(xn==0)=false:=by simpa using h1
    exact J130 _
   rcases (show zV nm=false \/ zV nm=true by exact J202 _) with h2 | h2
   ·have s1:=zAj h2
    have s2:=zAc h2;exact J130 _
   have s1:=zAm h2;rcases (show ¬ nx=0 \/ nx=0 by omega) with h3 | h3
   ·have hi:¬ (nx:Int)=0:=by omega
    have hb:((nx:Int)==0)=false:=J154 _;exact J130 _
   have hi:(nx:Int)=0:=by omega
   have E0:Hid (zb=true):=by show _=_;rw [HZ.out];simp [*] <;> omega
   exact J14 _
  case rest =>
   obtain ⟨rfl,rfl⟩:=hcut;go_upto_region 3 with fail
   go_cut [6] from 14 (fun v wx=>v=.bool cb /\ wx=wc)
   case first =>
    rcases Classical.em (count=0) with hc | hc
    ·have E0:Hid (cb=true):=by show _=_;rw [HC.out];simp [*] <;> omega
     exact J14 _
    ·have hcb:(count==0)=false:=by simpa using hc
     cases fc
     ·exact J137 _
     ·rcases (show count <= 0 \/ 0 < count by omega) with h1 | h1
      ·have h1n:¬ 0 < count:=by omega
       exact J137 _
      ·rcases (show 1000 < count \/ count <= 1000 by omega) with h2 | h2
       ·have h2n:¬ count <= 1000:=by omega
        exact J137 _
       ·have E0:Hid (cb=true):=by show _=_;rw [HC.out];simp [*] <;> omega
        exact J14 _
   case rest =>
    obtain ⟨rfl,rfl⟩:=hcut
    have HI:Hid (∀ (W:World) (s:ByteArray) (b r:Bool),Keeps zA wc W -> ((s=reg /\ b=fr /\ r=r1) \/ (s=name /\ b=fn /\ r=r2)) -> Calls Tryz.prog 190 #[.string s, .bool b] W fun e w'=>e=.returned (.bool r) /\ Keeps zA wc w'):=by
     rintro W s b r hW (⟨rfl,rfl,rfl⟩ | ⟨rfl,rfl,rfl⟩)
     ·exact (HIR.out W).mono fun e w' h=>⟨h.1,hW.zB h.2⟩
     ·exact (HIN.out W).mono fun e w' h=>⟨h.1,hW.zB h.2⟩
    clear HIR HIN HLK;rcases (show kn=false \/ kn=true by cases kn <;> simp) with hq | hq
    all_goals subst hq
    ·have E0:Hid (res=false):=by show _=_;rw [HRES.out];simp [*] <;> omega
     clear HRES HZ HC;go_wp2_with fail
     go_ret
     exact ⟨by first | (rw [E0.out];done) | (rw [E0.out];first | rfl | (simp;omega)),KS.out⟩
    rcases (show r1=false \/ r1=true by cases r1 <;> simp) with hq | hq
    all_goals subst hq
    ·exact J115 _
    rcases (show r2=false \/ r2=true by cases r2 <;> simp) with hq | hq
    all_goals subst hq
    ·exact J115 _
    rcases (show fe=false \/ fe=true by cases fe <;> simp) with hq | hq
    all_goals subst hq
    ·rcases (show zb=false \/ zb=true by cases zb <;> simp) with hq | hq
     all_goals subst hq
     ·exact J115 _
     ·exact J114 _
    ·rcases (show xk=0 \/ ¬ xk=0 by omega) with hx | hx
     ·exact J115 _
     ·have hxb:(xk==0)=false:=by simpa using hx
      exact J114 _
end Go.Proofs.YtoapgjjepiopbaaGreatDoor
