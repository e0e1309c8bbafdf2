/- Layer L: texts joined. -/
import Derived.Test.YtfokdllgnblamaaGreatDoorL11
import Derived.Lib.BufferMore
set_option linter.all false
set_option maxHeartbeats 2000000
set_option maxRecDepth 8000
namespace Go.Proofs.YtfokdllgnblamaaGreatDoor
open Go.RowKit
abbrev kU:=@List.mem_replicate
abbrev vG:=@Int.lt_or_le
abbrev uJ:=@List.length_replicate
abbrev uE:=@List.getElem?_replicate
theorem J98 (P:Prop) (h:P:=by
 rcases hO.2.2 kb (by rw [xC];exact e) with h1 | h1
 ·simp [Value.ownBlock] at h1;omega
 ·simp at h1;omega):P:=h
theorem J150 (P:Prop) (h:P:=by intro q hq;simp only [xU,kN,or_false] at hq;rcases hq with rfl;rfl):P:=h
theorem J152 (P:Prop) (h:P:=by rw [hb1];exact (yM (yG w _)).alloc _):P:=h
theorem J177 (P:Prop) (h:P:=by rw [hb5];exact yM (yG wr _)):P:=h
theorem J192 (P:Prop) (h:P:=by have e':q=c:=e;have:=HCW.out;omega):P:=h
theorem J212 (P:Prop) (h:P:=by rw [hc];exact yM (zf w _ _)):P:=h
def zCJ (w:World) (F:Nat -> Prop) (cs:List Int) (ad:Option Addr):Prop :=
 ∀ i (hi:i < cs.length),∃ g o,ad=some ⟨g,o,none⟩ /\ F g /\ w.cell? ⟨g,o+i*2,none⟩=some (.string xNm) /\ w.cell? ⟨g,o+i*2+1,none⟩=some (.int .i64 cs[i])
theorem zCJ.keeps {S F:Nat -> Prop} {w w':World} {cs:List Int} {ad:Option Addr} (h:zCJ w F cs ad) (hk:Keeps S w w') (hS:∀ k,F k -> ¬ S k):zCJ w' F cs ad:=by
 intro i hi
 obtain ⟨g,o,e,hg,c0,c1⟩:=h i hi;exact ⟨g,o,e,hg,hk.cell (p:=⟨g,_,none⟩) (hS g hg) c0,hk.cell (p:=⟨g,_,none⟩) (hS g hg) c1⟩
theorem zZ.at {w:World} {F:Nat -> Prop} {ad:Option Addr} {n cap:Nat} (h:zZ w F (.slice ad n cap) n) {i:Nat} (hi:i < n) :
 ∃ g o,ad=some ⟨g,o,none⟩ /\ F g /\ w.cell? ⟨g,o+i,none⟩=some (.string xNm):=by
 obtain ⟨ad',cap',e,h1⟩:=h;have e':ad=ad':=by injection e
 subst e';exact h1 i hi
theorem zGj (cs:List Int) (mn:Nat) (ts:List (List St)) (w:World) (F:Nat -> Prop) (ca ma ta:Option Addr) (cc mc tc:Nat) (hcl:zCJ w F cs ca) (hms:zZ w F (.slice ma mn mc) mn) (h:zAe w F xNm ts ta) (hnn:zDB ts) (hF:∀ k,F k -> k < w.heap.size) (hb:zBg ts < 900000000) (hcs:cs.length <= 1000) (hmn:mn <= 1000) :
 Calls Tryz.prog 109 #[.agg #[.slice ca cs.length cc, .slice ma mn mc, .slice ta ts.length tc]] w fun e w'=>e=.returned (.bool (cs.all zCL&&zAn ts)) /\ Keeps zA w w':=by
 have hmf:∀ (fn:Fn) (first cap:Array Value) (w:World),(Instr.makeFunc fn first cap).run Tryz.prog w=.ok (.func fn first cap) w:=fun _ _ _ _=>rfl
 have HL:=yA h;have HCL:=yA hcl;have HMS:=yA hms;have HF:=yA hF;have HB:=yA hb;have HN:=yA hnn;have hl:ts.length <= 1000:=h.len;obtain ⟨r,hr⟩:∃ r:Bool,r=(cs.all zCL&&zAn ts):=⟨_,rfl⟩
 have HR:=yA hr;rw [<- hr];clear h hcl hms hF hb hr hnn;go_enter Tryz.func109,Tryz.ntmps109
 go_upto_region 2 with fail
 obtain ⟨b1,hb1⟩:∃ z,z=w.heap.size:=⟨_,rfl⟩
 obtain ⟨c,hc⟩:∃ z,z=w.heap.size+1:=⟨_,rfl⟩
 have hr1:zC ((w.alloc (.cells #[.slice ca cs.length cc, .slice ma mn mc, .slice ta ts.length tc] 150)).alloc (.cells #[.bool true] 4)) b1 [.slice ca cs.length cc, .slice ma mn mc, .slice ta ts.length tc]:=J152 _;have hrc:zC ((w.alloc (.cells #[.slice ca cs.length cc, .slice ma mn mc, .slice ta ts.length tc] 150)).alloc (.cells #[.bool true] 4)) c [.bool true]:=J212 _;have hk1:Keeps zA w ((w.alloc (.cells #[.slice ca cs.length cc, .slice ma mn mc, .slice ta ts.length tc] 150)).alloc (.cells #[.bool true] 4)):=((yB _ _).alloc _).alloc _;have HCW:Hid (w.heap.size <= c):=by show _ <= _;omega
 have HBC:Hid (b1 ≠ c):=by show _ ≠ _;omega
 rw [<- hc,<- hb1];generalize (w.alloc (.cells #[.slice ca cs.length cc, .slice ma mn mc, .slice ta ts.length tc] 150)).alloc (.cells #[.bool true] 4)=w1 at hr1 hrc hk1 ⊢;have HFc:Hid (∀ q,F q -> ¬ (fun q=>q=c) q):=fun q hq e=>by have e':q=c:=e;have:=HF.out q hq;have:=HCW.out;omega
 have CL1:Hid (zCJ w1 F cs ca):=HCL.out.keeps hk1 (fun _ _ h=>h);have MS1:Hid (zZ w1 F (.slice ma mn mc) mn):=HMS.out.keeps hk1 (fun _ _ h=>h);have TS1:Hid (zAe w1 F xNm ts ta):=HL.out.keeps hk1 (fun _ _ h=>h);have K1:=yA hk1;have R1:=yA hr1;have RC:=yA hrc;have HLC:Hid (c < w1.heap.size):=hrc.lt (by simp);obtain ⟨d0,d1,d2⟩:=hr1.three;clear hr1 hrc hk1 hb1 hc HCL HMS HL;go_upto_region 3 with fail
 clear d0 d1 d2;go_loopw [13] (fun iv wr=>∃ (i:Nat) (v:Bool),i <= cs.length /\ iv=.int .i64 i /\ Hid (zC wr c [.bool v]) /\ Hid ((v&&((cs.drop i).all zCL&&zAn ts))=r) /\ Hid (Keeps (fun q=>q=c) w1 wr)) (fun iv _=>cs.length - (intOf iv).toNat)
 case atStart=>exact ⟨0,true,yH _,rfl,RC,by show _=_;rw [yQ,HR.out];simp,yB _ _⟩
 case round =>
  obtain ⟨i,v,hi,rfl,HV,HD,HK⟩:=hrel;by_cases hlt:i < cs.length
  ·have i1:(0:Int) <= i:=by omega
   have i2:(i:Int) < cs.length:=by omega
   have hd:=HD.out;rw [drop_at hlt,List.all_cons] at hd;obtain ⟨g,o,e1,hg,d0,d1⟩:=(CL1.out.keeps HK.out HFc.out) i hlt;subst e1;have hq:zCL cs[i]=(decide (-2147483647 <= cs[i])&&decide (cs[i] <= 2147483647)):=rfl;rw [hq] at hd;have HDD:=yA hd;clear hd hq;generalize cs[i]=x at d1 HDD;go_upto_region 5 with fail
   obtain ⟨b5,hb5⟩:∃ z,z=wr.heap.size:=⟨_,rfl⟩
   have hr5:zC (wr.alloc (.cells #[.string xNm, .int .i64 x] 201)) b5 [.string xNm, .int .i64 x]:=J177 _;have hk5:Keeps zA wr (wr.alloc (.cells #[.string xNm, .int .i64 x] 201)):=(yB _ _).alloc _;have hn5:Hid (b5 ≠ c):=by show _ ≠ _;have:=HLC.out;have:=HK.out.size;omega
   rw [<- hb5];generalize wr.alloc (.cells #[.string xNm, .int .i64 x] 201)=w5 at hr5 hk5 ⊢;have rc:=HV.out.keeps hk5 (fun h=>h);have cc0:=rc.cell (k:=0) (v:=.bool v) rfl;have fc0:=rc.free (k:=0) (by simp);have y0:=hr5.cell (k:=0) (v:=.string xNm) rfl;have y1:=hr5.cell (k:=1) (v:=.int .i64 x) rfl;have K5:=yA hk5;have R5:=yA hr5;have RC5:=yA rc;clear hr5 hk5 hb5 rc d0 d1;cases v
   ·go_wp2_with fail
    go_roundw
    case rel=>exact ⟨i+1,false,by omega,by go_num,RC5.out.set 0 (by simp) _,by show _=_;rw [<- HDD.out];simp,(HK.out.trans K5.out (fun _ _ h=>False.elim h)).setCell (p:=⟨c,0,none⟩) (fun _=>rfl) _⟩
    case measure=>simp [intOf];omega
   ·rcases vG x (-2147483647) with h1 | h1
    ·go_wp2_with (go_at_call 126;refine (zBc xNm (.inl rfl) _).mono ?_;rintro e w2 ⟨rfl,g1⟩;have r2:=RC5.out.keeps g1 (fun h=>h);have cc2:=r2.cell (k:=0) (v:=.bool true) rfl;have fc2:=r2.free (k:=0) (by simp);have y12:=(R5.out.keeps g1 (fun h=>h)).cell (k:=1) (v:=.int .i64 x) rfl;have R2:=yA r2;have G1:=yA g1;clear g1 r2 cc0 fc0 y0 y1)
     go_roundw
     case rel=>exact ⟨i+1,false,by omega,by go_num,R2.out.set 0 (by simp) _,by show _=_;rw [<- HDD.out];have:decide (-2147483647 <= x)=false:=xY (by omega);rw [this];simp,(HK.out.trans (K5.out.zB G1.out) (fun _ _ h=>False.elim h)).setCell (p:=⟨c,0,none⟩) (fun _=>rfl) _⟩
     case measure=>simp [intOf];omega
    ·obtain ⟨z,hz⟩:∃ z,z=decide (x <= 2147483647):=⟨_,rfl⟩
     have HZ:Hid ((z&&((cs.drop (i+1)).all zCL&&zAn ts))=r):=by
      show _=_
      rw [<- HDD.out,xZ h1,hz];simp [Bool.and_assoc]
     have hx:x <= 2147483647 /\ z=true \/ ¬ x <= 2147483647 /\ z=false:=by
      by_cases h:x <= 2147483647
      ·exact .inl ⟨h,by rw [hz];simp [h]⟩
      ·exact .inr ⟨h,by rw [hz];simp [h]⟩
     clear hz;rcases hx with ⟨h2,rfl⟩ | ⟨h2,rfl⟩
     ·go_wp2_with (go_at_call 126;refine (zBc xNm (.inl rfl) _).mono ?_;rintro e w2 ⟨rfl,g1⟩;have r2:=RC5.out.keeps g1 (fun h=>h);have cc2:=r2.cell (k:=0) (v:=.bool true) rfl;have fc2:=r2.free (k:=0) (by simp);have y12:=(R5.out.keeps g1 (fun h=>h)).cell (k:=1) (v:=.int .i64 x) rfl;have R2:=yA r2;have G1:=yA g1;clear g1 r2 cc0 fc0 y0 y1)
      go_roundw
      case rel=>exact ⟨i+1,true,by omega,by go_num,R2.out.set 0 (by simp) _,HZ,(HK.out.trans (K5.out.zB G1.out) (fun _ _ h=>False.elim h)).setCell (p:=⟨c,0,none⟩) (fun _=>rfl) _⟩
      case measure=>simp [intOf];omega
     ·go_wp2_with (go_at_call 126;refine (zBc xNm (.inl rfl) _).mono ?_;rintro e w2 ⟨rfl,g1⟩;have r2:=RC5.out.keeps g1 (fun h=>h);have cc2:=r2.cell (k:=0) (v:=.bool true) rfl;have fc2:=r2.free (k:=0) (by simp);have y12:=(R5.out.keeps g1 (fun h=>h)).cell (k:=1) (v:=.int .i64 x) rfl;have R2:=yA r2;have G1:=yA g1;clear g1 r2 cc0 fc0 y0 y1)
      go_roundw
      case rel =>
       have h3:decide (x <= 2147483647)=false:=xY (by omega);rw [h3];exact ⟨i+1,false,by omega,by go_num,R2.out.set 0 (by simp) _,HZ,(HK.out.trans (K5.out.zB G1.out) (fun _ _ h=>False.elim h)).setCell (p:=⟨c,0,none⟩) (fun _=>rfl) _⟩
      case measure=>simp [intOf];omega
  ·obtain rfl:i=cs.length:=by omega
   have hd:=HD.out;rw [xI,List.all_nil,Bool.true_and] at hd;have HD2:=yA hd;clear hd HD;obtain ⟨d0,d1,d2⟩:=(R1.out.keeps HK.out (fun e=>HBC.out e)).three;have CLX:=CL1;clear CL1;go_upto_region 8 with fail
   clear d0 d1 d2;go_loopw [37] (fun iv ws=>∃ (j:Nat) (v:Bool),j <= mn /\ iv=.int .i64 j /\ Hid (zC ws c [.bool v]) /\ Hid ((v&&zAn ts)=r) /\ Hid (Keeps (fun q=>q=c) w1 ws)) (fun iv _=>mn - (intOf iv).toNat)
   case atStart=>exact ⟨0,v,yH _,rfl,HV,HD2,HK⟩
   case round =>
    clear HV HD2 HK hi;clear v;obtain ⟨j,v,hj,rfl,HV,HD,HK⟩:=hrel;by_cases hlt:j < mn
    ·have i1:(0:Int) <= j:=by omega
     have i2:(j:Int) < mn:=by omega
     obtain ⟨g,o,e1,hg,d0⟩:=(MS1.out.keeps HK.out HFc.out).at hlt;subst e1;have cc0:=HV.out.cell (k:=0) (v:=.bool v) rfl;have fc0:=HV.out.free (k:=0) (by simp);cases v
     ·go_wp2_with fail
      go_roundw
      case rel=>exact ⟨j+1,false,by omega,by go_num,HV.out.set 0 (by simp) _,HD,HK.out.setCell (p:=⟨c,0,none⟩) (fun _=>rfl) _⟩
      case measure=>simp [intOf];omega
     ·go_wp2_with (go_at_call 126;refine (zBc xNm (.inl rfl) _).mono ?_;rintro e w2 ⟨rfl,g1⟩;have r2:=HV.out.keeps g1 (fun h=>h);have cc2:=r2.cell (k:=0) (v:=.bool true) rfl;have fc2:=r2.free (k:=0) (by simp);have R2:=yA r2;have G1:=yA g1;clear g1 r2 cc0 fc0 d0)
      go_roundw
      case rel=>exact ⟨j+1,true,by omega,by go_num,R2.out.set 0 (by simp) _,HD,(HK.out.trans G1.out (fun _ _ h=>False.elim h)).setCell (p:=⟨c,0,none⟩) (fun _=>rfl) _⟩
      case measure=>simp [intOf];omega
    ·obtain rfl:j=mn:=by omega
     obtain ⟨d0,d1,d2⟩:=(R1.out.keeps HK.out (fun e=>HBC.out e)).three;go_upto_region 13 with fail
     clear d0 d1 d2;go_loopw [50] (fun iv ws=>∃ (j:Nat) (v:Bool),j <= ts.length /\ iv=.int .i64 j /\ Hid (zC ws c [.bool v]) /\ Hid ((v&&zAn ts)=r) /\ Hid (Keeps (fun q=>q=c) w1 ws)) (fun iv _=>ts.length - (intOf iv).toNat)
     case atStart=>exact ⟨0,v,yH _,rfl,HV,HD,HK⟩
     case round =>
      clear HV HD HK hj;clear v;obtain ⟨j,v,hj,rfl,HV,HD,HK⟩:=hrel;by_cases hlt:j < ts.length
      ·have i1:(0:Int) <= j:=by omega
       have i2:(j:Int) < ts.length:=by omega
       obtain ⟨g,o,ba,bc,e1,hg,d0,d1,_⟩:=(TS1.out.keeps HK.out HFc.out).at hlt;subst e1;generalize ts[j].length=x1 at d1;go_upto_region 15 with fail
       obtain ⟨b5,hb5⟩:∃ z,z=wr.heap.size:=⟨_,rfl⟩
       have hr5:zC (wr.alloc (.cells #[.string xNm, .slice ba x1 bc] 155)) b5 [.string xNm, .slice ba x1 bc]:=J177 _;have hk5:Keeps zA wr (wr.alloc (.cells #[.string xNm, .slice ba x1 bc] 155)):=(yB _ _).alloc _;rw [<- hb5];generalize wr.alloc (.cells #[.string xNm, .slice ba x1 bc] 155)=w5 at hr5 hk5 ⊢;have rc:=HV.out.keeps hk5 (fun h=>h);have cc0:=rc.cell (k:=0) (v:=.bool v) rfl;have fc0:=rc.free (k:=0) (by simp);have y0:=hr5.cell (k:=0) (v:=.string xNm) rfl;have K5:=yA hk5;have RC5:=yA rc;clear hr5 hk5 hb5 rc d0 d1;cases v
       ·go_wp2_with fail
        go_roundw
        case rel=>exact ⟨j+1,false,by omega,by go_num,RC5.out.set 0 (by simp) _,HD,(HK.out.trans K5.out (fun _ _ h=>False.elim h)).setCell (p:=⟨c,0,none⟩) (fun _=>rfl) _⟩
        case measure=>simp [intOf];omega
       ·go_wp2_with (go_at_call 126;refine (zBc xNm (.inl rfl) _).mono ?_;rintro e w2 ⟨rfl,g1⟩;have r2:=RC5.out.keeps g1 (fun h=>h);have cc2:=r2.cell (k:=0) (v:=.bool true) rfl;have fc2:=r2.free (k:=0) (by simp);have R2:=yA r2;have G1:=yA g1;clear g1 r2 cc0 fc0 y0)
        go_roundw
        case rel=>exact ⟨j+1,true,by omega,by go_num,R2.out.set 0 (by simp) _,HD,(HK.out.trans (K5.out.zB G1.out) (fun _ _ h=>False.elim h)).setCell (p:=⟨c,0,none⟩) (fun _=>rfl) _⟩
        case measure=>simp [intOf];omega
      ·obtain rfl:j=ts.length:=by omega
       have cc0:=HV.out.cell (k:=0) (v:=.bool v) rfl;have HD3:=HD;cases v
       ·have hr0:false=r:=by rw [<- HD.out];rfl
        clear HR HD HD3;subst hr0;go_wp2_with fail
        go_ret
        exact ⟨rfl,K1.out.trans HK.out (fun q hq e=>by exact J192 _)⟩
       ·obtain ⟨d0,d1,d2⟩:=(R1.out.keeps HK.out (fun e=>HBC.out e)).three
        have HP:Hid (Calls Tryz.prog 131 #[.agg #[.func (.func 127) #[] #[.pointer (some ⟨c,0,none⟩)], .func (.func 129) #[] #[.pointer (some ⟨c,0,none⟩)]], .agg #[.slice ca cs.length cc, .slice ma j mc, .slice ta ts.length tc]] wr fun e w'=>e=.returned (.tuple #[]) /\ zC w' c [.bool r] /\ Keeps (fun q=>q=c) wr w'):=by
         have h1:=zKi xNm ts wr F ca ma ta cs.length cc j mc tc c true (TS1.out.keeps HK.out HFc.out) HN.out (fun h=>HFc.out c h rfl) HV.out HB.out;rw [HD.out] at h1;exact h1
        clear HR HD HD3;go_wp2_with (go_at_call 131;refine HP.out.mono ?_;rintro e w2 ⟨rfl,r2,g2⟩;have cc2:=r2.cell (k:=0) (v:=.bool r) rfl;have G2:=yA g2;clear r2 g2 cc0)
        go_ret
        exact ⟨rfl,(K1.out.trans HK.out (fun q hq e=>by exact J192 _)).trans G2.out (fun q hq e=>by exact J192 _)⟩
def zB3 (e:TypeId) (size:Nat) (w:World) (n:Nat) (cs:List Value) (r:Ending) (w':World):Prop :=
 ∃ ad cap,r=.returned (.slice ad n cap) /\ w'.ownsRow 0 e size (.slice ad n cap) n cs /\ Keeps zA w w' /\ ∀ kb,(Value.slice ad n cap).ownBlock=some kb -> w.heap.size <= kb
def xs (n:Nat):List Value:=List.replicate n (.string xNm)
theorem zN5 (n:Nat):(xs n).length=n:=uJ
theorem zMW (n:Nat):xs n++[.string xNm]=xs (n+1):=by
 unfold xs;rw [<- List.replicate_succ',]
theorem zNZ (n:Nat):∀ u ∈ xs n,u.oneCell'=true:=by
 intro u hu
 obtain ⟨_,rfl⟩:=kU.1 hu;rfl
theorem zFW:(Tryz.prog.info? 9).map (fun i=>(i.zero,i.size,i.bytes))=some (some (.string zu),1,16):=by kernel_rfl
theorem zZ.zAm {w:World} {F:Nat -> Prop} {e:TypeId} {n:Nat} {v:Value} {ad:Option Addr} {cap:Nat} (h:w.ownsRow 0 e 1 v n (xs n)) (hv:v=.slice ad n cap) (hF:∀ kb,v.ownBlock=some kb -> F kb):zZ w F v n:=by
 subst hv;refine ⟨ad,cap,rfl,fun i hi=>?_⟩
 obtain ⟨g,c,hv,_,_⟩:=h.form (by omega);cases hv;refine ⟨g,0,rfl,hF g rfl,?_⟩
 have hr:=uG h;rw [xC];exact hr.cell (k:=i) (v:=.string xNm) (by unfold xs;rw [uE,if_pos hi])
theorem zZ.src {w:World} {F:Nat -> Prop} {ad:Option Addr} {n cap:Nat} (h:zZ w F (.slice ad n cap) n):zl w (.slice ad n cap) n (xs n):=by
 refine ⟨ad,cap,rfl,fun hn=>?_⟩
 obtain ⟨g,o,rfl,_,_⟩:=h.at (i:=0) (by omega);refine ⟨g,o,rfl,fun j u hj=>?_⟩
 unfold xs at hj;rw [uE] at hj;split at hj
 ·rename_i hlt
  cases hj;obtain ⟨g',o',e,_,c⟩:=h.at hlt;cases e;exact c
 ·cases hj
theorem zEJ (n:Nat) (hn:n <= 1000) (w:World):Calls Tryz.prog 93 #[.int .i64 n] w (zB3 9 1 w n (xs n)):=by
 obtain ⟨j0,hj0,hz0,hz1,hz2⟩:=info_parts zFW;go_enter Tryz.func93,Tryz.ntmps93
 go_wp2_with fail
 go_loopw [3,5] (fun ov iv wr=>∃ (i:Nat) (da:Option Addr) (dc:Nat),i <= n /\ iv=.int .i64 i /\ ov=.slice da i dc /\ Hid (wr.ownsRow 0 9 1 (.slice da i dc) i (xs i)) /\ Hid (Keeps zA w wr) /\ Hid (∀ kb,(Value.slice da i dc).ownBlock=some kb -> w.heap.size <= kb)) (fun _ iv _=>n - (intOf iv).toNat)
 case atStart=>exact ⟨0,none,0,yH _,rfl,rfl,xB _ _ _ _,yB _ _,fun kb e=>by exact J153 _⟩
 case round =>
  obtain ⟨i,da,dc,hi,rfl,rfl,HO,HK,HB⟩:=hrel;by_cases hlt:i < n
  ·have i1:(0:Int) <= i:=by omega
   have i2:(i:Int) < n:=by omega
   go_wp2_with (at_builtin;refine zH _ (by rfl) _ _ 147 (by rfl) 0 9 j0 _ 1 16 Tryz.underlying147 hj0 hz0 hz1 hz2 rfl (by decide) (.slice da i dc) i (xs i) (by rfl) (zF HO.out ((yB zA wr).alloc _) (fun _ _ h=>h)) (.slice (some ⟨wr.heap.size,0,none⟩) 1 1) 1 [.string xNm] (by rfl) (xN (yM (yG wr _))) rfl (J150 _) (by unfold maxLen;omega) (by omega) (yH _) ?_;intro da2 dc2 w4 ha;have HA:=yA ha;clear ha)
   go_roundw
   case rel =>
    refine ⟨i+1,da2,dc2,by omega,by go_num,by go_num,?_,?_,?_⟩
    ·have h1:=HA.out.1
     rw [zMW] at h1;exact h1
    ·exact xS HA.out (HK.out.alloc _) (fun q e hq=>by have:=HB.out q e;omega)
    ·show ∀ kb,_ -> _
     intro kb e
     rcases HA.out.2.2 kb e with h1 | h1
     ·exact HB.out kb h1
     ·rw [h1];have:=HK.out.size;simp;omega
   case measure=>simp [intOf];omega
  ·obtain rfl:i=n:=by omega
   go_wp2_with fail
   go_ret
   exact ⟨da,dc,rfl,HO.out,HK.out,HB.out⟩
theorem zLW (w:World) (v:Value) (n:Nat) (h:zl w v n (xs n)) (hb:n <= 1000) :
 Calls Tryz.prog 113 #[v] w (zB3 9 1 w n (xs n)):=by
 obtain ⟨i0,hi0,hz0,hz1,hz2⟩:=info_parts zFW;have HS:=yA h;obtain ⟨ad,cap,rfl,hc⟩:=h
 have h0:ad=none -> n=0:=fun e=>by
  cases n with
  | zero=>rfl
  | succ a=>obtain ⟨g,o,e2,_⟩:=hc (by simp);rw [e] at e2;cases e2
 clear hc;cases ad with
 | none =>
   obtain rfl:=h0 rfl;have hnil:∀ W,(binOp .eql 147 (.slice none 0 cap) (.slice none 0 0)).run Tryz.prog W=.ok (.bool true) W:=fun W=>Lib.run_eql_slice_nil_nil W _ _ Tryz.underlying147
   go_enter Tryz.func113,Tryz.ntmps113
   go_wp2
   go_ret
   exact ⟨none,0,rfl,xB _ _ _ _,yB _ _,fun kb e=>by exact J153 _⟩
 | some a =>
   clear h0;have HL:Hid ((xs n).length=n*1):=by show _=_;rw [zN5,Nat.mul_one]
   have HB:Hid (n <= 1000):=hb;clear hb;have hnil:∀ W,(binOp .eql 147 (.slice (some a) n cap) (.slice none 0 0)).run Tryz.prog W=.ok (.bool false) W:=fun W=>Lib.run_eql_slice_some_nil W _ _ _ Tryz.underlying147
   go_enter Tryz.func113,Tryz.ntmps113
   go_wp2_with (at_builtin;refine zH _ (by rfl) _ _ 147 (by rfl) 0 9 i0 _ 1 16 Tryz.underlying147 hi0 hz0 hz1 hz2 rfl (by decide) (.slice (some ⟨w.heap.size,0,none⟩) 0 0) 0 [] (by rfl) (World.ownsRow_lit w #[] 0 (yH _) (by unfold maxLen;omega) rfl) (.slice (some a) n cap) n (xs n) (by rfl) (HS.out.keeps (S:=zA) ((yB _ _).alloc _) (fun _ _ h=>h)) HL.out (zNZ n) (by have:=HB.out;unfold maxLen;omega) (by have:=HB.out;omega) (yH _) ?_;intro ad' cap' w6 hout;have HO:=yA hout;clear hout)
   go_ret
   have hO:=HO.out;refine ⟨ad',cap',by simp,?_,hO.keeps ((yB _ _).alloc _) (fun k e hlt=>by simp [Value.ownBlock] at e;omega),fun kb e=>?_⟩
   ·have:=hO.1
    rw [xC,List.nil_append] at this;exact this
   ·exact J98 _
theorem zKR (w:World) (g n cap:Nat) (hn:n <= cap) (hm:cap <= maxLen) :
 Calls Tryz.prog 112 #[.slice (some ⟨g,0,none⟩) n cap] w fun e w'=>e=.returned (.slice (some ⟨g,0,none⟩) n n) /\ w'=w:=by
 have h1:(0:Int) <= n:=by omega
 have h2:(n:Int) <= cap:=by omega
 have h3:(cap:Int) <= 9223372036854775807:=by unfold maxLen at hm;omega
 go_enter Tryz.func112,Tryz.ntmps112
 go_wp2
 go_ret
 exact ⟨by simp,rfl⟩
theorem zJw (w:World) :
 Calls Tryz.prog 112 #[.slice none 0 0] w fun e w'=>e=.returned (.slice none 0 0) /\ w'=w:=by
 go_enter Tryz.func112,Tryz.ntmps112
 go_wp2
 go_ret
 exact ⟨by simp,rfl⟩
theorem zLb (w:World) (ad:Option Addr) (n cap:Nat) (cs:List Value) (h:w.ownsRow 0 9 1 (.slice ad n cap) n cs) :
 Calls Tryz.prog 112 #[.slice ad n cap] w fun e w'=>e=.returned (.slice ad n n) /\ w'=w:=by
 rcases h.2 with ⟨e,rfl⟩ | ⟨g,cap',cur,e,_,_,h1,h2,_⟩
 ·cases e;exact zJw w
 ·cases e;exact zKR w g n cap h1 h2
end Go.Proofs.YtfokdllgnblamaaGreatDoor
