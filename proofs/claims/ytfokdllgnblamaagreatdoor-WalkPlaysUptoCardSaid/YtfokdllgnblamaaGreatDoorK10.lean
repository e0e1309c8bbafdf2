/- Layer K: texts joined. -/
import Derived.Test.YtfokdllgnblamaaGreatDoorK09
import Derived.Lib.BufferMore
set_option linter.all false
set_option maxHeartbeats 4000000
set_option maxRecDepth 8000
namespace Go.Proofs.YtfokdllgnblamaaGreatDoor
open Go.RowKit
abbrev kV:=@List.replicate_succ'
abbrev kM:=@List.mem_replicate
abbrev vZ:=@Nat.mul_one
abbrev vR:=@List.getElem?_replicate
abbrev vP:=@Int.lt_or_le
abbrev vL:=@List.length_replicate
theorem J42 (P:Prop) (h:P:=by rintro ⟨ad2,cp2,e,h1⟩;exact ⟨ad2,cp2,e,(h1.keeps hk (fun _ _ h=>h)).mono (fun k hk'=>⟨hk'.1,yI hk'.2 hk.size⟩)⟩):P:=h
theorem J62 (P:Prop) (h:P:=by
 have H4:=yB h4;rw [e4] at hK ⊢;clear h4;clear hd;go_wp2_with fail
 exact hK _ _ ((yC _ _).alloc _) ⟨_,ad2,cp2,rfl,yN (yK W _),(H4.out.keeps ((yC zA W).alloc _) (fun _ _ h=>h)).mono (fun k hk=>⟨hk.1,by have:=hk.2;simp;omega⟩)⟩):P:=h
theorem J124 (P:Prop) (h:P:=by
 rcases hO.2.2 kb (by rw [yZ];exact e) with h1 | h1
 ·simp [Value.ownBlock] at h1;omega
 ·simp at h1;omega):P:=h
theorem J185 (P:Prop) (h:P:=by intro q hq;simp only [xX,kF,or_false] at hq;rcases hq with rfl;rfl):P:=h
theorem J187 (P:Prop) (h:P:=by rw [hb1];exact (yN (yK w _)).alloc _):P:=h
theorem J207 (P:Prop) (h:P:=by rw [hwA];exact (yC _ _).alloc _):P:=h
theorem J210 (P:Prop) (h:P:=by rw [hb5];exact yN (yK wr _)):P:=h
theorem J213 (P:Prop) (h:P:=by rw [hw1];exact (yC _ _).alloc _):P:=h
theorem J231 (P:Prop) (h:P:=by have e':q=c:=e;have:=HCW.out;omega):P:=h
theorem J234 (P:Prop) (h:P:=by have h2:=HKW.out.size;have h3:=HK.out.size;have h4:=HBE.out.1;omega):P:=h
theorem J235 (P:Prop) (h:P:=by have e':q=b5:=e;have:=HNs.out q hq;have:=HS.out.2.2.2.1;omega):P:=h
theorem J239 (P:Prop) (h:P:=by have:=hOB.out q e;have:=HBE.out.1;omega):P:=h
theorem J256 (P:Prop) (h:P:=by rw [hc];exact yN (ze w _ _)):P:=h
def zCQ (w:World) (F:Nat -> Prop) (cs:List Int) (ad:Option Addr):Prop :=
 ∀ i (hi:i < cs.length),∃ g o,ad=some ⟨g,o,none⟩ /\ F g /\ w.cell? ⟨g,o+i*2,none⟩=some (.string xNm) /\ w.cell? ⟨g,o+i*2+1,none⟩=some (.int .i64 cs[i])
theorem zCQ.keeps {S F:Nat -> Prop} {w w':World} {cs:List Int} {ad:Option Addr} (h:zCQ w F cs ad) (hk:Keeps S w w') (hS:∀ k,F k -> ¬ S k):zCQ w' F cs ad:=by
 intro i hi
 obtain ⟨g,o,e,hg,c0,c1⟩:=h i hi;exact ⟨g,o,e,hg,hk.cell (p:=⟨g,_,none⟩) (hS g hg) c0,hk.cell (p:=⟨g,_,none⟩) (hS g hg) c1⟩
theorem zh.at {w:World} {F:Nat -> Prop} {ad:Option Addr} {n cap:Nat} (h:zh w F (.slice ad n cap) n) {i:Nat} (hi:i < n) :
 ∃ g o,ad=some ⟨g,o,none⟩ /\ F g /\ w.cell? ⟨g,o+i,none⟩=some (.string xNm):=by
 obtain ⟨ad',cap',e,h1⟩:=h;have e':ad=ad':=by injection e
 subst e';exact h1 i hi
theorem zHW (cs:List Int) (mn:Nat) (ts:List (List St)) (w:World) (F:Nat -> Prop) (ca ma ta:Option Addr) (cc mc tc:Nat) (hcl:zCQ w F cs ca) (hms:zh w F (.slice ma mn mc) mn) (h:zAw w F xNm ts ta) (hnn:zDN ts) (hF:∀ k,F k -> k < w.heap.size) (hb:zBj ts < 900000000) (hcs:cs.length <= 1000) (hmn:mn <= 1000) :
 Calls Tryz.prog 109 #[.agg #[.slice ca cs.length cc, .slice ma mn mc, .slice ta ts.length tc]] w fun e w'=>e=.returned (.bool (cs.all zCT&&zA0 ts)) /\ Keeps zA w w':=by
 have hmf:∀ (fn:Fn) (first cap:Array Value) (w:World),(Instr.makeFunc fn first cap).run Tryz.prog w=.ok (.func fn first cap) w:=fun _ _ _ _=>rfl
 have HL:=yB h;have HCL:=yB hcl;have HMS:=yB hms;have HF:=yB hF;have HB:=yB hb;have HN:=yB hnn;have hl:ts.length <= 1000:=h.len;obtain ⟨r,hr⟩:=eX (α:=Bool) ((cs.all zCT&&zA0 ts));have HR:=yB hr;rw [<- hr];clear h hcl hms hF hb hr hnn;go_enter Tryz.func109,Tryz.ntmps109
 go_upto_region 2 with fail
 obtain ⟨b1,hb1⟩:=eX w.heap.size;obtain ⟨c,hc⟩:=eX (w.heap.size+1);have hr1:zC ((w.alloc (.cells #[.slice ca cs.length cc, .slice ma mn mc, .slice ta ts.length tc] 150)).alloc (.cells #[.bool true] 4)) b1 [.slice ca cs.length cc, .slice ma mn mc, .slice ta ts.length tc]:=J187 _;have hrc:zC ((w.alloc (.cells #[.slice ca cs.length cc, .slice ma mn mc, .slice ta ts.length tc] 150)).alloc (.cells #[.bool true] 4)) c [.bool true]:=J256 _;have hk1:Keeps zA w ((w.alloc (.cells #[.slice ca cs.length cc, .slice ma mn mc, .slice ta ts.length tc] 150)).alloc (.cells #[.bool true] 4)):=((yC _ _).alloc _).alloc _;have HCW:Hid (w.heap.size <= c):=by show _ <= _;omega
 have HBC:Hid (b1 ≠ c):=by show _ ≠ _;omega
 rw [<- hc,<- hb1];generalize (w.alloc (.cells #[.slice ca cs.length cc, .slice ma mn mc, .slice ta ts.length tc] 150)).alloc (.cells #[.bool true] 4)=w1 at hr1 hrc hk1 ⊢;have HFc:Hid (∀ q,F q -> ¬ (fun q=>q=c) q):=fun q hq e=>by have e':q=c:=e;have:=HF.out q hq;have:=HCW.out;omega
 have CL1:Hid (zCQ w1 F cs ca):=HCL.out.keeps hk1 (fun _ _ h=>h);have MS1:Hid (zh w1 F (.slice ma mn mc) mn):=HMS.out.keeps hk1 (fun _ _ h=>h);have TS1:Hid (zAw w1 F xNm ts ta):=HL.out.keeps hk1 (fun _ _ h=>h);have K1:=yB hk1;have R1:=yB hr1;have RC:=yB hrc;have HLC:Hid (c < w1.heap.size):=hrc.lt (by simp);obtain ⟨d0,d1,d2⟩:=hr1.three;clear hr1 hrc hk1 hb1 hc HCL HMS HL;go_upto_region 3 with fail
 clear d0 d1 d2;go_loopw [13] (fun iv wr=>∃ (i:Nat) (v:Bool),i <= cs.length /\ iv=.int .i64 i /\ Hid (zC wr c [.bool v]) /\ Hid ((v&&((cs.drop i).all zCT&&zA0 ts))=r) /\ Hid (Keeps (fun q=>q=c) w1 wr)) (fun iv _=>cs.length - (intOf iv).toNat)
 case atStart=>exact ⟨0,true,yJ _,rfl,RC,by show _=_;rw [yR,HR.out];simp,yC _ _⟩
 case round =>
  obtain ⟨i,v,hi,rfl,HV,HD,HK⟩:=hrel;by_cases hlt:i < cs.length
  ·have i1:(0:Int) <= i:=by omega
   have i2:(i:Int) < cs.length:=by omega
   have hd:=HD.out;rw [drop_at hlt,List.all_cons] at hd;obtain ⟨g,o,e1,hg,d0,d1⟩:=(CL1.out.keeps HK.out HFc.out) i hlt;subst e1;have hq:zCT cs[i]=(decide (-2147483647 <= cs[i])&&decide (cs[i] <= 2147483647)):=rfl;rw [hq] at hd;have HDD:=yB hd;clear hd hq;generalize cs[i]=x at d1 HDD;go_upto_region 5 with fail
   obtain ⟨b5,hb5⟩:=eX wr.heap.size;have hr5:zC (wr.alloc (.cells #[.string xNm, .int .i64 x] 201)) b5 [.string xNm, .int .i64 x]:=J210 _;have hk5:Keeps zA wr (wr.alloc (.cells #[.string xNm, .int .i64 x] 201)):=(yC _ _).alloc _;have hn5:Hid (b5 ≠ c):=by show _ ≠ _;have:=HLC.out;have:=HK.out.size;omega
   rw [<- hb5];generalize wr.alloc (.cells #[.string xNm, .int .i64 x] 201)=w5 at hr5 hk5 ⊢;have rc:=HV.out.keeps hk5 (fun h=>h);have cc0:=rc.cell (k:=0) (v:=.bool v) rfl;have fc0:=rc.free (k:=0) (by simp);have y0:=hr5.cell (k:=0) (v:=.string xNm) rfl;have y1:=hr5.cell (k:=1) (v:=.int .i64 x) rfl;have K5:=yB hk5;have R5:=yB hr5;have RC5:=yB rc;clear hr5 hk5 hb5 rc d0 d1;cases v
   ·go_wp2_with fail
    go_roundw
    case rel=>exact ⟨i+1,false,by omega,by go_num,RC5.out.set 0 (by simp) _,by show _=_;rw [<- HDD.out];simp,(HK.out.trans K5.out (fun _ _ h=>False.elim h)).setCell (p:=⟨c,0,none⟩) (fun _=>rfl) _⟩
    case measure=>simp [intOf];omega
   ·rcases vP x (-2147483647) with h1 | h1
    ·go_wp2_with (go_at_call 126;refine (zBq xNm (.inl rfl) _).mono ?_;rintro e w2 ⟨rfl,g1⟩;have r2:=RC5.out.keeps g1 (fun h=>h);have cc2:=r2.cell (k:=0) (v:=.bool true) rfl;have fc2:=r2.free (k:=0) (by simp);have y12:=(R5.out.keeps g1 (fun h=>h)).cell (k:=1) (v:=.int .i64 x) rfl;have R2:=yB r2;have G1:=yB g1;clear g1 r2 cc0 fc0 y0 y1)
     go_roundw
     case rel=>exact ⟨i+1,false,by omega,by go_num,R2.out.set 0 (by simp) _,by show _=_;rw [<- HDD.out];have:decide (-2147483647 <= x)=false:=xK (by omega);rw [this];simp,(HK.out.trans (K5.out.zB G1.out) (fun _ _ h=>False.elim h)).setCell (p:=⟨c,0,none⟩) (fun _=>rfl) _⟩
     case measure=>simp [intOf];omega
    ·obtain ⟨z,hz⟩:=eX (decide (x <= 2147483647))
     have HZ:Hid ((z&&((cs.drop (i+1)).all zCT&&zA0 ts))=r):=by
      show _=_
      rw [<- HDD.out,uB h1,hz];simp [Bool.and_assoc]
     have hx:x <= 2147483647 /\ z=true \/ ¬ x <= 2147483647 /\ z=false:=by
      by_cases h:x <= 2147483647
      ·exact .inl ⟨h,by rw [hz];simp [h]⟩
      ·exact .inr ⟨h,by rw [hz];simp [h]⟩
     clear hz;rcases hx with ⟨h2,rfl⟩ | ⟨h2,rfl⟩
     ·go_wp2_with (go_at_call 126;refine (zBq xNm (.inl rfl) _).mono ?_;rintro e w2 ⟨rfl,g1⟩;have r2:=RC5.out.keeps g1 (fun h=>h);have cc2:=r2.cell (k:=0) (v:=.bool true) rfl;have fc2:=r2.free (k:=0) (by simp);have y12:=(R5.out.keeps g1 (fun h=>h)).cell (k:=1) (v:=.int .i64 x) rfl;have R2:=yB r2;have G1:=yB g1;clear g1 r2 cc0 fc0 y0 y1)
      go_roundw
      case rel=>exact ⟨i+1,true,by omega,by go_num,R2.out.set 0 (by simp) _,HZ,(HK.out.trans (K5.out.zB G1.out) (fun _ _ h=>False.elim h)).setCell (p:=⟨c,0,none⟩) (fun _=>rfl) _⟩
      case measure=>simp [intOf];omega
     ·go_wp2_with (go_at_call 126;refine (zBq xNm (.inl rfl) _).mono ?_;rintro e w2 ⟨rfl,g1⟩;have r2:=RC5.out.keeps g1 (fun h=>h);have cc2:=r2.cell (k:=0) (v:=.bool true) rfl;have fc2:=r2.free (k:=0) (by simp);have y12:=(R5.out.keeps g1 (fun h=>h)).cell (k:=1) (v:=.int .i64 x) rfl;have R2:=yB r2;have G1:=yB g1;clear g1 r2 cc0 fc0 y0 y1)
      go_roundw
      case rel =>
       have h3:decide (x <= 2147483647)=false:=xK (by omega);rw [h3];exact ⟨i+1,false,by omega,by go_num,R2.out.set 0 (by simp) _,HZ,(HK.out.trans (K5.out.zB G1.out) (fun _ _ h=>False.elim h)).setCell (p:=⟨c,0,none⟩) (fun _=>rfl) _⟩
      case measure=>simp [intOf];omega
  ·obtain rfl:i=cs.length:=by omega
   have hd:=HD.out;rw [xO,List.all_nil,Bool.true_and] at hd;have HD2:=yB hd;clear hd HD;obtain ⟨d0,d1,d2⟩:=(R1.out.keeps HK.out (fun e=>HBC.out e)).three;have CLX:=CL1;clear CL1;go_upto_region 8 with fail
   clear d0 d1 d2;go_loopw [37] (fun iv ws=>∃ (j:Nat) (v:Bool),j <= mn /\ iv=.int .i64 j /\ Hid (zC ws c [.bool v]) /\ Hid ((v&&zA0 ts)=r) /\ Hid (Keeps (fun q=>q=c) w1 ws)) (fun iv _=>mn - (intOf iv).toNat)
   case atStart=>exact ⟨0,v,yJ _,rfl,HV,HD2,HK⟩
   case round =>
    clear HV HD2 HK hi;clear v;obtain ⟨j,v,hj,rfl,HV,HD,HK⟩:=hrel;by_cases hlt:j < mn
    ·have i1:(0:Int) <= j:=by omega
     have i2:(j:Int) < mn:=by omega
     obtain ⟨g,o,e1,hg,d0⟩:=(MS1.out.keeps HK.out HFc.out).at hlt;subst e1;have cc0:=HV.out.cell (k:=0) (v:=.bool v) rfl;have fc0:=HV.out.free (k:=0) (by simp);cases v
     ·go_wp2_with fail
      go_roundw
      case rel=>exact ⟨j+1,false,by omega,by go_num,HV.out.set 0 (by simp) _,HD,HK.out.setCell (p:=⟨c,0,none⟩) (fun _=>rfl) _⟩
      case measure=>simp [intOf];omega
     ·go_wp2_with (go_at_call 126;refine (zBq xNm (.inl rfl) _).mono ?_;rintro e w2 ⟨rfl,g1⟩;have r2:=HV.out.keeps g1 (fun h=>h);have cc2:=r2.cell (k:=0) (v:=.bool true) rfl;have fc2:=r2.free (k:=0) (by simp);have R2:=yB r2;have G1:=yB g1;clear g1 r2 cc0 fc0 d0)
      go_roundw
      case rel=>exact ⟨j+1,true,by omega,by go_num,R2.out.set 0 (by simp) _,HD,(HK.out.trans G1.out (fun _ _ h=>False.elim h)).setCell (p:=⟨c,0,none⟩) (fun _=>rfl) _⟩
      case measure=>simp [intOf];omega
    ·obtain rfl:j=mn:=by omega
     obtain ⟨d0,d1,d2⟩:=(R1.out.keeps HK.out (fun e=>HBC.out e)).three;go_upto_region 13 with fail
     clear d0 d1 d2;go_loopw [50] (fun iv ws=>∃ (j:Nat) (v:Bool),j <= ts.length /\ iv=.int .i64 j /\ Hid (zC ws c [.bool v]) /\ Hid ((v&&zA0 ts)=r) /\ Hid (Keeps (fun q=>q=c) w1 ws)) (fun iv _=>ts.length - (intOf iv).toNat)
     case atStart=>exact ⟨0,v,yJ _,rfl,HV,HD,HK⟩
     case round =>
      clear HV HD HK hj;clear v;obtain ⟨j,v,hj,rfl,HV,HD,HK⟩:=hrel;by_cases hlt:j < ts.length
      ·have i1:(0:Int) <= j:=by omega
       have i2:(j:Int) < ts.length:=by omega
       obtain ⟨g,o,ba,bc,e1,hg,d0,d1,_⟩:=(TS1.out.keeps HK.out HFc.out).at hlt;subst e1;generalize ts[j].length=x1 at d1;go_upto_region 15 with fail
       obtain ⟨b5,hb5⟩:=eX wr.heap.size;have hr5:zC (wr.alloc (.cells #[.string xNm, .slice ba x1 bc] 155)) b5 [.string xNm, .slice ba x1 bc]:=J210 _;have hk5:Keeps zA wr (wr.alloc (.cells #[.string xNm, .slice ba x1 bc] 155)):=(yC _ _).alloc _;rw [<- hb5];generalize wr.alloc (.cells #[.string xNm, .slice ba x1 bc] 155)=w5 at hr5 hk5 ⊢;have rc:=HV.out.keeps hk5 (fun h=>h);have cc0:=rc.cell (k:=0) (v:=.bool v) rfl;have fc0:=rc.free (k:=0) (by simp);have y0:=hr5.cell (k:=0) (v:=.string xNm) rfl;have K5:=yB hk5;have RC5:=yB rc;clear hr5 hk5 hb5 rc d0 d1;cases v
       ·go_wp2_with fail
        go_roundw
        case rel=>exact ⟨j+1,false,by omega,by go_num,RC5.out.set 0 (by simp) _,HD,(HK.out.trans K5.out (fun _ _ h=>False.elim h)).setCell (p:=⟨c,0,none⟩) (fun _=>rfl) _⟩
        case measure=>simp [intOf];omega
       ·go_wp2_with (go_at_call 126;refine (zBq xNm (.inl rfl) _).mono ?_;rintro e w2 ⟨rfl,g1⟩;have r2:=RC5.out.keeps g1 (fun h=>h);have cc2:=r2.cell (k:=0) (v:=.bool true) rfl;have fc2:=r2.free (k:=0) (by simp);have R2:=yB r2;have G1:=yB g1;clear g1 r2 cc0 fc0 y0)
        go_roundw
        case rel=>exact ⟨j+1,true,by omega,by go_num,R2.out.set 0 (by simp) _,HD,(HK.out.trans (K5.out.zB G1.out) (fun _ _ h=>False.elim h)).setCell (p:=⟨c,0,none⟩) (fun _=>rfl) _⟩
        case measure=>simp [intOf];omega
      ·obtain rfl:j=ts.length:=by omega
       have cc0:=HV.out.cell (k:=0) (v:=.bool v) rfl;have HD3:=HD;cases v
       ·have hr0:false=r:=by rw [<- HD.out];rfl
        clear HR HD HD3;subst hr0;go_wp2_with fail
        go_ret
        exact ⟨rfl,K1.out.trans HK.out (fun q hq e=>by exact J231 _)⟩
       ·obtain ⟨d0,d1,d2⟩:=(R1.out.keeps HK.out (fun e=>HBC.out e)).three
        have HP:Hid (Calls Tryz.prog 131 #[.agg #[.func (.func 127) #[] #[.pointer (some ⟨c,0,none⟩)], .func (.func 129) #[] #[.pointer (some ⟨c,0,none⟩)]], .agg #[.slice ca cs.length cc, .slice ma j mc, .slice ta ts.length tc]] wr fun e w'=>e=.returned (.tuple #[]) /\ zC w' c [.bool r] /\ Keeps (fun q=>q=c) wr w'):=by
         have h1:=zJ5 xNm ts wr F ca ma ta cs.length cc j mc tc c true (TS1.out.keeps HK.out HFc.out) HN.out (fun h=>HFc.out c h rfl) HV.out HB.out;rw [HD.out] at h1;exact h1
        clear HR HD HD3;go_wp2_with (go_at_call 131;refine HP.out.mono ?_;rintro e w2 ⟨rfl,r2,g2⟩;have cc2:=r2.cell (k:=0) (v:=.bool r) rfl;have G2:=yB g2;clear r2 g2 cc0)
        go_ret
        exact ⟨rfl,(K1.out.trans HK.out (fun q hq e=>by exact J231 _)).trans G2.out (fun q hq e=>by exact J231 _)⟩
def zBk (e:TypeId) (size:Nat) (w:World) (n:Nat) (cs:List Value) (r:Ending) (w':World):Prop :=
 ∃ ad cap,r=.returned (.slice ad n cap) /\ w'.ownsRow 0 e size (.slice ad n cap) n cs /\ Keeps zA w w' /\ ∀ kb,(Value.slice ad n cap).ownBlock=some kb -> w.heap.size <= kb
def xs (n:Nat):List Value:=List.replicate n (.string xNm)
theorem zN7 (n:Nat):(xs n).length=n:=vL
theorem zNJ (n:Nat):xs n++[.string xNm]=xs (n+1):=by
 unfold xs;rw [<- kV,]
theorem zOH (n:Nat):∀ u ∈ xs n,u.oneCell'=true:=by
 intro u hu
 obtain ⟨_,rfl⟩:=kM.1 hu;rfl
theorem zF4:(Tryz.prog.info? 9).map (fun i=>(i.zero,i.size,i.bytes))=some (some (.string zq),1,16):=by kernel_rfl
theorem zh.zAj {w:World} {F:Nat -> Prop} {e:TypeId} {n:Nat} {v:Value} {ad:Option Addr} {cap:Nat} (h:w.ownsRow 0 e 1 v n (xs n)) (hv:v=.slice ad n cap) (hF:∀ kb,v.ownBlock=some kb -> F kb):zh w F v n:=by
 subst hv;refine ⟨ad,cap,rfl,fun i hi=>?_⟩
 obtain ⟨g,c,hv,_,_⟩:=h.form (by omega);cases hv;refine ⟨g,0,rfl,hF g rfl,?_⟩
 have hr:=uC h;rw [yZ];exact hr.cell (k:=i) (v:=.string xNm) (by unfold xs;rw [vR,if_pos hi])
theorem zh.src {w:World} {F:Nat -> Prop} {ad:Option Addr} {n cap:Nat} (h:zh w F (.slice ad n cap) n):zAD w (.slice ad n cap) n (xs n):=by
 refine ⟨ad,cap,rfl,fun hn=>?_⟩
 obtain ⟨g,o,rfl,_,_⟩:=h.at (i:=0) (by omega);refine ⟨g,o,rfl,fun j u hj=>?_⟩
 unfold xs at hj;rw [vR] at hj;split at hj
 ·rename_i hlt
  cases hj;obtain ⟨g',o',e,_,c⟩:=h.at hlt;cases e;exact c
 ·cases hj
theorem zEa (n:Nat) (hn:n <= 1000) (w:World):Calls Tryz.prog 93 #[.int .i64 n] w (zBk 9 1 w n (xs n)):=by
 obtain ⟨j0,hj0,hz0,hz1,hz2⟩:=info_parts zF4;go_enter Tryz.func93,Tryz.ntmps93
 go_wp2_with fail
 go_loopw [3,5] (fun ov iv wr=>∃ (i:Nat) (da:Option Addr) (dc:Nat),i <= n /\ iv=.int .i64 i /\ ov=.slice da i dc /\ Hid (wr.ownsRow 0 9 1 (.slice da i dc) i (xs i)) /\ Hid (Keeps zA w wr) /\ Hid (∀ kb,(Value.slice da i dc).ownBlock=some kb -> w.heap.size <= kb)) (fun _ iv _=>n - (intOf iv).toNat)
 case atStart=>exact ⟨0,none,0,yJ _,rfl,rfl,xJ _ _ _ _,yC _ _,fun kb e=>by exact J190 _⟩
 case round =>
  obtain ⟨i,da,dc,hi,rfl,rfl,HO,HK,HB⟩:=hrel;by_cases hlt:i < n
  ·have i1:(0:Int) <= i:=by omega
   have i2:(i:Int) < n:=by omega
   go_wp2_with (at_builtin;refine zI _ (by rfl) _ _ 147 (by rfl) 0 9 j0 _ 1 16 Tryz.underlying147 hj0 hz0 hz1 hz2 rfl (by decide) (.slice da i dc) i (xs i) (by rfl) (zG HO.out ((yC zA wr).alloc _) (fun _ _ h=>h)) (.slice (some ⟨wr.heap.size,0,none⟩) 1 1) 1 [.string xNm] (by rfl) (xN (yN (yK wr _))) rfl (J185 _) (by unfold maxLen;omega) (by omega) (yJ _) ?_;intro da2 dc2 w4 ha;have HA:=yB ha;clear ha)
   go_roundw
   case rel =>
    refine ⟨i+1,da2,dc2,by omega,by go_num,by go_num,?_,?_,?_⟩
    ·have h1:=HA.out.1
     rw [zNJ] at h1;exact h1
    ·exact xV HA.out (HK.out.alloc _) (fun q e hq=>by have:=HB.out q e;omega)
    ·show ∀ kb,_ -> _
     intro kb e
     rcases HA.out.2.2 kb e with h1 | h1
     ·exact HB.out kb h1
     ·rw [h1];have:=HK.out.size;simp;omega
   case measure=>simp [intOf];omega
  ·obtain rfl:i=n:=by omega
   go_wp2_with fail
   go_ret
   exact ⟨da,dc,rfl,HO.out,HK.out,HB.out⟩
theorem zME (w:World) (v:Value) (n:Nat) (h:zAD w v n (xs n)) (hb:n <= 1000) :
 Calls Tryz.prog 113 #[v] w (zBk 9 1 w n (xs n)):=by
 obtain ⟨i0,hi0,hz0,hz1,hz2⟩:=info_parts zF4;have HS:=yB h;obtain ⟨ad,cap,rfl,hc⟩:=h
 have h0:ad=none -> n=0:=fun e=>by
  cases n with
  | zero=>rfl
  | succ a=>obtain ⟨g,o,e2,_⟩:=hc (by simp);rw [e] at e2;cases e2
 clear hc;cases ad with
 | none =>
   obtain rfl:=h0 rfl;have hnil:∀ W,(binOp .eql 147 (.slice none 0 cap) (.slice none 0 0)).run Tryz.prog W=.ok (.bool true) W:=fun W=>Lib.run_eql_slice_nil_nil W _ _ Tryz.underlying147
   go_enter Tryz.func113,Tryz.ntmps113
   go_wp2
   go_ret
   exact ⟨none,0,rfl,xJ _ _ _ _,yC _ _,fun kb e=>by exact J190 _⟩
 | some a =>
   clear h0;have HL:Hid ((xs n).length=n*1):=by show _=_;rw [zN7,vZ]
   have HB:Hid (n <= 1000):=hb;clear hb;have hnil:∀ W,(binOp .eql 147 (.slice (some a) n cap) (.slice none 0 0)).run Tryz.prog W=.ok (.bool false) W:=fun W=>Lib.run_eql_slice_some_nil W _ _ _ Tryz.underlying147
   go_enter Tryz.func113,Tryz.ntmps113
   go_wp2_with (at_builtin;refine zI _ (by rfl) _ _ 147 (by rfl) 0 9 i0 _ 1 16 Tryz.underlying147 hi0 hz0 hz1 hz2 rfl (by decide) (.slice (some ⟨w.heap.size,0,none⟩) 0 0) 0 [] (by rfl) (World.ownsRow_lit w #[] 0 (yJ _) (by unfold maxLen;omega) rfl) (.slice (some a) n cap) n (xs n) (by rfl) (HS.out.keeps (S:=zA) ((yC _ _).alloc _) (fun _ _ h=>h)) HL.out (zOH n) (by have:=HB.out;unfold maxLen;omega) (by have:=HB.out;omega) (yJ _) ?_;intro ad' cap' w6 hout;have HO:=yB hout;clear hout)
   go_ret
   have hO:=HO.out;refine ⟨ad',cap',by simp,?_,hO.keeps ((yC _ _).alloc _) (fun k e hlt=>by simp [Value.ownBlock] at e;omega),fun kb e=>?_⟩
   ·have:=hO.1
    rw [yZ,List.nil_append] at this;exact this
   ·exact J124 _
theorem zKF (w:World) (g n cap:Nat) (hn:n <= cap) (hm:cap <= maxLen) :
 Calls Tryz.prog 112 #[.slice (some ⟨g,0,none⟩) n cap] w fun e w'=>e=.returned (.slice (some ⟨g,0,none⟩) n n) /\ w'=w:=by
 have h1:(0:Int) <= n:=by omega
 have h2:(n:Int) <= cap:=by omega
 have h3:(cap:Int) <= 9223372036854775807:=by unfold maxLen at hm;omega
 go_enter Tryz.func112,Tryz.ntmps112
 go_wp2
 go_ret
 exact ⟨by simp,rfl⟩
theorem zJ0 (w:World) :
 Calls Tryz.prog 112 #[.slice none 0 0] w fun e w'=>e=.returned (.slice none 0 0) /\ w'=w:=by
 go_enter Tryz.func112,Tryz.ntmps112
 go_wp2
 go_ret
 exact ⟨by simp,rfl⟩
theorem zLF (w:World) (ad:Option Addr) (n cap:Nat) (cs:List Value) (h:w.ownsRow 0 9 1 (.slice ad n cap) n cs) :
 Calls Tryz.prog 112 #[.slice ad n cap] w fun e w'=>e=.returned (.slice ad n n) /\ w'=w:=by
 rcases h.2 with ⟨e,rfl⟩ | ⟨g,cap',cur,e,_,_,h1,h2,_⟩
 ·cases e;exact zJ0 w
 ·cases e;exact zKF w g n cap h1 h2
theorem zF8:(Tryz.prog.info? 65).map (fun i=>(i.zero,i.size,i.bytes))=some (some (.agg #[.int .i64 0, .int .i64 0, .string zq, .slice none 0 0]),4,56):=by kernel_rfl
theorem Ex.zBr (regs:Int) (l:List Ex):(Ex.zT regs l).length=l.length:=by rw [Ex.zAo];simp
theorem Ex.zLh (regs k num:Int) (nm:ByteArray) (l:List Ex):Ex.named regs (.mk k num nm l)=.mk k (if k=2 then 0 else num) (if k=2 then (if zZ nm then nameAt regs num else zq) else nm) (Ex.zT regs l):=by simp only [Ex.named]
def Since (B:Nat) (w:World) (k:Nat):Prop:=B <= k /\ k < w.heap.size
def zLj (x:Ex):Prop:=∀ (w:World) (F N:Nat -> Prop) (ad a0 a1 a2 a3:Option Addr) (cap n0 n1 n2 n3 c0 c1 c2 c3:Nat),zN w F x.args ad -> zh w N (.slice a3 n3 c3) n3 -> (∀ k,N k -> k < w.heap.size) -> (∀ k,F k -> k < w.heap.size) -> x.cnt < 1000000000 →
 Calls Tryz.prog 136 #[.agg #[.slice a0 n0 c0, .slice a1 n1 c1, .slice a2 n2 c2, .slice a3 n3 c3],exV x ad cap] w fun e w'=>∃ ad' cap',e=.returned (exV (x.named n3) ad' cap') /\ zN w' (Since w.heap.size w') (x.named n3).args ad' /\ Keeps zA w w'
theorem zLV (k num:Int) (nm:ByteArray) (l:List Ex) (ih:∀ y,y ∈ l -> zLj y):zLj (.mk k num nm l):=by
 intro w F N ad a0 a1 a2 a3 cap n0 n1 n2 n3 c0 c1 c2 c3 h hn hNs hFs hb
 have HNs:=yB hNs;have HFs:=yB hFs;have HL:Hid (zN w F l ad):=h;have HN:=yB hn;have IH:=yB ih;have hl:=Ex.zAp l;have hcn:Ex.cnt (.mk k num nm l)=1+Ex.zW l:=by simp [Ex.cnt]
 rw [hcn] at hb;have hb2:l.length < 1000000000:=by omega
 have HB2:=yB hb;obtain ⟨num',hnum⟩:=eX ((if k=2 then 0 else num));obtain ⟨nm',hnm⟩:=eX ((if k=2 then (if zZ nm then nameAt n3 num else zq) else nm));have hnamed:Ex.named n3 (.mk k num nm l)=.mk k num' nm' (Ex.zT n3 l):=by rw [Ex.zLh,hnum,hnm]
 have HNM:=yB hnamed;obtain ⟨j0,hj0,hz0,hz1,hz2⟩:=info_parts zF8
 have HP:Hid (∀ (ad':Option Addr) (cap':Nat) (w':World),zN w' (Since w.heap.size w') (Ex.zT n3 l) ad' -> Keeps zA w w' →
  ∃ ad'' cap'',Ending.returned (.agg #[.int .i64 k, .int .i64 num', .string nm', .slice ad' l.length cap'])=.returned (exV (Ex.named n3 (.mk k num nm l)) ad'' cap'') /\ zN w' (Since w.heap.size w') (Ex.named n3 (.mk k num nm l)).args ad'' /\ Keeps zA w w'):=by
  intro ad' cap' w' h1 h2
  rw [hnamed];refine ⟨ad',cap',?_,h1,h2⟩
  show _=Ending.returned (.agg #[.int .i64 k, .int .i64 num', .string nm', .slice ad' (Ex.zT n3 l).length cap'])
  rw [Ex.zBr]
 obtain ⟨Q,hQ⟩:=eX (α:=Ending -> World -> Prop) (fun e w'=>∃ ad' cap',e=.returned (exV (Ex.named n3 (.mk k num nm l)) ad' cap') /\ zN w' (Since w.heap.size w') (Ex.named n3 (.mk k num nm l)).args ad' /\ Keeps zA w w');rw [<- hQ]
 have HPQ:Hid (∀ (ad':Option Addr) (cap':Nat) (w':World),zN w' (Since w.heap.size w') (Ex.zT n3 l) ad' -> Keeps zA w w' -> Q (Ending.returned (.agg #[.int .i64 k, .int .i64 num', .string nm', .slice ad' l.length cap'])) w'):=by
  rw [hQ];exact HP.out
 clear h hn hNs hFs ih hl hcn hb hnamed HP HNM hQ;show Calls _ _ #[_, .agg #[.int .i64 k, .int .i64 num, .string nm, .slice ad l.length cap]] _ _
 go_enter Tryz.func136,Tryz.ntmps136
 go_upto_region 2 with fail
 obtain ⟨b1,hb1⟩:=eX w.heap.size;obtain ⟨b2,hb2'⟩:=eX (w.heap.size+1);obtain ⟨b4,hb4⟩:=eX (w.heap.size+1+1);obtain ⟨b5,hb5⟩:=eX (w.heap.size+1+1+1);rw [<- hb5,<- hb4,<- hb2',<- hb1];obtain ⟨wA,hwA⟩:=eX (w.alloc (.cells #[.slice a0 n0 c0, .slice a1 n1 c1, .slice a2 n2 c2, .slice a3 n3 c3] 204));obtain ⟨wB,hwB⟩:=eX (wA.alloc (.cells #[.int .i64 k, .int .i64 num, .string nm, .slice ad l.length cap] 65));obtain ⟨wC,hwC⟩:∃ z,z=wB.alloc (.cells #[.int .i64 0, .int .i64 0, .string { data:=#[] }, .slice none 0 0] 65):=⟨_,rfl⟩
 obtain ⟨w1,hw1⟩:=eX (wC.alloc (.cells #[.int .i64 k, .int .i64 num, .string nm, .slice none 0 0] 65));rw [<- hwA,<- hwB,<- hwC,<- hw1];have kA:Keeps zA w wA:=J207 _;have kB:Keeps zA wA wB:=by rw [hwB];exact (yC _ _).alloc _
 have kC:Keeps zA wB wC:=by rw [hwC];exact (yC _ _).alloc _
 have k1:Keeps zA wC w1:=J213 _;have sA:wA.heap.size=w.heap.size+1:=by rw [hwA];simp
 have sB:wB.heap.size=w.heap.size+1+1:=by rw [hwB];simp [sA]
 have sC:wC.heap.size=w.heap.size+1+1+1:=by rw [hwC];simp [sB]
 have s1:w1.heap.size=w.heap.size+1+1+1+1:=by rw [hw1];simp [sC]
 have r1:zC wA b1 [.slice a0 n0 c0, .slice a1 n1 c1, .slice a2 n2 c2, .slice a3 n3 c3]:=by rw [hb1,hwA];exact yN (yK w _)
 have r2:zC wB b2 [.int .i64 k, .int .i64 num, .string nm, .slice ad l.length cap]:=by rw [hb2',<- sA,hwB];exact yN (yK wA _)
 have r4:zC wC b4 [.int .i64 0, .int .i64 0, .string { data:=#[] }, .slice none 0 0]:=by rw [hb4,<- sB,hwC];exact yN (yK wB _)
 have r5:zC w1 b5 [.int .i64 k, .int .i64 num, .string nm, .slice none 0 0]:=by rw [hb5,<- sC,hw1];exact yN (yK wC _)
 have R1:Hid (zC w1 b1 [.slice a0 n0 c0, .slice a1 n1 c1, .slice a2 n2 c2, .slice a3 n3 c3]):=r1.keeps (kB.zB (kC.zB k1)) (fun h=>h);have R2:Hid (zC w1 b2 [.int .i64 k, .int .i64 num, .string nm, .slice ad l.length cap]):=r2.keeps (kC.zB k1) (fun h=>h);have R4:Hid (zC w1 b4 [.int .i64 0, .int .i64 0, .string { data:=#[] }, .slice none 0 0]):=r4.keeps k1 (fun h=>h);have R5:=yB r5;have K1:Hid (Keeps zA w w1):=kA.zB (kB.zB (kC.zB k1));have HS:Hid (w.heap.size <= b1 /\ w.heap.size <= b2 /\ w.heap.size <= b4 /\ w.heap.size <= b5 /\ b1 < w1.heap.size /\ b2 < w1.heap.size /\ b4 < w1.heap.size /\ b5 < w1.heap.size /\ b1 ≠ b5 /\ b2 ≠ b5 /\ b4 ≠ b5):=⟨by omega,by omega,by omega,by omega,by omega,by omega,by omega,by omega,by omega,by omega,by omega⟩;clear hwA hwB hwC hw1 kA kB kC k1 sA sB sC s1 r1 r2 r4 r5 hb1 hb2' hb4 hb5;obtain ⟨x10,x11,x12,x13⟩:=R1.out.four;obtain ⟨x20,x21,x22,x23⟩:=R2.out.four;obtain ⟨x50,x51,x52,x53⟩:=R5.out.four;have f51:=R5.out.free (k:=1) (by simp);have f52:=R5.out.free (k:=2) (by simp);have ne1:b1 ≠ b5:=HS.out.2.2.2.2.2.2.2.2.1;have ne2:b2 ≠ b5:=HS.out.2.2.2.2.2.2.2.2.2.1;have ne4:b4 ≠ b5:=HS.out.2.2.2.2.2.2.2.2.2.2;have HNN:Hid (zh w1 N (.slice a3 n3 c3) n3):=HN.out.keeps K1.out (fun _ _ h=>h)
 have HNC:Hid (∀ W,Keeps (fun q=>q=b5) w1 W -> Calls Tryz.prog 138 #[.slice a3 n3 c3, .int .i64 num] W fun e w'=>e=.returned (.string (nameAt n3 num)) /\ Keeps zA W w') :=
  fun W hk=>zF0 _ n3 num W (HNN.out.keeps hk (fun q hq e=>by exact J235 _))
 have key:∃ nm'' num'',nm''=nm' /\ num''=num':=⟨_,_,rfl,rfl⟩
 rcases (show ¬ k=2 \/ (k=2 /\ zZ nm=true) \/ (k=2 /\ zZ nm=false) by cases zZ nm <;> simp <;> omega) with hk2 | ⟨hk2,hnn⟩ | ⟨hk2,hnn⟩
 case' inl =>
  rw [if_neg hk2] at hnum hnm;subst hnum hnm;go_upto_region 7 with fail
  obtain ⟨w5,hw5⟩:=eX w1;have HW5:Hid (Keeps (fun q=>q=b5) w1 w5):=by show Keeps _ _ _;rw [hw5];exact yC _ _
  have RW5:Hid (zC w5 b5 [.int .i64 k, .int .i64 num', .string nm', .slice none 0 0]):=by show zC _ _ _;rw [hw5];exact R5.out
  rw [<- hw5];clear hw5
 case' inr.inl =>
  rw [if_pos hk2] at hnum hnm;rw [if_pos hnn] at hnm;have hs1:=zBK hnn;subst hnum hnm hk2;have K51:Hid (Keeps (fun q=>q=b5) w1 (w1.setCell ⟨b5,1,none⟩ (.int .i64 0))):=(yC (fun q=>q=b5) w1).setCell (p:=⟨b5,1,none⟩) (fun _=>rfl) _;go_upto_region 7 with (go_at_call 138;refine (HNC.out _ K51.out).mono ?_;rintro e w2 ⟨rfl,g0⟩;have g:=K51.out.trans g0 (fun _ _ h=>False.elim h);have r0:=(R5.out.set 1 (by simp) (.int .i64 0)).keeps g0 (fun h=>h);have y2:=r0.cell (k:=2) (v:=.string nm) rfl;have z2:=r0.free (k:=2) (by simp);have G:=yB g;have RR:=yB r0;clear g g0 r0)
  have HW5:Hid (Keeps (fun q=>q=b5) w1 (w2.setCell ⟨b5,2,none⟩ (.string (nameAt n3 num)))):=G.out.setCell (p:=⟨b5,2,none⟩) (fun _=>rfl) _;have RW5:Hid (zC (w2.setCell ⟨b5,2,none⟩ (.string (nameAt n3 num))) b5 [.int .i64 2, .int .i64 0, .string (nameAt n3 num), .slice none 0 0]):=RR.out.set 2 (by simp) _;generalize w2.setCell ⟨b5,2,none⟩ (.string (nameAt n3 num))=w5 at HW5 RW5 ⊢;generalize nameAt n3 num=nm' at RW5 HPQ ⊢;clear y2 z2 G RR
 case' inr.inr =>
  rw [if_pos hk2] at hnum hnm;rw [if_neg (by rw [hnn];simp)] at hnm;have hs1:=zBI hnn;have hs2:=zBB hnn;subst hnum hnm hk2;go_upto_region 7 with fail
  have HW5:Hid (Keeps (fun q=>q=b5) w1 ((w1.setCell ⟨b5,1,none⟩ (.int .i64 0)).setCell ⟨b5,2,none⟩ (.string { data:=#[] }))):=((yC (fun q=>q=b5) w1).setCell (p:=⟨b5,1,none⟩) (fun _=>rfl) _).setCell (p:=⟨b5,2,none⟩) (fun _=>rfl) _;have RW5:Hid (zC ((w1.setCell ⟨b5,1,none⟩ (.int .i64 0)).setCell ⟨b5,2,none⟩ (.string { data:=#[] })) b5 [.int .i64 2, .int .i64 0,(.string { data:=#[] }), .slice none 0 0]):=(R5.out.set 1 (by simp) _).set 2 (by simp) _;generalize (w1.setCell ⟨b5,1,none⟩ (.int .i64 0)).setCell ⟨b5,2,none⟩ (.string { data:=#[] })=w5 at HW5 RW5 ⊢;have RW6:Hid (zC w5 b5 [.int .i64 2, .int .i64 0, .string zq, .slice none 0 0]):=RW5;clear RW5;have RW5:=RW6;clear RW6
 all_goals (
  have T:∃ kk nn mm,Hid (zC w5 b5 [.int .i64 kk, .int .i64 nn, .string mm, .slice none 0 0]) /\ Hid (∀ (ad':Option Addr) (cap':Nat) (w':World),zN w' (Since w.heap.size w') (Ex.zT n3 l) ad' -> Keeps zA w w' -> Q (Ending.returned (.agg #[.int .i64 kk, .int .i64 nn, .string mm, .slice ad' l.length cap'])) w'):=⟨_,_,_,RW5,HPQ⟩
  obtain ⟨kk,nn,mm,RX,HPX⟩:=T;have R1X:Hid (zC w5 b1 [.slice a0 n0 c0, .slice a1 n1 c1, .slice a2 n2 c2, .slice a3 n3 c3]):=R1.out.keeps HW5.out (fun e=>ne1 e);have R2X:∃ k0 m0 s0,Hid (zC w5 b2 [.int .i64 k0, .int .i64 m0, .string s0, .slice ad l.length cap]):=⟨_,_,_,R2.out.keeps HW5.out (fun e=>ne2 e)⟩
  obtain ⟨k0,m0,s0,R2X⟩:=R2X;have R4X:Hid (zC w5 b4 [.int .i64 0, .int .i64 0, .string { data:=#[] }, .slice none 0 0]):=R4.out.keeps HW5.out (fun e=>ne4 e);have hFb:Hid (∀ q,F q -> ¬ (fun q=>q=b5) q):=fun q hq e=>by have e':q=b5:=e;have:=HFs.out q hq;have:=HS.out.2.2.2.1;omega
  have hNb:Hid (∀ q,N q -> ¬ (fun q=>q=b5) q):=fun q hq e=>by exact J235 _
  have HL5:Hid (zN w5 F l ad):=((HL.out.keeps K1.out (fun _ _ h=>h)):zN w1 F l ad).keeps HW5.out hFb.out;have HN5:Hid (zh w5 N (.slice a3 n3 c3) n3):=HNN.out.keeps HW5.out hNb.out;have hS5:=HW5.out.size;have K5:Hid (Keeps zA w w5):=K1.out.trans HW5.out (fun q hq e=>by have e':q=b5:=e;have:=HS.out.2.2.2.1;omega);obtain ⟨B,hB⟩:=eX w5.heap.size;have HBE:Hid (B=w5.heap.size /\ b1 < B /\ b2 < B /\ b4 < B /\ b5 < B /\ w.heap.size <= B):=⟨hB,by have:=HS.out;omega,by have:=HS.out;omega,by have:=HS.out;omega,by have:=HS.out;omega,by have:=K5.out.size;omega⟩;have z23:=R2X.out.cell (k:=3) (v:=.slice ad l.length cap) rfl;clear hS5 hB RW5 HPQ HNC HW5 R1 R2 R4 R5 HNN x10 x11 x12 x13 x20 x21 x22 x23 x50 x51 x52 x53 f51 f52 key K1 HL HN;go_wp2_with fail
  go_loopw [32] (fun iv wr=>∃ (i:Nat) (da:Option Addr) (dc:Nat) (css:List (List Value)),i <= l.length /\ iv=.int .i64 i /\ Hid (zC wr b5 [.int .i64 kk, .int .i64 nn, .string mm, .slice da i dc]) /\ Hid (Acc zA9 (fun _=>False) B 4 65 wr (.slice da i dc) (Ex.zT n3 (l.take i)) css) /\ Hid (Keeps (fun q=>q=b5) w5 wr)) (fun iv _=>l.length - (intOf iv).toNat)
  case atStart=>exact ⟨0,none,0,[],yJ _,rfl,RX,Acc.nil w5,yC _ _⟩
  case round =>
   obtain ⟨i,da,dc,css,hi,rfl,RB,HA,HK⟩:=hrel;by_cases hlt:i < l.length
   ·have i1:(0:Int) <= i:=by omega
    have i2:(i:Int) < l.length:=by omega
    obtain ⟨g,o,a,c,e1,hg,d0,d1,d2,d3,hx⟩:=(HL5.out.keeps HK.out hFb.out).at hlt;subst e1;have hNr:=HN5.out.keeps HK.out hNb.out;have hsz:w.heap.size <= wr.heap.size:=yX K5.out.size HK.out.size
    have HC:Hid (∀ W,Keeps zA wr W -> Calls Tryz.prog 136 #[.agg #[.slice a0 n0 c0, .slice a1 n1 c1, .slice a2 n2 c2, .slice a3 n3 c3], .agg #[.int .i64 l[i].kind, .int .i64 l[i].num, .string l[i].nm, .slice a l[i].args.length c]] W fun e w'=>∃ ad' cap',e=.returned (exV (l[i].named n3) ad' cap') /\ zN w' (Since W.heap.size w') (l[i].named n3).args ad' /\ Keeps zA W w') :=
     fun W hk=>IH.out _ (yM hlt) W F N a a0 a1 a2 a3 c n0 n1 n2 n3 c0 c1 c2 c3 (hx.keeps hk (fun _ _ h=>h)) (hNr.keeps hk (fun _ _ h=>h)) (fun q hq=>yI (HNs.out q hq) (yX hsz hk.size)) (fun q hq=>yI (HFs.out q hq) (yX hsz hk.size)) (by have:=yk (yM hlt);have:=HB2.out;omega)
    obtain ⟨y,hy⟩:=eX (l[i].named n3);have HY:=yB hy;rw [<- hy] at HC;clear hx hNr hsz hy;generalize l[i].kind=x0 at d0 HC;generalize l[i].num=x1 at d1 HC;generalize l[i].nm=x2 at d2 HC;generalize l[i].args.length=x3 at d3 HC;go_upto_region 10 with fail
    obtain ⟨b7,hb7⟩:=eX wr.heap.size;have hr7:zC (wr.alloc (.cells #[.int .i64 x0, .int .i64 x1, .string x2, .slice a x3 c] 65)) b7 [.int .i64 x0, .int .i64 x1, .string x2, .slice a x3 c]:=J191 _;have hk7:Keeps zA wr (wr.alloc (.cells #[.int .i64 x0, .int .i64 x1, .string x2, .slice a x3 c] 65)):=(yC _ _).alloc _;rw [<- hb7];generalize wr.alloc (.cells #[.int .i64 x0, .int .i64 x1, .string x2, .slice a x3 c] 65)=w7 at hr7 hk7 ⊢;have R7:=yB hr7;have K7:=yB hk7;clear hr7 hk7 hb7 d0 d1 d2 d3 z23
    refine zL 6 (by kernel_rfl) (by kernel_rfl) (Keeps zA) (yC zA) (fun a b c h h'=>xE h h') (zAH [some (.pointer (some ⟨b5,3,none⟩)),some (.slice da i dc),some (.agg #[.slice a0 n0 c0, .slice a1 n1 c1, .slice a2 n2 c2, .slice a3 n3 c3]),some (.agg #[.int .i64 x0, .int .i64 x1, .string x2, .slice a x3 c])] (fun j v W=>match j with
     | 4=>∃ ad2 cp2,v=.agg #[.int .i64 y.kind, .int .i64 y.num, .string y.nm, .slice ad2 y.args.length cp2] /\ zN W (Since w7.heap.size W) y.args ad2
     | _=>∃ b ad2 cp2,v=.slice (some ⟨b,0,none⟩) 1 1 /\ zC W b [.int .i64 y.kind, .int .i64 y.num, .string y.nm, .slice ad2 y.args.length cp2] /\ zN W (Since w7.heap.size W) y.args ad2)) (uG (fun j v W W' h hk=>by
       revert h
       split
       ·exact J42 _
       ·rintro ⟨b,ad2,cp2,e,h0,h1⟩;exact ⟨b,ad2,cp2,e,h0.keeps hk (fun h=>h),(h1.keeps hk (fun _ _ h=>h)).mono (fun k hk'=>⟨hk'.1,yI hk'.2 hk.size⟩)⟩)) ?_ ?_
    ·intro q oo hq ho vs W Q' hR0 hd hK
     have hR:Keeps zA w7 W:=((yC zA w7).drew).zB hR0;have hRr:Keeps zA wr W:=K7.out.zB hR;obtain ⟨y10,y11,y12,y13⟩:=((R1X.out.keeps HK.out (fun e=>ne1 e)).keeps hRr (fun h=>h)).four;obtain ⟨y50,y51,y52,y53⟩:=(RB.out.keeps hRr (fun h=>h)).four;obtain ⟨y70,y71,y72,y73⟩:=(R7.out.keeps hR (fun h=>h)).four;have HCW:=yB (HC.out W hRr);clear hRr HC hR0;rcases (show q=0 \/ q=1 \/ q=2 \/ q=3 \/ q=4 \/ q=5 by omega) with rfl | rfl | rfl | rfl | rfl | rfl
     all_goals (simp only [yD,yE,yO] at ho;subst ho;simp only [zJ,yD,yE,yL,Option.bind,Act.put,yF,yG,yH] at hK ⊢;clear hq)
     ·exact J3 _
     ·exact J150 _
     ·exact J3 _
     ·exact J3 _
     ·have e2:vs 2=_:=hd 2 (by kernel_rfl)
      have e3:vs 3=_:=hd 3 (by kernel_rfl);rw [e2,e3] at hK ⊢;have HB7:Hid (w7.heap.size <= W.heap.size):=hR.size;clear hR;clear hd;go_wp2_with (go_at_call 136;refine (HCW.out.mono ?_);rintro e W1 ⟨ad2,cp2,rfl,s1,g1⟩)
      exact hK _ _ g1 ⟨ad2,cp2,rfl,s1.mono (fun k hk=>⟨yX HB7.out hk.1,hk.2⟩)⟩
     ·obtain ⟨ad2,cp2,e4,h4⟩:=(hd 4 (by kernel_rfl):∃ ad2 cp2,vs 4=.agg #[.int .i64 y.kind, .int .i64 y.num, .string y.nm, .slice ad2 y.args.length cp2] /\ zN W (fun k=>w7.heap.size <= k /\ k < W.heap.size) y.args ad2)
      exact J62 _
    ·intro vs W hR0 hF
     have hR:Keeps zA w7 W:=((yC zA w7).drew).zB hR0;have HRW:=yB hR;have HKW:Hid (Keeps zA wr W):=K7.out.zB hR;have e1:vs 1=_:=hF 1 (by decide);obtain ⟨gs,ad2,cp2,e5,hgs,hys⟩:=(hF 5 (by decide):∃ b ad2 cp2,vs 5=.slice (some ⟨b,0,none⟩) 1 1 /\ zC W b [.int .i64 y.kind, .int .i64 y.num, .string y.nm, .slice ad2 y.args.length cp2] /\ zN W (Since w7.heap.size W) y.args ad2);have HGS:=yB hgs;have HYS:=yB hys;simp only [zJ,yD,yE,yL,Option.bind,Act.put,yF,yG,yH,yS,yR];rw [e1,e5];clear hF e1 e5;generalize vs 0=y0;generalize vs 2=y2;generalize vs 3=y3;generalize vs 4=y4;clear hR hR0 hgs hys HC;have HAW:Hid (Acc zA9 (fun _=>False) B 4 65 W (.slice da i dc) (Ex.zT n3 (l.take i)) css):=HA.out.zD zFJ HKW.out;have HLEN:Hid ((Ex.zT n3 (l.take i)).length=i):=by show _=_;rw [Ex.zBr,uF];omega
     have RBW:Hid (zC W b5 [.int .i64 kk, .int .i64 nn, .string mm, .slice da i dc]):=RB.out.keeps HKW.out (fun h=>h);have hOB:Hid (∀ q,(Value.slice da i dc).ownBlock=some q -> B <= q):=HA.out.2.2.1;have i3:i+1 <= 1000000000:=by omega
     go_upto_region 11 with (at_builtin;refine zI _ (by rfl) _ _ 63 (by rfl) 0 65 j0 _ 4 56 Tryz.underlying63 hj0 hz0 hz1 hz2 rfl (by decide) (.slice da i dc) i css.flatten (by rfl) (J204 _) (.slice (some ⟨gs,0,none⟩) 1 1) 1 [.int .i64 y.kind, .int .i64 y.num, .string y.nm, .slice ad2 y.args.length cp2] (by rfl) (xN HGS.out) rfl (J188 _) (by unfold maxLen;omega) (by omega) (yJ _) ?_;intro da2 dc2 w4 ha;have HAO:=yB ha;have k4:=xV ha (yC (fun q=>(Value.slice da i dc).ownBlock=some q) W) (fun q e _=>e);have r4:=RBW.out.keeps k4 (fun e=>by have:=hOB.out b5 e;have:=HBE.out;omega);have z3:=r4.cell (k:=3) (v:=.slice da i dc) rfl;have f3:=r4.free (k:=3) (by simp);have R4W:=yB r4;have K4W:=yB k4;clear ha k4 r4)
     have hel:zA9 W (zBU (fun _=>False) B W (.slice da i dc)) y [.int .i64 y.kind, .int .i64 y.num, .string y.nm, .slice ad2 y.args.length cp2]:=by
      refine zA9.zFu (HYS.out.mono (fun k hk=>.inr ⟨?_,hk.2,fun e=>?_⟩))
      ·have h1:=hk.1;have h2:=K7.out.size;have h3:=HK.out.size;have h4:=HBE.out.1;omega
      ·have h0:k < wr.heap.size:=zO HA.out.2.1 e
       have h1:=hk.1;have h2:=K7.out.size;omega
     have hBW:B <= W.heap.size:=J234 _;have hset:Keeps (fun q=>q=b5) w4 (w4.setCell ⟨b5,3,none⟩ (.slice da2 (i+1) dc2)):=(yC (fun q=>q=b5) w4).setCell (p:=⟨b5,3,none⟩) (fun _=>rfl) _
     have hpush:Acc zA9 (fun _=>False) B 4 65 (w4.setCell ⟨b5,3,none⟩ (.slice da2 (i+1) dc2)) (.slice da2 (i+1) dc2) (Ex.zT n3 (l.take (i+1))) (css++[[.int .i64 y.kind, .int .i64 y.num, .string y.nm, .slice ad2 y.args.length cp2]]):=by
      have h1:=HAW.out.push zFJ (fun k hk=>hk.elim) hBW hel (by decide) (ad:=da2) (cap:=dc2) (w':=w4) (J219 _);rw [HLEN.out] at h1;have e:Ex.zT n3 (l.take (i+1))=Ex.zT n3 (l.take i)++[y]:=by rw [Ex.zAo,Ex.zAo,take_at hlt,yt,HY.out];rfl
      rw [e];exact h1.keeps zFJ hset (fun k hk=>⟨by have e':k=b5:=hk;have:=HBE.out;omega,fun h=>h⟩)
     have hrow:zC (w4.setCell ⟨b5,3,none⟩ (.slice da2 (i+1) dc2)) b5 [.int .i64 kk, .int .i64 nn, .string mm, .slice da2 (i+1) dc2]:=R4W.out.set 3 (by simp) _
     have hkeep:Keeps (fun q=>q=b5) w5 (w4.setCell ⟨b5,3,none⟩ (.slice da2 (i+1) dc2)) :=
      (((HK.out.trans HKW.out (fun _ _ h=>h.elim)).trans K4W.out (fun q hq e=>by exact J239 _)).trans hset (fun _ _ h=>h))
     have HPU:=yB hpush;have HRO:=yB hrow;have HKE:=yB hkeep;clear hpush hrow hkeep hset hel hBW z3 f3;go_wp2_with fail
     go_roundw
     case rel=>exact ⟨i+1,da2,dc2,css++[[.int .i64 y.kind, .int .i64 y.num, .string y.nm, .slice ad2 y.args.length cp2]],by omega,by go_num,HRO,HPU,HKE⟩
     case measure=>simp [intOf];omega
   ·obtain rfl:i=l.length:=by omega
    obtain ⟨y50,y51,y52,y53⟩:=RB.out.four;have R4E:Hid (zC wr b4 [.int .i64 0, .int .i64 0, .string { data:=#[] }, .slice none 0 0]):=R4X.out.keeps HK.out (fun e=>ne4 e);obtain ⟨y40,y41,y42,y43⟩:=R4E.out.four;have f40:=R4E.out.free (k:=0) (by simp);have f41:=R4E.out.free (k:=1) (by simp);have f42:=R4E.out.free (k:=2) (by simp);have f43:=R4E.out.free (k:=3) (by simp);clear z23;go_wp2_with fail
    have hrow:zC ((((wr.setCell ⟨b4,0,none⟩ (.int .i64 kk)).setCell ⟨b4,1,none⟩ (.int .i64 nn)).setCell ⟨b4,2,none⟩ (.string mm)).setCell ⟨b4,3,none⟩ (.slice da l.length dc)) b4 [.int .i64 kk, .int .i64 nn, .string mm, .slice da l.length dc]:=(((R4E.out.set 0 (by simp) _).set 1 (by simp) _).set 2 (by simp) _).set 3 (by simp) _;have hks:Keeps (fun q=>q=b4) wr ((((wr.setCell ⟨b4,0,none⟩ (.int .i64 kk)).setCell ⟨b4,1,none⟩ (.int .i64 nn)).setCell ⟨b4,2,none⟩ (.string mm)).setCell ⟨b4,3,none⟩ (.slice da l.length dc)):=((((yC (fun q=>q=b4) wr).setCell (p:=⟨b4,0,none⟩) (fun _=>rfl) _).setCell (p:=⟨b4,1,none⟩) (fun _=>rfl) _).setCell (p:=⟨b4,2,none⟩) (fun _=>rfl) _).setCell (p:=⟨b4,3,none⟩) (fun _=>rfl) _;generalize (((wr.setCell ⟨b4,0,none⟩ (.int .i64 kk)).setCell ⟨b4,1,none⟩ (.int .i64 nn)).setCell ⟨b4,2,none⟩ (.string mm)).setCell ⟨b4,3,none⟩ (.slice da l.length dc)=wE at hrow hks ⊢;refine xA (v:=.agg #[.int .i64 kk, .int .i64 nn, .string mm, .slice da l.length dc]) (by simp [results,Tryz.results136,go_sem,hrow.cell (k:=0) rfl,hrow.cell (k:=1) rfl,hrow.cell (k:=2) rfl,hrow.cell (k:=3) rfl]) rfl ?_
    refine HPX.out da dc wE ?_ ?_
    ·have hA:=HA.out
     rw [xT] at hA;obtain ⟨h1,h2⟩:=hA.elems zFJ (ad:=da) (n:=l.length) (cap:=dc) rfl;have h3:zN wr (fun k=>False \/ (B <= k /\ k < wr.heap.size)) (Ex.zT n3 l) da:=⟨_,h1,h2⟩;refine (h3.keeps hks (fun k hk e=>?_)).mono (fun k hk=>?_)
     ·have e':k=b4:=e
      rcases hk with hk | hk
      ·exact hk
      ·have:=HBE.out;omega
     ·rcases hk with hk | hk
      ·exact hk.elim
      ·exact ⟨by have:=HBE.out;omega,yI hk.2 hks.size⟩
    ·refine ((K5.out.trans HK.out (fun q hq e=>?_):Keeps zA w wr)).trans hks (fun q hq e=>?_)
     ·have e':q=b5:=e;have:=HS.out;omega
     ·have e':q=b4:=e;have:=HS.out;omega)
theorem zPC (x:Ex):zLj x:=Ex.ind (fun k n s l ih=>zLV k n s l ih) x
end Go.Proofs.YtfokdllgnblamaaGreatDoor
