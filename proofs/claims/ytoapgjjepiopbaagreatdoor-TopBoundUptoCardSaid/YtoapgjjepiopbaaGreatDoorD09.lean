/- Layer D: texts joined. -/
import Derived.Test.YtoapgjjepiopbaaGreatDoorD08
import Derived.Lib.BufferMore
set_option linter.all false
set_option maxHeartbeats 4000000
set_option maxRecDepth 8000
namespace Go.Proofs.YtoapgjjepiopbaaGreatDoor
open Go.RowKit
abbrev kY:=@List.mem_replicate
abbrev vJ:=@List.getElem?_replicate
abbrev vE:=@Int.lt_or_le
abbrev uG:=@List.nil_append
abbrev uF:=@List.length_replicate
theorem J41(P:Prop)(h:P:=by rintro⟨ad2,cp2,e,h1⟩;exact⟨ad2,cp2,e,(h1.keeps hk (λ_ _ h=>h)).mono (λk hk'=>⟨hk'.1,yH hk'.2 hk.size⟩)⟩):P:=h
theorem J56(P:Prop) (h:P:=by
 have H4:=yA h4;rw[e4] at hK ⊢;clear h4;clear hd;go_wp2_with fail
 exact hK _ _ ((yB _ _).alloc _) ⟨_,ad2,cp2,rfl,yK (yG W _),(H4.out.keeps ((yB zA W).alloc _) (λ_ _ h=>h)).mono (λk hk=>⟨hk.1,by have:=hk.2;simp;omega⟩)⟩):P:=h
theorem J66(P:Prop) (h:P:=by
 rcases hO.2.2 kb (by rw[xA];exact e) with h1|h1
 ·simp[Value.ownBlock] at h1;omega
 ·simp at h1;omega):P:=h
theorem J106(P:Prop) (h:P:=by
 have:=hO.1
 rw[xA,uG] at this;exact this):P:=h
theorem J168(P:Prop)(h:P:=by intro q hq;simp only[xU,kR,or_false] at hq;rcases hq with rfl;rfl):P:=h
theorem J191(P:Prop)(h:P:=by rw[hwA];exact(yB _ _).alloc _):P:=h
theorem J193(P:Prop)(h:P:=by rw[hb5];exact yK (yG wr _)):P:=h
theorem J202(P:Prop)(h:P:=by rw[hw1];exact(yB _ _).alloc _):P:=h
theorem J209(P:Prop)(h:P:=by have e':q=c:=e;have:=HCW.out;omega):P:=h
theorem J212(P:Prop)(h:P:=by have h2:=HKW.out.size;have h3:=HK.out.size;have h4:=HBE.out.1;omega):P:=h
theorem J214(P:Prop)(h:P:=by have e':q=b5:=e;have:=HNs.out q hq;have:=HS.out.2.2.2.1;omega):P:=h
theorem J218(P:Prop)(h:P:=by rw[hb1];exact(yK (yG w _)).alloc _):P:=h
theorem J219(P:Prop)(h:P:=by have:=hOB.out q e;have:=HBE.out.1;omega):P:=h
theorem J236(P:Prop)(h:P:=by simp[Value.ownBlock] at e;omega):P:=h
theorem J237(P:Prop)(h:P:=by rw[hc];exact yK (zAH w _ _)):P:=h
def zCa(w:World)(F:Nat->Prop)(cs:List Int)(ad:Option Addr):Prop:=
 ∀i (hi:i<cs.length),∃g o,ad=some ⟨g,o,none⟩/\F g/\w.cell? ⟨g,o+i*2,none⟩=some (.string xNm)/\w.cell? ⟨g,o+i*2+1,none⟩=some (.int .i64 cs[i])
theorem zCa.keeps{S F:Nat->Prop}{w w':World}{cs:List Int}{ad:Option Addr}(h:zCa w F cs ad)(hk:Keeps S w w')(hS:∀k,F k->¬S k):zCa w' F cs ad:=by
 intro i hi
 obtain⟨g,o,e,hg,c0,c1⟩:=h i hi;exact⟨g,o,e,hg,hk.cell (p:=⟨g,_,none⟩) (hS g hg) c0,hk.cell (p:=⟨g,_,none⟩) (hS g hg) c1⟩
theorem zk.at{w:World}{F:Nat->Prop}{ad:Option Addr}{n cap:Nat}(h:zk w F (.slice ad n cap) n){i:Nat}(hi:i<n):
 ∃g o,ad=some ⟨g,o,none⟩/\F g/\w.cell? ⟨g,o+i,none⟩=some (.string xNm):=by
 obtain⟨ad',cap',e,h1⟩:=h;have e':ad=ad':=by injection e
 subst e';exact h1 i hi
theorem zIH(cs:List Int)(mn:Nat)(ts:List (List St))(w:World)(F:Nat->Prop)(ca ma ta:Option Addr)(cc mc tc:Nat)(hcl:zCa w F cs ca)(hms:zk w F (.slice ma mn mc) mn)(h:zAh w F xNm ts ta)(hnn:zDS ts)(hF:∀k,F k->k<w.heap.size)(hb:zBt ts<900000000)(hcs:cs.length<=1000)(hmn:mn<=1000):
 Calls Tryz.prog 83 #[.agg #[.slice ca cs.length cc,.slice ma mn mc,.slice ta ts.length tc]] w λe w'=>e=.returned (.bool (cs.all zCb&&zAn ts))/\Keeps zA w w':=by
 have hmf:∀(fn:Fn)(first cap:Array Value)(w:World),(Instr.makeFunc fn first cap).run Tryz.prog w=.ok (.func fn first cap) w:=λ_ _ _ _=>rfl
 have HL:=yA h;have HCL:=yA hcl;have HMS:=yA hms;have HF:=yA hF;have HB:=yA hb;have HN:=yA hnn;have hl:ts.length<=1000:=h.len;obtain⟨r,hr⟩:=eX (α:=Bool) ((cs.all zCb&&zAn ts));have HR:=yA hr;rw[<-hr];clear h hcl hms hF hb hr hnn;go_enter Tryz.func83,Tryz.ntmps83
 go_upto_region 2 with fail
 obtain⟨b1,hb1⟩:=eX w.heap.size;obtain⟨c,hc⟩:=eX (w.heap.size+1);have hr1:zB ((w.alloc (.cells #[.slice ca cs.length cc,.slice ma mn mc,.slice ta ts.length tc] 102)).alloc (.cells #[true] 4)) b1 [.slice ca cs.length cc,.slice ma mn mc,.slice ta ts.length tc]:=J218 _;have hrc:zB ((w.alloc (.cells #[.slice ca cs.length cc,.slice ma mn mc,.slice ta ts.length tc] 102)).alloc (.cells #[true] 4)) c [.bool true]:=J237 _;have hk1:Keeps zA w ((w.alloc (.cells #[.slice ca cs.length cc,.slice ma mn mc,.slice ta ts.length tc] 102)).alloc (.cells #[true] 4)):=((yB _ _).alloc _).alloc _;have HCW:Hid (w.heap.size<=c):=by show _<=_;omega
 have HBC:Hid (b1≠c):=by show _≠_;omega
 rw[<-hc,<-hb1];generalize (w.alloc (.cells #[.slice ca cs.length cc,.slice ma mn mc,.slice ta ts.length tc] 102)).alloc (.cells #[true] 4)=w1 at hr1 hrc hk1 ⊢;have HFc:Hid (∀q,F q->¬(λq=>q=c) q):=λq hq e=>by have e':q=c:=e;have:=HF.out q hq;have:=HCW.out;omega
 have CL1:Hid (zCa w1 F cs ca):=HCL.out.keeps hk1 (λ_ _ h=>h);have MS1:Hid (zk w1 F (.slice ma mn mc) mn):=HMS.out.keeps hk1 (λ_ _ h=>h);have TS1:Hid (zAh w1 F xNm ts ta):=HL.out.keeps hk1 (λ_ _ h=>h);have K1:=yA hk1;have R1:=yA hr1;have RC:=yA hrc;have HLC:Hid (c<w1.heap.size):=hrc.lt (by simp);obtain⟨d0,d1,d2⟩:=hr1.three;clear hr1 hrc hk1 hb1 hc HCL HMS HL;go_upto_region 3 with fail
 clear d0 d1 d2;go_loopw [13] (λiv wr=>∃(i:Nat)(v:Bool),i<=cs.length/\iv=.int .i64 i/\Hid (zB wr c [v])/\Hid ((v&&((cs.drop i).all zCb&&zAn ts))=r)/\Hid (Keeps (λq=>q=c) w1 wr)) (λiv _=>cs.length-(intOf iv).toNat)
 case atStart=>exact⟨0,true,yF _,rfl,RC,by show _=_;rw[yU,HR.out];simp,yB _ _⟩
 case round =>
  obtain⟨i,v,hi,rfl,HV,HD,HK⟩:=hrel;by_cases hlt:i<cs.length
  ·have i1:(0:Int)<=i:=by omega
   have i2:(i:Int)<cs.length:=by omega
   have hd:=HD.out;rw[drop_at hlt,List.all_cons] at hd;obtain⟨g,o,e1,hg,d0,d1⟩:=(CL1.out.keeps HK.out HFc.out) i hlt;subst e1;have hq:zCb cs[i]=(decide (-2147483647<=cs[i])&&decide (cs[i]<=2147483647)):=rfl;rw[hq] at hd;have HDD:=yA hd;clear hd hq;generalize cs[i]=x at d1 HDD;go_upto_region 5 with fail
   obtain⟨b5,hb5⟩:=eX wr.heap.size;have hr5:zB (wr.alloc (.cells #[xNm,x] 182)) b5 [.string xNm,.int .i64 x]:=J193 _;have hk5:Keeps zA wr (wr.alloc (.cells #[xNm,x] 182)):=(yB _ _).alloc _;have hn5:Hid (b5≠c):=by show _≠_;have:=HLC.out;have:=HK.out.size;omega
   rw[<-hb5];generalize wr.alloc (.cells #[xNm,x] 182)=w5 at hr5 hk5 ⊢;have rc:=HV.out.keeps hk5 (λh=>h);have cc0:=rc.cell (k:=0) (v:=.bool v) rfl;have fc0:=rc.free (k:=0) (by simp);have y0:=hr5.cell (k:=0) (v:=.string xNm) rfl;have y1:=hr5.cell (k:=1) (v:=.int .i64 x) rfl;have K5:=yA hk5;have R5:=yA hr5;have RC5:=yA rc;clear hr5 hk5 hb5 rc d0 d1;cases v
   ·go_wp2_with fail
    go_roundw
    case rel=>exact⟨i+1,false,by omega,by go_num,RC5.out.set 0 (by simp) _,by show _=_;rw[<-HDD.out];simp,(HK.out.trans K5.out (λ_ _ h=>False.elim h)).setCell (p:=⟨c,0,none⟩) (λ_=>rfl) _⟩
    case measure=>simp[intOf];omega
   ·rcases vE x (-2147483647) with h1|h1
    ·go_wp2_with (go_at_call 133;refine(zBn xNm (.inl rfl) _).mono ?_;rintro e w2 ⟨rfl,g1⟩;have r2:=RC5.out.keeps g1 (λh=>h);have cc2:=r2.cell (k:=0) (v:=.bool true) rfl;have fc2:=r2.free (k:=0) (by simp);have y12:=(R5.out.keeps g1 (λh=>h)).cell (k:=1) (v:=.int .i64 x) rfl;have R2:=yA r2;have G1:=yA g1;clear g1 r2 cc0 fc0 y0 y1)
     go_roundw
     case rel=>exact⟨i+1,false,by omega,by go_num,R2.out.set 0 (by simp) _,by show _=_;rw[<-HDD.out];have:decide (-2147483647<=x)=false:=uK (by omega);rw[this];simp,(HK.out.trans (K5.out.zC G1.out) (λ_ _ h=>False.elim h)).setCell (p:=⟨c,0,none⟩) (λ_=>rfl) _⟩
     case measure=>simp[intOf];omega
    ·obtain⟨z,hz⟩:=eX (decide (x<=2147483647))
     have HZ:Hid ((z&&((cs.drop (i+1)).all zCb&&zAn ts))=r):=by
      show _=_
      rw[<-HDD.out,uC h1,hz];simp[Bool.and_assoc]
     have hx:x<=2147483647/\z=true\/¬x<=2147483647/\z=false:=by
      by_cases h:x<=2147483647
      ·exact .inl ⟨h,by rw[hz];simp[h]⟩
      ·exact .inr ⟨h,by rw[hz];simp[h]⟩
     clear hz;rcases hx with⟨h2,rfl⟩|⟨h2,rfl⟩
     ·go_wp2_with (go_at_call 133;refine(zBn xNm (.inl rfl) _).mono ?_;rintro e w2 ⟨rfl,g1⟩;have r2:=RC5.out.keeps g1 (λh=>h);have cc2:=r2.cell (k:=0) (v:=.bool true) rfl;have fc2:=r2.free (k:=0) (by simp);have y12:=(R5.out.keeps g1 (λh=>h)).cell (k:=1) (v:=.int .i64 x) rfl;have R2:=yA r2;have G1:=yA g1;clear g1 r2 cc0 fc0 y0 y1)
      go_roundw
      case rel=>exact⟨i+1,true,by omega,by go_num,R2.out.set 0 (by simp) _,HZ,(HK.out.trans (K5.out.zC G1.out) (λ_ _ h=>False.elim h)).setCell (p:=⟨c,0,none⟩) (λ_=>rfl) _⟩
      case measure=>simp[intOf];omega
     ·go_wp2_with (go_at_call 133;refine(zBn xNm (.inl rfl) _).mono ?_;rintro e w2 ⟨rfl,g1⟩;have r2:=RC5.out.keeps g1 (λh=>h);have cc2:=r2.cell (k:=0) (v:=.bool true) rfl;have fc2:=r2.free (k:=0) (by simp);have y12:=(R5.out.keeps g1 (λh=>h)).cell (k:=1) (v:=.int .i64 x) rfl;have R2:=yA r2;have G1:=yA g1;clear g1 r2 cc0 fc0 y0 y1)
      go_roundw
      case rel =>
       have h3:decide (x<=2147483647)=false:=uK (by omega);rw[h3];exact⟨i+1,false,by omega,by go_num,R2.out.set 0 (by simp) _,HZ,(HK.out.trans (K5.out.zC G1.out) (λ_ _ h=>False.elim h)).setCell (p:=⟨c,0,none⟩) (λ_=>rfl) _⟩
      case measure=>simp[intOf];omega
  ·obtain rfl:i=cs.length:=by omega
   have hd:=HD.out;rw[xO,List.all_nil,Bool.true_and] at hd;have HD2:=yA hd;clear hd HD;obtain⟨d0,d1,d2⟩:=(R1.out.keeps HK.out (λe=>HBC.out e)).three;have CLX:=CL1;clear CL1;go_upto_region 8 with fail
   clear d0 d1 d2;go_loopw [37] (λiv ws=>∃(j:Nat)(v:Bool),j<=mn/\iv=.int .i64 j/\Hid (zB ws c [v])/\Hid ((v&&zAn ts)=r)/\Hid (Keeps (λq=>q=c) w1 ws)) (λiv _=>mn-(intOf iv).toNat)
   case atStart=>exact⟨0,v,yF _,rfl,HV,HD2,HK⟩
   case round =>
    clear HV HD2 HK hi;clear v;obtain⟨j,v,hj,rfl,HV,HD,HK⟩:=hrel;by_cases hlt:j<mn
    ·have i1:(0:Int)<=j:=by omega
     have i2:(j:Int)<mn:=by omega
     obtain⟨g,o,e1,hg,d0⟩:=(MS1.out.keeps HK.out HFc.out).at hlt;subst e1;have cc0:=HV.out.cell (k:=0) (v:=.bool v) rfl;have fc0:=HV.out.free (k:=0) (by simp);cases v
     ·go_wp2_with fail
      go_roundw
      case rel=>exact⟨j+1,false,by omega,by go_num,HV.out.set 0 (by simp) _,HD,HK.out.setCell (p:=⟨c,0,none⟩) (λ_=>rfl) _⟩
      case measure=>simp[intOf];omega
     ·go_wp2_with (go_at_call 133;refine(zBn xNm (.inl rfl) _).mono ?_;rintro e w2 ⟨rfl,g1⟩;have r2:=HV.out.keeps g1 (λh=>h);have cc2:=r2.cell (k:=0) (v:=.bool true) rfl;have fc2:=r2.free (k:=0) (by simp);have R2:=yA r2;have G1:=yA g1;clear g1 r2 cc0 fc0 d0)
      go_roundw
      case rel=>exact⟨j+1,true,by omega,by go_num,R2.out.set 0 (by simp) _,HD,(HK.out.trans G1.out (λ_ _ h=>False.elim h)).setCell (p:=⟨c,0,none⟩) (λ_=>rfl) _⟩
      case measure=>simp[intOf];omega
    ·obtain rfl:j=mn:=by omega
     obtain⟨d0,d1,d2⟩:=(R1.out.keeps HK.out (λe=>HBC.out e)).three;go_upto_region 13 with fail
     clear d0 d1 d2;go_loopw [50] (λiv ws=>∃(j:Nat)(v:Bool),j<=ts.length/\iv=.int .i64 j/\Hid (zB ws c [v])/\Hid ((v&&zAn ts)=r)/\Hid (Keeps (λq=>q=c) w1 ws)) (λiv _=>ts.length-(intOf iv).toNat)
     case atStart=>exact⟨0,v,yF _,rfl,HV,HD,HK⟩
     case round =>
      clear HV HD HK hj;clear v;obtain⟨j,v,hj,rfl,HV,HD,HK⟩:=hrel;by_cases hlt:j<ts.length
      ·have i1:(0:Int)<=j:=by omega
       have i2:(j:Int)<ts.length:=by omega
       obtain⟨g,o,ba,bc,e1,hg,d0,d1,_⟩:=(TS1.out.keeps HK.out HFc.out).at hlt;subst e1;generalize ts[j].length=x1 at d1;go_upto_region 15 with fail
       obtain⟨b5,hb5⟩:=eX wr.heap.size;have hr5:zB (wr.alloc (.cells #[xNm,.slice ba x1 bc] 111)) b5 [.string xNm,.slice ba x1 bc]:=J193 _;have hk5:Keeps zA wr (wr.alloc (.cells #[xNm,.slice ba x1 bc] 111)):=(yB _ _).alloc _;rw[<-hb5];generalize wr.alloc (.cells #[xNm,.slice ba x1 bc] 111)=w5 at hr5 hk5 ⊢;have rc:=HV.out.keeps hk5 (λh=>h);have cc0:=rc.cell (k:=0) (v:=.bool v) rfl;have fc0:=rc.free (k:=0) (by simp);have y0:=hr5.cell (k:=0) (v:=.string xNm) rfl;have K5:=yA hk5;have RC5:=yA rc;clear hr5 hk5 hb5 rc d0 d1;cases v
       ·go_wp2_with fail
        go_roundw
        case rel=>exact⟨j+1,false,by omega,by go_num,RC5.out.set 0 (by simp) _,HD,(HK.out.trans K5.out (λ_ _ h=>False.elim h)).setCell (p:=⟨c,0,none⟩) (λ_=>rfl) _⟩
        case measure=>simp[intOf];omega
       ·go_wp2_with (go_at_call 133;refine(zBn xNm (.inl rfl) _).mono ?_;rintro e w2 ⟨rfl,g1⟩;have r2:=RC5.out.keeps g1 (λh=>h);have cc2:=r2.cell (k:=0) (v:=.bool true) rfl;have fc2:=r2.free (k:=0) (by simp);have R2:=yA r2;have G1:=yA g1;clear g1 r2 cc0 fc0 y0)
        go_roundw
        case rel=>exact⟨j+1,true,by omega,by go_num,R2.out.set 0 (by simp) _,HD,(HK.out.trans (K5.out.zC G1.out) (λ_ _ h=>False.elim h)).setCell (p:=⟨c,0,none⟩) (λ_=>rfl) _⟩
        case measure=>simp[intOf];omega
      ·obtain rfl:j=ts.length:=by omega
       have cc0:=HV.out.cell (k:=0) (v:=.bool v) rfl;have HD3:=HD;cases v
       ·have hr0:false=r:=by rw[<-HD.out];rfl
        clear HR HD HD3;subst hr0;go_wp2_with fail
        go_ret
        exact⟨rfl,K1.out.trans HK.out (λq hq e=>by exact J209 _)⟩
       ·obtain⟨d0,d1,d2⟩:=(R1.out.keeps HK.out (λe=>HBC.out e)).three
        have HP:Hid (Calls Tryz.prog 138 #[.agg #[.func (.func 134) #[] #[.pointer (some ⟨c,0,none⟩)],.func (.func 136) #[] #[.pointer (some ⟨c,0,none⟩)]],.agg #[.slice ca cs.length cc,.slice ma j mc,.slice ta ts.length tc]] wr λe w'=>e=.returned (.tuple #[])/\zB w' c [r]/\Keeps (λq=>q=c) wr w'):=by
         have h1:=zL3 xNm ts wr F ca ma ta cs.length cc j mc tc c true (TS1.out.keeps HK.out HFc.out) HN.out (λh=>HFc.out c h rfl) HV.out HB.out;rw[HD.out] at h1;exact h1
        clear HR HD HD3;go_wp2_with (go_at_call 138;refine HP.out.mono ?_;rintro e w2 ⟨rfl,r2,g2⟩;have cc2:=r2.cell (k:=0) (v:=.bool r) rfl;have G2:=yA g2;clear r2 g2 cc0)
        go_ret
        exact⟨rfl,(K1.out.trans HK.out (λq hq e=>by exact J209 _)).trans G2.out (λq hq e=>by exact J209 _)⟩
def zBb(e:TypeId)(size:Nat)(w:World)(n:Nat)(cs:List Value)(r:Ending)(w':World):Prop:=
 ∃ad cap,r=.returned (.slice ad n cap)/\w'.ownsRow 0 e size (.slice ad n cap) n cs/\Keeps zA w w'/\∀kb,(Value.slice ad n cap).ownBlock=some kb->w.heap.size<=kb
def xs(n:Nat):List Value:=List.replicate n (.string xNm)
theorem zQ7(n:Nat):(xs n).length=n:=uF
theorem zPP(n:Nat):xs n++[.string xNm]=xs (n+1):=by
 unfold xs;rw[<-kF,]
theorem zQx(n:Nat):∀u∈xs n,u.oneCell'=true:=by
 intro u hu
 obtain⟨_,rfl⟩:=kY.1 hu;rfl
theorem zGZ:(Tryz.prog.info? 9).map (λi=>(i.zero,i.size,i.bytes))=some (some (.string zw),1,16):=by kernel_rfl
theorem zk.zAb{w:World}{F:Nat->Prop}{e:TypeId}{n:Nat}{v:Value}{ad:Option Addr}{cap:Nat}(h:w.ownsRow 0 e 1 v n (xs n))(hv:v=.slice ad n cap)(hF:∀kb,v.ownBlock=some kb->F kb):zk w F v n:=by
 subst hv;refine⟨ad,cap,rfl,λi hi=>?_⟩
 obtain⟨g,c,hv,_,_⟩:=h.form (by omega);cases hv;refine⟨g,0,rfl,hF g rfl,?_⟩
 have hr:=uB h;rw[xA];exact hr.cell (k:=i) (v:=.string xNm) (by unfold xs;rw[vJ,if_pos hi])
theorem zk.src{w:World}{F:Nat->Prop}{ad:Option Addr}{n cap:Nat}(h:zk w F (.slice ad n cap) n):zl w (.slice ad n cap) n (xs n):=by
 refine⟨ad,cap,rfl,λhn=>?_⟩
 obtain⟨g,o,rfl,_,_⟩:=h.at (i:=0) (by omega);refine⟨g,o,rfl,λj u hj=>?_⟩
 unfold xs at hj;rw[vJ] at hj;split at hj
 ·rename_i hlt
  cases hj;obtain⟨g',o',e,_,c⟩:=h.at hlt;cases e;exact c
 ·cases hj
theorem zEq(n:Nat)(hn:n<=1000)(w:World):Calls Tryz.prog 42 #[n] w (zBb 9 1 w n (xs n)):=by
 obtain⟨j0,hj0,hz0,hz1,hz2⟩:=info_parts zGZ;go_enter Tryz.func42,Tryz.ntmps42
 go_wp2_with fail
 go_loopw [3,5] (λov iv wr=>∃(i:Nat)(da:Option Addr)(dc:Nat),i<=n/\iv=.int .i64 i/\ov=.slice da i dc/\Hid (wr.ownsRow 0 9 1 (.slice da i dc) i (xs i))/\Hid (Keeps zA w wr)/\Hid (∀kb,(Value.slice da i dc).ownBlock=some kb->w.heap.size<=kb)) (λ_ iv _=>n-(intOf iv).toNat)
 case atStart=>exact⟨0,none,0,yF _,rfl,rfl,World.ownsRow_nil _ _ _ _,yB _ _,λkb e=>by exact J170 _⟩
 case round =>
  obtain⟨i,da,dc,hi,rfl,rfl,HO,HK,HB⟩:=hrel;by_cases hlt:i<n
  ·have i1:(0:Int)<=i:=by omega
   have i2:(i:Int)<n:=by omega
   go_wp2_with (at_builtin;refine zI _ (by rfl) _ _ 93 (by rfl) 0 9 j0 _ 1 16 Tryz.underlying93 hj0 hz0 hz1 hz2 rfl (by decide) (.slice da i dc) i (xs i) (by rfl) (zD HO.out ((yB zA wr).alloc _) (λ_ _ h=>h)) (.slice (some ⟨wr.heap.size,0,none⟩) 1 1) 1 [.string xNm] (by rfl) (xE (yK (yG wr _))) rfl (J168 _) (by unfold maxLen;omega) (by omega) (yF _) ?_;intro da2 dc2 w4 ha;have HA:=yA ha;clear ha)
   go_roundw
   case rel =>
    refine⟨i+1,da2,dc2,by omega,by go_num,by go_num,?_,?_,?_⟩
    ·have h1:=HA.out.1
     rw[zPP] at h1;exact h1
    ·exact xD HA.out (HK.out.alloc _) (λq e hq=>by have:=HB.out q e;omega)
    ·show ∀kb,_->_
     intro kb e
     rcases HA.out.2.2 kb e with h1|h1
     ·exact HB.out kb h1
     ·rw[h1];have:=HK.out.size;simp;omega
   case measure=>simp[intOf];omega
  ·obtain rfl:i=n:=by omega
   go_wp2_with fail
   go_ret
   exact⟨da,dc,rfl,HO.out,HK.out,HB.out⟩
theorem zMV(w:World)(v:Value)(n:Nat)(h:zl w v n (xs n))(hb:n<=1000):
 Calls Tryz.prog 87 #[v] w (zBb 9 1 w n (xs n)):=by
 obtain⟨i0,hi0,hz0,hz1,hz2⟩:=info_parts zGZ;have HS:=yA h;obtain⟨ad,cap,rfl,hc⟩:=h
 have h0:ad=none->n=0:=λe=>by
  cases n with
  | zero=>rfl
  | succ a=>obtain⟨g,o,e2,_⟩:=hc (by simp);rw[e] at e2;cases e2
 clear hc;cases ad with
 | none =>
   obtain rfl:=h0 rfl;have hnil:∀W,(binOp .eql 93 (.slice none 0 cap) (.slice none 0 0)).run Tryz.prog W=.ok (.bool true) W:=λW=>Lib.run_eql_slice_nil_nil W _ _ Tryz.underlying93
   go_enter Tryz.func87,Tryz.ntmps87
   go_wp2
   go_ret
   exact⟨none,0,rfl,World.ownsRow_nil _ _ _ _,yB _ _,λkb e=>by exact J170 _⟩
 | some a =>
   clear h0;have HL:Hid ((xs n).length=n*1):=by show _=_;rw[zQ7,Nat.mul_one]
   have HB:Hid (n<=1000):=hb;clear hb;have hnil:∀W,(binOp .eql 93 (.slice (some a) n cap) (.slice none 0 0)).run Tryz.prog W=.ok (.bool false) W:=λW=>Lib.run_eql_slice_some_nil W _ _ _ Tryz.underlying93
   go_enter Tryz.func87,Tryz.ntmps87
   go_wp2_with (at_builtin;refine zI _ (by rfl) _ _ 93 (by rfl) 0 9 i0 _ 1 16 Tryz.underlying93 hi0 hz0 hz1 hz2 rfl (by decide) (.slice (some ⟨w.heap.size,0,none⟩) 0 0) 0 [] (by rfl) (World.ownsRow_lit w #[] 0 (yF _) (by unfold maxLen;omega) rfl) (.slice (some a) n cap) n (xs n) (by rfl) (HS.out.keeps (S:=zA) ((yB _ _).alloc _) (λ_ _ h=>h)) HL.out (zQx n) (by have:=HB.out;unfold maxLen;omega) (by have:=HB.out;omega) (yF _) ?_;intro ad' cap' w6 hout;have HO:=yA hout;clear hout)
   go_ret
   have hO:=HO.out;refine⟨ad',cap',by simp,?_,hO.keeps ((yB _ _).alloc _) (λk e hlt=>by exact J236 _),λkb e=>?_⟩
   ·exact J106 _
   ·exact J66 _
theorem zL1(w:World)(g n cap:Nat)(hn:n<=cap)(hm:cap<=maxLen):
 Calls Tryz.prog 86 #[.slice (some ⟨g,0,none⟩) n cap] w λe w'=>e=.returned (.slice (some ⟨g,0,none⟩) n n)/\w'=w:=by
 have h1:(0:Int)<=n:=by omega
 have h2:(n:Int)<=cap:=by omega
 have h3:(cap:Int)<=9223372036854775807:=by unfold maxLen at hm;omega
 go_enter Tryz.func86,Tryz.ntmps86
 go_wp2
 go_ret
 exact⟨by simp,rfl⟩
theorem zLY(w:World):
 Calls Tryz.prog 86 #[.slice none 0 0] w λe w'=>e=.returned (.slice none 0 0)/\w'=w:=by
 go_enter Tryz.func86,Tryz.ntmps86
 go_wp2
 go_ret
 exact⟨by simp,rfl⟩
theorem zMw(w:World)(ad:Option Addr)(n cap:Nat)(cs:List Value)(h:w.ownsRow 0 9 1 (.slice ad n cap) n cs):
 Calls Tryz.prog 86 #[.slice ad n cap] w λe w'=>e=.returned (.slice ad n n)/\w'=w:=by
 rcases h.2 with⟨e,rfl⟩|⟨g,cap',cur,e,_,_,h1,h2,_⟩
 ·cases e;exact zLY w
 ·cases e;exact zL1 w g n cap h1 h2
theorem zJm:(Tryz.prog.info? 144).map (λi=>(i.zero,i.size,i.bytes))=some (some (.agg #[(0:Int),(0:Int),zw,.slice none 0 0]),4,56):=by kernel_rfl
theorem Ex.zBq(regs:Int)(l:List Ex):(Ex.zS regs l).length=l.length:=by rw[Ex.zAY];simp
theorem Ex.zMu(regs k num:Int)(nm:ByteArray)(l:List Ex):Ex.named regs (.mk k num nm l)=.mk k (if k=2 then 0 else num) (if k=2 then (if ze nm then nameAt regs num else zw) else nm) (Ex.zS regs l):=by simp only[Ex.named]
def Since(B:Nat)(w:World)(k:Nat):Prop:=B<=k/\k<w.heap.size
def zOJ(x:Ex):Prop:=∀(w:World)(F N:Nat->Prop)(ad a0 a1 a2 a3:Option Addr)(cap n0 n1 n2 n3 c0 c1 c2 c3:Nat),zR w F x.args ad->zk w N (.slice a3 n3 c3) n3->(∀k,N k->k<w.heap.size)->(∀k,F k->k<w.heap.size)->x.cnt<1000000000 →
 Calls Tryz.prog 143 #[.agg #[.slice a0 n0 c0,.slice a1 n1 c1,.slice a2 n2 c2,.slice a3 n3 c3],exV x ad cap] w λe w'=>∃ad' cap',e=.returned (exV (x.named n3) ad' cap')/\zR w' (Since w.heap.size w') (x.named n3).args ad'/\Keeps zA w w'
theorem zNf(k num:Int)(nm:ByteArray)(l:List Ex)(ih:∀y,y∈l->zOJ y):zOJ (.mk k num nm l):=by
 intro w F N ad a0 a1 a2 a3 cap n0 n1 n2 n3 c0 c1 c2 c3 h hn hNs hFs hb
 have HNs:=yA hNs;have HFs:=yA hFs;have HL:Hid (zR w F l ad):=h;have HN:=yA hn;have IH:=yA ih;have hl:=Ex.zAe l;have hcn:Ex.cnt (.mk k num nm l)=1+Ex.zT l:=by simp[Ex.cnt]
 rw[hcn] at hb;have hb2:l.length<1000000000:=by omega
 have HB2:=yA hb;obtain⟨num',hnum⟩:=eX ((if k=2 then 0 else num));obtain⟨nm',hnm⟩:=eX ((if k=2 then (if ze nm then nameAt n3 num else zw) else nm));have hnamed:Ex.named n3 (.mk k num nm l)=.mk k num' nm' (Ex.zS n3 l):=by rw[Ex.zMu,hnum,hnm]
 have HNM:=yA hnamed;obtain⟨j0,hj0,hz0,hz1,hz2⟩:=info_parts zJm
 have HP:Hid (∀(ad':Option Addr)(cap':Nat)(w':World),zR w' (Since w.heap.size w') (Ex.zS n3 l) ad'->Keeps zA w w' →
  ∃ad'' cap'',Ending.returned (.agg #[k,num',nm',.slice ad' l.length cap'])=.returned (exV (Ex.named n3 (.mk k num nm l)) ad'' cap'')/\zR w' (Since w.heap.size w') (Ex.named n3 (.mk k num nm l)).args ad''/\Keeps zA w w'):=by
  intro ad' cap' w' h1 h2
  rw[hnamed];refine⟨ad',cap',?_,h1,h2⟩
  show _=Ending.returned (.agg #[k,num',nm',.slice ad' (Ex.zS n3 l).length cap'])
  rw[Ex.zBq]
 obtain⟨Q,hQ⟩:=eX (α:=Ending->World->Prop) (λe w'=>∃ad' cap',e=.returned (exV (Ex.named n3 (.mk k num nm l)) ad' cap')/\zR w' (Since w.heap.size w') (Ex.named n3 (.mk k num nm l)).args ad'/\Keeps zA w w');rw[<-hQ]
 have HPQ:Hid (∀(ad':Option Addr)(cap':Nat)(w':World),zR w' (Since w.heap.size w') (Ex.zS n3 l) ad'->Keeps zA w w'->Q (Ending.returned (.agg #[k,num',nm',.slice ad' l.length cap'])) w'):=by
  rw[hQ];exact HP.out
 clear h hn hNs hFs ih hl hcn hb hnamed HP HNM hQ;show Calls _ _ #[_,.agg #[k,num,nm,.slice ad l.length cap]] _ _
 go_enter Tryz.func143,Tryz.ntmps143
 go_upto_region 2 with fail
 obtain⟨b1,hb1⟩:=eX w.heap.size;obtain⟨b2,hb2'⟩:=eX (w.heap.size+1);obtain⟨b4,hb4⟩:=eX (w.heap.size+1+1);obtain⟨b5,hb5⟩:=eX (w.heap.size+1+1+1);rw[<-hb5,<-hb4,<-hb2',<-hb1];obtain⟨wA,hwA⟩:=eX (w.alloc (.cells #[.slice a0 n0 c0,.slice a1 n1 c1,.slice a2 n2 c2,.slice a3 n3 c3] 185));obtain⟨wB,hwB⟩:=eX (wA.alloc (.cells #[k,num,nm,.slice ad l.length cap] 144));obtain⟨wC,hwC⟩:∃z,z=wB.alloc (.cells #[(0:Int),(0:Int),.string { data:=#[] },.slice none 0 0] 144):=⟨_,rfl⟩
 obtain⟨w1,hw1⟩:=eX (wC.alloc (.cells #[k,num,nm,.slice none 0 0] 144));rw[<-hwA,<-hwB,<-hwC,<-hw1];have kA:Keeps zA w wA:=J191 _;have kB:Keeps zA wA wB:=by rw[hwB];exact(yB _ _).alloc _
 have kC:Keeps zA wB wC:=by rw[hwC];exact(yB _ _).alloc _
 have k1:Keeps zA wC w1:=J202 _;have sA:wA.heap.size=w.heap.size+1:=by rw[hwA];simp
 have sB:wB.heap.size=w.heap.size+1+1:=by rw[hwB];simp[sA]
 have sC:wC.heap.size=w.heap.size+1+1+1:=by rw[hwC];simp[sB]
 have s1:w1.heap.size=w.heap.size+1+1+1+1:=by rw[hw1];simp[sC]
 have r1:zB wA b1 [.slice a0 n0 c0,.slice a1 n1 c1,.slice a2 n2 c2,.slice a3 n3 c3]:=by rw[hb1,hwA];exact yK (yG w _)
 have r2:zB wB b2 [k,num,nm,.slice ad l.length cap]:=by rw[hb2',<-sA,hwB];exact yK (yG wA _)
 have r4:zB wC b4 [(0:Int),(0:Int),.string { data:=#[] },.slice none 0 0]:=by rw[hb4,<-sB,hwC];exact yK (yG wB _)
 have r5:zB w1 b5 [k,num,nm,.slice none 0 0]:=by rw[hb5,<-sC,hw1];exact yK (yG wC _)
 have R1:Hid (zB w1 b1 [.slice a0 n0 c0,.slice a1 n1 c1,.slice a2 n2 c2,.slice a3 n3 c3]):=r1.keeps (kB.zC (kC.zC k1)) (λh=>h);have R2:Hid (zB w1 b2 [k,num,nm,.slice ad l.length cap]):=r2.keeps (kC.zC k1) (λh=>h);have R4:Hid (zB w1 b4 [(0:Int),(0:Int),.string { data:=#[] },.slice none 0 0]):=r4.keeps k1 (λh=>h);have R5:=yA r5;have K1:Hid (Keeps zA w w1):=kA.zC (kB.zC (kC.zC k1));have HS:Hid (w.heap.size<=b1/\w.heap.size<=b2/\w.heap.size<=b4/\w.heap.size<=b5/\b1<w1.heap.size/\b2<w1.heap.size/\b4<w1.heap.size/\b5<w1.heap.size/\b1≠b5/\b2≠b5/\b4≠b5):=⟨by omega,by omega,by omega,by omega,by omega,by omega,by omega,by omega,by omega,by omega,by omega⟩;clear hwA hwB hwC hw1 kA kB kC k1 sA sB sC s1 r1 r2 r4 r5 hb1 hb2' hb4 hb5;obtain⟨x10,x11,x12,x13⟩:=R1.out.four;obtain⟨x20,x21,x22,x23⟩:=R2.out.four;obtain⟨x50,x51,x52,x53⟩:=R5.out.four;have f51:=R5.out.free (k:=1) (by simp);have f52:=R5.out.free (k:=2) (by simp);have ne1:b1≠b5:=HS.out.2.2.2.2.2.2.2.2.1;have ne2:b2≠b5:=HS.out.2.2.2.2.2.2.2.2.2.1;have ne4:b4≠b5:=HS.out.2.2.2.2.2.2.2.2.2.2;have HNN:Hid (zk w1 N (.slice a3 n3 c3) n3):=HN.out.keeps K1.out (λ_ _ h=>h)
 have HNC:Hid (∀W,Keeps (λq=>q=b5) w1 W->Calls Tryz.prog 145 #[.slice a3 n3 c3,num] W λe w'=>e=.returned (.string (nameAt n3 num))/\Keeps zA W w'):=
  λW hk=>zGM _ n3 num W (HNN.out.keeps hk (λq hq e=>by exact J214 _))
 have key:∃nm'' num'',nm''=nm'/\num''=num':=⟨_,_,rfl,rfl⟩
 rcases (show¬k=2\/(k=2/\ze nm=true)\/(k=2/\ze nm=false) by cases ze nm <;> simp <;> omega) with hk2|⟨hk2,hnn⟩|⟨hk2,hnn⟩
 case' inl =>
  rw[if_neg hk2] at hnum hnm;subst hnum hnm;go_upto_region 7 with fail
  obtain⟨w5,hw5⟩:=eX w1;have HW5:Hid (Keeps (λq=>q=b5) w1 w5):=by show Keeps _ _ _;rw[hw5];exact yB _ _
  have RW5:Hid (zB w5 b5 [k,num',nm',.slice none 0 0]):=by show zB _ _ _;rw[hw5];exact R5.out
  rw[<-hw5];clear hw5
 case' inr.inl =>
  rw[if_pos hk2] at hnum hnm;rw[if_pos hnn] at hnm;have hs1:=zBB hnn;subst hnum hnm hk2;have K51:Hid (Keeps (λq=>q=b5) w1 (w1.setCell ⟨b5,1,none⟩ (.int .i64 0))):=(yB (λq=>q=b5) w1).setCell (p:=⟨b5,1,none⟩) (λ_=>rfl) _;go_upto_region 7 with(go_at_call 145;refine(HNC.out _ K51.out).mono ?_;rintro e w2 ⟨rfl,g0⟩;have g:=K51.out.trans g0 (λ_ _ h=>False.elim h);have r0:=(R5.out.set 1 (by simp) (.int .i64 0)).keeps g0 (λh=>h);have y2:=r0.cell (k:=2) (v:=.string nm) rfl;have z2:=r0.free (k:=2) (by simp);have G:=yA g;have RR:=yA r0;clear g g0 r0)
  have HW5:Hid (Keeps (λq=>q=b5) w1 (w2.setCell ⟨b5,2,none⟩ (.string (nameAt n3 num)))):=G.out.setCell (p:=⟨b5,2,none⟩) (λ_=>rfl) _;have RW5:Hid (zB (w2.setCell ⟨b5,2,none⟩ (.string (nameAt n3 num))) b5 [.int .i64 2,.int .i64 0,.string (nameAt n3 num),.slice none 0 0]):=RR.out.set 2 (by simp) _;generalize w2.setCell ⟨b5,2,none⟩ (.string (nameAt n3 num))=w5 at HW5 RW5 ⊢;generalize nameAt n3 num=nm' at RW5 HPQ ⊢;clear y2 z2 G RR
 case' inr.inr =>
  rw[if_pos hk2] at hnum hnm;rw[if_neg (by rw[hnn];simp)] at hnm;have hs1:=zBC hnn;have hs2:=zA2 hnn;subst hnum hnm hk2;go_upto_region 7 with fail
  have HW5:Hid (Keeps (λq=>q=b5) w1 ((w1.setCell ⟨b5,1,none⟩ (.int .i64 0)).setCell ⟨b5,2,none⟩ (.string { data:=#[] }))):=((yB (λq=>q=b5) w1).setCell (p:=⟨b5,1,none⟩) (λ_=>rfl) _).setCell (p:=⟨b5,2,none⟩) (λ_=>rfl) _;have RW5:Hid (zB ((w1.setCell ⟨b5,1,none⟩ (.int .i64 0)).setCell ⟨b5,2,none⟩ (.string { data:=#[] })) b5 [.int .i64 2,.int .i64 0,(.string { data:=#[] }),.slice none 0 0]):=(R5.out.set 1 (by simp) _).set 2 (by simp) _;generalize (w1.setCell ⟨b5,1,none⟩ (.int .i64 0)).setCell ⟨b5,2,none⟩ (.string { data:=#[] })=w5 at HW5 RW5 ⊢;have RW6:Hid (zB w5 b5 [(2:Int),(0:Int),zw,.slice none 0 0]):=RW5;clear RW5;have RW5:=RW6;clear RW6
 all_goals (
  have T:∃kk nn mm,Hid (zB w5 b5 [.int .i64 kk,.int .i64 nn,.string mm,.slice none 0 0])/\Hid (∀(ad':Option Addr)(cap':Nat)(w':World),zR w' (Since w.heap.size w') (Ex.zS n3 l) ad'->Keeps zA w w'->Q (Ending.returned (.agg #[.int .i64 kk,.int .i64 nn,.string mm,.slice ad' l.length cap'])) w'):=⟨_,_,_,RW5,HPQ⟩
  obtain⟨kk,nn,mm,RX,HPX⟩:=T;have R1X:Hid (zB w5 b1 [.slice a0 n0 c0,.slice a1 n1 c1,.slice a2 n2 c2,.slice a3 n3 c3]):=R1.out.keeps HW5.out (λe=>ne1 e);have R2X:∃k0 m0 s0,Hid (zB w5 b2 [.int .i64 k0,.int .i64 m0,.string s0,.slice ad l.length cap]):=⟨_,_,_,R2.out.keeps HW5.out (λe=>ne2 e)⟩
  obtain⟨k0,m0,s0,R2X⟩:=R2X;have R4X:Hid (zB w5 b4 [(0:Int),(0:Int),.string { data:=#[] },.slice none 0 0]):=R4.out.keeps HW5.out (λe=>ne4 e);have hFb:Hid (∀q,F q->¬(λq=>q=b5) q):=λq hq e=>by have e':q=b5:=e;have:=HFs.out q hq;have:=HS.out.2.2.2.1;omega
  have hNb:Hid (∀q,N q->¬(λq=>q=b5) q):=λq hq e=>by exact J214 _
  have HL5:Hid (zR w5 F l ad):=((HL.out.keeps K1.out (λ_ _ h=>h)):zR w1 F l ad).keeps HW5.out hFb.out;have HN5:Hid (zk w5 N (.slice a3 n3 c3) n3):=HNN.out.keeps HW5.out hNb.out;have hS5:=HW5.out.size;have K5:Hid (Keeps zA w w5):=K1.out.trans HW5.out (λq hq e=>by have e':q=b5:=e;have:=HS.out.2.2.2.1;omega);obtain⟨B,hB⟩:=eX w5.heap.size;have HBE:Hid (B=w5.heap.size/\b1<B/\b2<B/\b4<B/\b5<B/\w.heap.size<=B):=⟨hB,by have:=HS.out;omega,by have:=HS.out;omega,by have:=HS.out;omega,by have:=HS.out;omega,by have:=K5.out.size;omega⟩;have z23:=R2X.out.cell (k:=3) (v:=.slice ad l.length cap) rfl;clear hS5 hB RW5 HPQ HNC HW5 R1 R2 R4 R5 HNN x10 x11 x12 x13 x20 x21 x22 x23 x50 x51 x52 x53 f51 f52 key K1 HL HN;go_wp2_with fail
  go_loopw [32] (λiv wr=>∃(i:Nat)(da:Option Addr)(dc:Nat)(css:List (List Value)),i<=l.length/\iv=.int .i64 i/\Hid (zB wr b5 [kk,nn,mm,.slice da i dc])/\Hid (Acc zBL (λ_=>False) B 4 144 wr (.slice da i dc) (Ex.zS n3 (l.take i)) css)/\Hid (Keeps (λq=>q=b5) w5 wr)) (λiv _=>l.length-(intOf iv).toNat)
  case atStart=>exact⟨0,none,0,[],yF _,rfl,RX,Acc.nil w5,yB _ _⟩
  case round =>
   obtain⟨i,da,dc,css,hi,rfl,RB,HA,HK⟩:=hrel;by_cases hlt:i<l.length
   ·have i1:(0:Int)<=i:=by omega
    have i2:(i:Int)<l.length:=by omega
    obtain⟨g,o,a,c,e1,hg,d0,d1,d2,d3,hx⟩:=(HL5.out.keeps HK.out hFb.out).at hlt;subst e1;have hNr:=HN5.out.keeps HK.out hNb.out;have hsz:w.heap.size<=wr.heap.size:=yX K5.out.size HK.out.size
    have HC:Hid (∀W,Keeps zA wr W->Calls Tryz.prog 143 #[.agg #[.slice a0 n0 c0,.slice a1 n1 c1,.slice a2 n2 c2,.slice a3 n3 c3],.agg #[.int .i64 l[i].kind,.int .i64 l[i].num,.string l[i].nm,.slice a l[i].args.length c]] W λe w'=>∃ad' cap',e=.returned (exV (l[i].named n3) ad' cap')/\zR w' (Since W.heap.size w') (l[i].named n3).args ad'/\Keeps zA W w'):=
     λW hk=>IH.out _ (yI hlt) W F N a a0 a1 a2 a3 c n0 n1 n2 n3 c0 c1 c2 c3 (hx.keeps hk (λ_ _ h=>h)) (hNr.keeps hk (λ_ _ h=>h)) (λq hq=>yH (HNs.out q hq) (yX hsz hk.size)) (λq hq=>yH (HFs.out q hq) (yX hsz hk.size)) (by have:=Ex.zCP (yI hlt);have:=HB2.out;omega)
    obtain⟨y,hy⟩:=eX (l[i].named n3);have HY:=yA hy;rw[<-hy] at HC;clear hx hNr hsz hy;generalize l[i].kind=x0 at d0 HC;generalize l[i].num=x1 at d1 HC;generalize l[i].nm=x2 at d2 HC;generalize l[i].args.length=x3 at d3 HC;go_upto_region 10 with fail
    obtain⟨b7,hb7⟩:=eX wr.heap.size;have hr7:zB (wr.alloc (.cells #[x0,x1,x2,.slice a x3 c] 144)) b7 [.int .i64 x0,.int .i64 x1,.string x2,.slice a x3 c]:=J174 _;have hk7:Keeps zA wr (wr.alloc (.cells #[x0,x1,x2,.slice a x3 c] 144)):=(yB _ _).alloc _;rw[<-hb7];generalize wr.alloc (.cells #[x0,x1,x2,.slice a x3 c] 144)=w7 at hr7 hk7 ⊢;have R7:=yA hr7;have K7:=yA hk7;clear hr7 hk7 hb7 d0 d1 d2 d3 z23
    refine zW 6 (by kernel_rfl) (by kernel_rfl) (Keeps zA) (yB zA) (λa b c h h'=>xJ h h') (zAz [some (.pointer (some ⟨b5,3,none⟩)),some (.slice da i dc),some (.agg #[.slice a0 n0 c0,.slice a1 n1 c1,.slice a2 n2 c2,.slice a3 n3 c3]),some (.agg #[x0,x1,x2,.slice a x3 c])] (λj v W=>match j with
     | 4=>∃ad2 cp2,v=.agg #[y.kind,y.num,y.nm,.slice ad2 y.args.length cp2]/\zR W (Since w7.heap.size W) y.args ad2
     | _=>∃b ad2 cp2,v=.slice (some ⟨b,0,none⟩) 1 1/\zB W b [y.kind,y.num,y.nm,.slice ad2 y.args.length cp2]/\zR W (Since w7.heap.size W) y.args ad2)) (vQ (λj v W W' h hk=>by
       revert h
       split
       ·exact J41 _
       ·rintro⟨b,ad2,cp2,e,h0,h1⟩;exact⟨b,ad2,cp2,e,h0.keeps hk (λh=>h),(h1.keeps hk (λ_ _ h=>h)).mono (λk hk'=>⟨hk'.1,yH hk'.2 hk.size⟩)⟩)) ?_ ?_
    ·intro q oo hq ho vs W Q' hR0 hd hK
     have hR:Keeps zA w7 W:=((yB zA w7).drew).zC hR0;have hRr:Keeps zA wr W:=K7.out.zC hR;obtain⟨y10,y11,y12,y13⟩:=((R1X.out.keeps HK.out (λe=>ne1 e)).keeps hRr (λh=>h)).four;obtain⟨y50,y51,y52,y53⟩:=(RB.out.keeps hRr (λh=>h)).four;obtain⟨y70,y71,y72,y73⟩:=(R7.out.keeps hR (λh=>h)).four;have HCW:=yA (HC.out W hRr);clear hRr HC hR0;rcases (show q=0\/q=1\/q=2\/q=3\/q=4\/q=5 by omega) with rfl|rfl|rfl|rfl|rfl|rfl
     all_goals (simp only[yC,yD,yN] at ho;subst ho;simp only[zJ,yC,yD,yO,Option.bind,Act.put,yE,yM,yJ] at hK ⊢;clear hq)
     ·exact J2 _
     ·exact J132 _
     ·exact J2 _
     ·exact J2 _
     ·have e2:vs 2=_:=hd 2 (by kernel_rfl)
      have e3:vs 3=_:=hd 3 (by kernel_rfl);rw[e2,e3] at hK ⊢;have HB7:Hid (w7.heap.size<=W.heap.size):=hR.size;clear hR;clear hd;go_wp2_with (go_at_call 143;refine(HCW.out.mono ?_);rintro e W1 ⟨ad2,cp2,rfl,s1,g1⟩)
      exact hK _ _ g1 ⟨ad2,cp2,rfl,s1.mono (λk hk=>⟨yX HB7.out hk.1,hk.2⟩)⟩
     ·obtain⟨ad2,cp2,e4,h4⟩:=(hd 4 (by kernel_rfl):∃ad2 cp2,vs 4=.agg #[y.kind,y.num,y.nm,.slice ad2 y.args.length cp2]/\zR W (λk=>w7.heap.size<=k/\k<W.heap.size) y.args ad2)
      exact J56 _
    ·intro vs W hR0 hF
     have hR:Keeps zA w7 W:=((yB zA w7).drew).zC hR0;have HRW:=yA hR;have HKW:Hid (Keeps zA wr W):=K7.out.zC hR;have e1:vs 1=_:=hF 1 (by decide);obtain⟨gs,ad2,cp2,e5,hgs,hys⟩:=(hF 5 (by decide):∃b ad2 cp2,vs 5=.slice (some ⟨b,0,none⟩) 1 1/\zB W b [y.kind,y.num,y.nm,.slice ad2 y.args.length cp2]/\zR W (Since w7.heap.size W) y.args ad2);have HGS:=yA hgs;have HYS:=yA hys;simp only[zJ,yC,yD,yO,Option.bind,Act.put,yE,yM,yJ,yZ,yU];rw[e1,e5];clear hF e1 e5;generalize vs 0=y0;generalize vs 2=y2;generalize vs 3=y3;generalize vs 4=y4;clear hR hR0 hgs hys HC;have HAW:Hid (Acc zBL (λ_=>False) B 4 144 W (.slice da i dc) (Ex.zS n3 (l.take i)) css):=HA.out.zG zIy HKW.out;have HLEN:Hid ((Ex.zS n3 (l.take i)).length=i):=by show _=_;rw[Ex.zBq,List.length_take];omega
     have RBW:Hid (zB W b5 [kk,nn,mm,.slice da i dc]):=RB.out.keeps HKW.out (λh=>h);have hOB:Hid (∀q,(Value.slice da i dc).ownBlock=some q->B<=q):=HA.out.2.2.1;have i3:i+1<=1000000000:=by omega
     go_upto_region 11 with(at_builtin;refine zI _ (by rfl) _ _ 142 (by rfl) 0 144 j0 _ 4 56 Tryz.underlying142 hj0 hz0 hz1 hz2 rfl (by decide) (.slice da i dc) i css.flatten (by rfl) (J188 _) (.slice (some ⟨gs,0,none⟩) 1 1) 1 [.int .i64 y.kind,.int .i64 y.num,.string y.nm,.slice ad2 y.args.length cp2] (by rfl) (xE HGS.out) rfl (J172 _) (by unfold maxLen;omega) (by omega) (yF _) ?_;intro da2 dc2 w4 ha;have HAO:=yA ha;have k4:=xD ha (yB (λq=>(Value.slice da i dc).ownBlock=some q) W) (λq e _=>e);have r4:=RBW.out.keeps k4 (λe=>by have:=hOB.out b5 e;have:=HBE.out;omega);have z3:=r4.cell (k:=3) (v:=.slice da i dc) rfl;have f3:=r4.free (k:=3) (by simp);have R4W:=yA r4;have K4W:=yA k4;clear ha k4 r4)
     have hel:zBL W (zB1 (λ_=>False) B W (.slice da i dc)) y [.int .i64 y.kind,.int .i64 y.num,.string y.nm,.slice ad2 y.args.length cp2]:=by
      refine zBL.zKm (HYS.out.mono (λk hk=>.inr ⟨?_,hk.2,λe=>?_⟩))
      ·have h1:=hk.1;have h2:=K7.out.size;have h3:=HK.out.size;have h4:=HBE.out.1;omega
      ·have h0:k<wr.heap.size:=zM HA.out.2.1 e
       have h1:=hk.1;have h2:=K7.out.size;omega
     have hBW:B<=W.heap.size:=J212 _;have hset:Keeps (λq=>q=b5) w4 (w4.setCell ⟨b5,3,none⟩ (.slice da2 (i+1) dc2)):=(yB (λq=>q=b5) w4).setCell (p:=⟨b5,3,none⟩) (λ_=>rfl) _
     have hpush:Acc zBL (λ_=>False) B 4 144 (w4.setCell ⟨b5,3,none⟩ (.slice da2 (i+1) dc2)) (.slice da2 (i+1) dc2) (Ex.zS n3 (l.take (i+1))) (css++[[.int .i64 y.kind,.int .i64 y.num,.string y.nm,.slice ad2 y.args.length cp2]]):=by
      have h1:=HAW.out.push zIy (λk hk=>hk.elim) hBW hel (by decide) (ad:=da2) (cap:=dc2) (w':=w4) (J199 _);rw[HLEN.out] at h1;have e:Ex.zS n3 (l.take (i+1))=Ex.zS n3 (l.take i)++[y]:=by rw[Ex.zAY,Ex.zAY,take_at hlt,List.map_append,HY.out];rfl
      rw[e];exact h1.keeps zIy hset (λk hk=>⟨by have e':k=b5:=hk;have:=HBE.out;omega,λh=>h⟩)
     have hrow:zB (w4.setCell ⟨b5,3,none⟩ (.slice da2 (i+1) dc2)) b5 [.int .i64 kk,.int .i64 nn,.string mm,.slice da2 (i+1) dc2]:=R4W.out.set 3 (by simp) _
     have hkeep:Keeps (λq=>q=b5) w5 (w4.setCell ⟨b5,3,none⟩ (.slice da2 (i+1) dc2)):=
      (((HK.out.trans HKW.out (λ_ _ h=>h.elim)).trans K4W.out (λq hq e=>by exact J219 _)).trans hset (λ_ _ h=>h))
     have HPU:=yA hpush;have HRO:=yA hrow;have HKE:=yA hkeep;clear hpush hrow hkeep hset hel hBW z3 f3;go_wp2_with fail
     go_roundw
     case rel=>exact⟨i+1,da2,dc2,css++[[.int .i64 y.kind,.int .i64 y.num,.string y.nm,.slice ad2 y.args.length cp2]],by omega,by go_num,HRO,HPU,HKE⟩
     case measure=>simp[intOf];omega
   ·obtain rfl:i=l.length:=by omega
    obtain⟨y50,y51,y52,y53⟩:=RB.out.four;have R4E:Hid (zB wr b4 [(0:Int),(0:Int),.string { data:=#[] },.slice none 0 0]):=R4X.out.keeps HK.out (λe=>ne4 e);obtain⟨y40,y41,y42,y43⟩:=R4E.out.four;have f40:=R4E.out.free (k:=0) (by simp);have f41:=R4E.out.free (k:=1) (by simp);have f42:=R4E.out.free (k:=2) (by simp);have f43:=R4E.out.free (k:=3) (by simp);clear z23;go_wp2_with fail
    have hrow:zB ((((wr.setCell ⟨b4,0,none⟩ (.int .i64 kk)).setCell ⟨b4,1,none⟩ (.int .i64 nn)).setCell ⟨b4,2,none⟩ (.string mm)).setCell ⟨b4,3,none⟩ (.slice da l.length dc)) b4 [.int .i64 kk,.int .i64 nn,.string mm,.slice da l.length dc]:=(((R4E.out.set 0 (by simp) _).set 1 (by simp) _).set 2 (by simp) _).set 3 (by simp) _;have hks:Keeps (λq=>q=b4) wr ((((wr.setCell ⟨b4,0,none⟩ (.int .i64 kk)).setCell ⟨b4,1,none⟩ (.int .i64 nn)).setCell ⟨b4,2,none⟩ (.string mm)).setCell ⟨b4,3,none⟩ (.slice da l.length dc)):=((((yB (λq=>q=b4) wr).setCell (p:=⟨b4,0,none⟩) (λ_=>rfl) _).setCell (p:=⟨b4,1,none⟩) (λ_=>rfl) _).setCell (p:=⟨b4,2,none⟩) (λ_=>rfl) _).setCell (p:=⟨b4,3,none⟩) (λ_=>rfl) _;generalize (((wr.setCell ⟨b4,0,none⟩ (.int .i64 kk)).setCell ⟨b4,1,none⟩ (.int .i64 nn)).setCell ⟨b4,2,none⟩ (.string mm)).setCell ⟨b4,3,none⟩ (.slice da l.length dc)=wE at hrow hks ⊢;refine xK (v:=.agg #[kk,nn,mm,.slice da l.length dc]) (by simp[results,Tryz.results143,go_sem,hrow.cell (k:=0) rfl,hrow.cell (k:=1) rfl,hrow.cell (k:=2) rfl,hrow.cell (k:=3) rfl]) rfl ?_
    refine HPX.out da dc wE ?_ ?_
    ·have hA:=HA.out
     rw[xS] at hA;obtain⟨h1,h2⟩:=hA.elems zIy (ad:=da) (n:=l.length) (cap:=dc) rfl;have h3:zR wr (λk=>False\/(B<=k/\k<wr.heap.size)) (Ex.zS n3 l) da:=⟨_,h1,h2⟩;refine(h3.keeps hks (λk hk e=>?_)).mono (λk hk=>?_)
     ·have e':k=b4:=e
      rcases hk with hk|hk
      ·exact hk
      ·have:=HBE.out;omega
     ·rcases hk with hk|hk
      ·exact hk.elim
      ·exact⟨by have:=HBE.out;omega,yH hk.2 hks.size⟩
    ·refine((K5.out.trans HK.out (λq hq e=>?_):Keeps zA w wr)).trans hks (λq hq e=>?_)
     ·have e':q=b5:=e;have:=HS.out;omega
     ·have e':q=b4:=e;have:=HS.out;omega)
theorem zRX(x:Ex):zOJ x:=Ex.ind (λk n s l ih=>zNf k n s l ih) x
