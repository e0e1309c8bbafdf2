/- Layer D: texts joined. -/
import Derived.Test.YtoapgjjepiopbaaGreatDoorD13
set_option linter.all false
set_option maxHeartbeats 1000000
set_option maxRecDepth 8000
namespace Go.Proofs.YtoapgjjepiopbaaGreatDoor
open Go.RowKit
abbrev vU:=@List.cons_append
abbrev uQ:=@Nat.add_zero
theorem J17(P:Prop) (h:P:=by
 have hc0:c=0:=by omega
 subst hc0;clear hrun h1 h2;obtain rfl:i=N:=by omega
 go_wp2_with fail
 go_ret
 first
  | exact⟨da,dc,by first|rfl|go_num,zAK.ofRow HO.out HN.out (λkb e=>⟨HB.out kb e,zM HO.out e⟩),HK.out⟩
  | exact⟨da,⟨dc,by first|rfl|go_num⟩,zAK.ofRow HO.out HN.out (λkb e=>⟨HB.out kb e,zM HO.out e⟩),HK.out⟩):P:=h
theorem J18(P:Prop) (h:P:=by
 go_wp2_with (first|(at_builtin;refine zI _ (by rfl) _ _ 51 (by rfl) 0 3 j0 _ 1 8 Tryz.underlying51 hj0 hz0 hz1 hz2 rfl (by decide) (.slice da i dc) i (zCR 1000000000 (x+y) i) (by rfl) (zD HO.out ((yB zA wr).alloc _) (λ_ _ h=>h)) (.slice (some ⟨wr.heap.size,0,none⟩) 1 1) 1 _ (by rfl) (xE (yK (yG wr _))) rfl (by intro q hq;simp only[xU,kR,or_false] at hq;rcases hq with rfl;rfl) (by unfold maxLen;omega) (by omega) (yF _) ?_;intro da2 dc2 w4 ha;have HA:=yA ha;clear ha)|(go_at_call 47;refine(HDG.out _ _ _ (by first|exact .inl ⟨rfl,rfl⟩|exact .inr ⟨rfl,rfl⟩) rfl).mono ?_;rintro e w2 ⟨rfl,rfl⟩))
 go_roundw
 case rel =>
  obtain⟨g1,g2,g3⟩:=grow HO.out HK.out HB.out (by rw[<-HD.out.1];congr 1 <;> omega) HA.out;exact⟨i+1,(d1+d2+c) / 1000000000,da2,dc2,by omega,by first|rfl|(congr 1 <;> omega),by first|rfl|(congr 1 <;> omega),by go_num,HD.out.2,by have:=HC2.out;omega,g1,g2,g3⟩
 case measure=>simp[intOf];omega):P:=h
theorem J19(P:Prop) (h:P:=by
 go_wp2_with (first|(at_builtin;refine zI _ (by rfl) _ _ 51 (by rfl) 0 3 j0 _ 1 8 Tryz.underlying51 hj0 hz0 hz1 hz2 rfl (by decide) (.slice da i dc) i (zCR 1000000000 (x*k) i) (by rfl) (zD HO.out ((yB zA wr).alloc _) (λ_ _ h=>h)) (.slice (some ⟨wr.heap.size,0,none⟩) 1 1) 1 _ (by rfl) (xE (yK (yG wr _))) rfl (by intro q hq;simp only[xU,kR,or_false] at hq;rcases hq with rfl;rfl) (by unfold maxLen;omega) (by omega) (yF _) ?_;intro da2 dc2 w4 ha;have HA:=yA ha;clear ha)|(go_at_call 47;refine HDG.out.mono ?_;rintro e w2 ⟨rfl,rfl⟩))
 go_roundw
 case rel =>
  obtain⟨g1,g2,g3⟩:=grow HO.out HK.out HB.out (by rw[<-HD.out.1];congr 1 <;> omega) HA.out;exact⟨i+1,(m+c) / 1000000000,da2,dc2,by omega,by first|rfl|(congr 1 <;> omega),by first|rfl|(congr 1 <;> omega),by go_num,HD.out.2,by have:=HC2.out;omega,g1,g2,g3⟩
 case measure=>simp[intOf];omega):P:=h
theorem J27(P:Prop) (h:P:=by
 clear HE hE1;subst hE;go_upto_region 3 with(go_at_call 83;refine(HA.out _ K1.out).mono ?_;rintro e w2 ⟨rfl,g2⟩;have r2:=R1.out.keeps g2 (λh=>h);have K2:=yA (K1.out.zC g2);have R2:=yA r2;clear g2 r2 d0 d1 d2)
 obtain⟨d0,d1,d2⟩:=R2.out.three;go_upto_region 5 with(go_at_call 84;refine(HD.out _ K2.out).mono ?_;rintro e w3 ⟨rfl,g3⟩;have r3:=R2.out.keeps g3 (λh=>h);have K3:=yA (K2.out.zC g3);have R3:=yA r3;clear g3 r3 d0 d1 d2)
 obtain⟨d0,d1,d2⟩:=R3.out.three;go_wp2_with (go_at_call 85;refine(HC.out _ K3.out).mono ?_;rintro e w4 ⟨rfl,g4⟩;have K4:=yA (K3.out.zC g4);clear g4)
 go_ret
 exact⟨rfl,K4.out⟩):P:=h
theorem J158(P:Prop) (h:P:=by
 have h1:¬i<p:=λh=>hlt (hrun.1 (.inl h))
 have h2:¬0<c:=λh=>hlt (hrun.1 (.inr h))
 have i1:¬(i:Int)<p:=by omega
 exact J17 _):P:=h
theorem J240(P:Prop)(h:P:=by have:=(zi (by decide) p x).2 e;omega):P:=h
theorem zLl(nm:ByteArray)(ts:List (List St))(w:World)(F:Nat->Prop)(pca pma ta:Option Addr)(pcn pcc pmn pmc tc c:Nat)(b:Nat)(h:zAh w F nm ts ta)(hF:¬F c)(hc:zB w c [(.int .i64 b)])(hb:zBt ts<900000000)(hbb:b+zBt ts<1000000000):
 Calls Tryz.prog 138 #[.agg #[.func (.func 141) #[] #[.pointer (some ⟨c,0,none⟩)],.func (.func 142) #[] #[.pointer (some ⟨c,0,none⟩)]],.agg #[.slice pca pcn pcc,.slice pma pmn pmc,.slice ta ts.length tc]] w λe w'=>e=.returned (.tuple #[])/\zB w' c [(.int .i64 ((b+zAO ts):Nat))]/\Keeps (λq=>q=c) w w':=by
 have HL:=yA h;have HF:=yA hF;have HCR:=yA hc;have HBB:=yA hbb;have hl:ts.length<=1000000000:=by have:=h.len;omega
 have HB:=yA hb;obtain⟨tot,ht⟩:=eX (α:=Nat) ((b+zAO ts));have HT0:=yA ht;rw[<-ht];have hlt0:=hc.lt (by simp);have hlt:=yA hlt0;clear h hF hc hb ht hlt0 hbb;go_enter Tryz.func138,Tryz.ntmps138
 go_upto_region 1 with fail
 obtain⟨b3,hb3⟩:=eX w.heap.size;obtain⟨b4,hb4⟩:=eX (w.heap.size+1);have hr3:zB ((w.alloc (.cells #[.func (.func 141) #[] #[.pointer (some ⟨c,0,none⟩)],.func (.func 142) #[] #[.pointer (some ⟨c,0,none⟩)]] 234)).alloc (.cells #[.slice pca pcn pcc,.slice pma pmn pmc,.slice ta ts.length tc] 102)) b3 [.func (.func 141) #[] #[.pointer (some ⟨c,0,none⟩)],.func (.func 142) #[] #[.pointer (some ⟨c,0,none⟩)]]:=J178 _;have hr4:zB ((w.alloc (.cells #[.func (.func 141) #[] #[.pointer (some ⟨c,0,none⟩)],.func (.func 142) #[] #[.pointer (some ⟨c,0,none⟩)]] 234)).alloc (.cells #[.slice pca pcn pcc,.slice pma pmn pmc,.slice ta ts.length tc] 102)) b4 [.slice pca pcn pcc,.slice pma pmn pmc,.slice ta ts.length tc]:=J189 _;have hk1:Keeps zA w ((w.alloc (.cells #[.func (.func 141) #[] #[.pointer (some ⟨c,0,none⟩)],.func (.func 142) #[] #[.pointer (some ⟨c,0,none⟩)]] 234)).alloc (.cells #[.slice pca pcn pcc,.slice pma pmn pmc,.slice ta ts.length tc] 102)):=((yB _ _).alloc _).alloc _;rw[<-hb4,<-hb3];generalize (w.alloc (.cells #[.func (.func 141) #[] #[.pointer (some ⟨c,0,none⟩)],.func (.func 142) #[] #[.pointer (some ⟨c,0,none⟩)]] 234)).alloc (.cells #[.slice pca pcn pcc,.slice pma pmn pmc,.slice ta ts.length tc] 102)=w1 at hr3 hr4 hk1 ⊢;have HNE:Hid (b3≠c):=by show _≠_;have:=hlt.out;omega
 have R3:=yA hr3;have K1:=yA hk1;have RC:Hid (zB w1 c [(.int .i64 b)]):=HCR.out.keeps hk1 (λh=>h);have HLC:Hid (c<w1.heap.size):=RC.out.lt (by simp);obtain⟨d0,d1,d2⟩:=hr4.three;clear hr3 hr4 hk1 hb3 hb4 HCR;go_wp2_with fail
 clear d0 d1 d2;go_loopw [9] (λiv wr=>∃(i:Nat)(v:Nat),i<=ts.length/\iv=.int .i64 i/\Hid (zB wr c [(.int .i64 v)])/\Hid ((v+zAO (ts.drop i))=tot)/\Hid (Keeps (λq=>q=c) w1 wr)) (λiv _=>ts.length-(intOf iv).toNat)
 case atStart=>exact⟨0,b,yF _,rfl,RC,by show _=_;rw[yU];exact HT0.out.symm,yB _ _⟩
 case round =>
  obtain⟨i,v,hi,rfl,HV,HD,HK⟩:=hrel;by_cases hlt:i<ts.length
  ·have i1:(0:Int)<=i:=by omega
   have i2:(i:Int)<ts.length:=by omega
   have hd:=HD.out;rw[drop_at hlt] at hd;simp only[zAO] at hd;have hFc:∀q,F q->¬(λq=>q=c) q:=λq hq e=>HF.out (J187 _)
   obtain⟨g,o,ba,bc,e1,hg,d0,d1,hx⟩:=((HL.out.keeps K1.out (λ_ _ h=>h):zAh w1 F nm ts ta).keeps HK.out hFc).at hlt;subst e1;have hsz:=zDq (yI hlt);have hB:=HB.out;obtain⟨v1,hv1⟩:=eX (α:=Nat) ((v+St.zT ts[i]));have hBB:=HBB.out;have hT0:=HT0.out;have hroom:=zM5 i ts;rw[drop_at hlt] at hroom;simp only[zBt,zAO] at hroom;have hv:v+St.szL ts[i]<1000000000:=by omega
   have HS:Hid (∀W,Keeps zA wr W->Calls Tryz.prog 191 #[.agg #[.func (.func 141) #[] #[.pointer (some ⟨c,0,none⟩)],.func (.func 142) #[] #[.pointer (some ⟨c,0,none⟩)]],.slice ba ts[i].length bc,(1:Int)] W λe w'=>e=.returned (.tuple #[])/\zB w' c [(.int .i64 v1)]/\Keeps (λq=>q=c) W w'):=by
    rw[hv1];exact λW hk=>zQ0 ts[i] W F ba bc c 1 v (hx.keeps hk (λ_ _ h=>h)) HF.out (HV.out.keeps hk (λh=>h)) (by omega) hv
   have HDN:Hid ((v1+zAO (ts.drop (i+1)))=tot):=by
    show _=_
    rw[hv1];omega
   clear hx hFc hd hsz hB hv1 hBB hT0 hv hroom;generalize ts[i].length=x1 at d1 HS;go_upto_region 4 with fail
   obtain⟨b7,hb7⟩:=eX wr.heap.size;have hr7:zB (wr.alloc (.cells #[nm,.slice ba x1 bc] 111)) b7 [.string nm,.slice ba x1 bc]:=J174 _;have hk7:Keeps zA wr (wr.alloc (.cells #[nm,.slice ba x1 bc] 111)):=(yB _ _).alloc _;rw[<-hb7];generalize wr.alloc (.cells #[nm,.slice ba x1 bc] 111)=w7 at hr7 hk7 ⊢;have y1:=hr7.cell (k:=1) (v:=.slice ba x1 bc) rfl;have r3:=(R3.out.keeps HK.out (λe=>HNE.out e)).keeps hk7 (λh=>h);have q0:=r3.cell (k:=0) (v:=.func (.func 141) #[] #[.pointer (some ⟨c,0,none⟩)]) rfl;have q1:=r3.cell (k:=1) (v:=.func (.func 142) #[] #[.pointer (some ⟨c,0,none⟩)]) rfl;exact J25 _
  ·obtain rfl:i=ts.length:=by omega
   have hd:=HD.out;rw[xO] at hd;simp only[zAO] at hd;exact J149 _
theorem zGw(nm:ByteArray)(ts:List (List St))(w:World)(F:Nat->Prop)(pca pma ta:Option Addr)(pcn pcc pmn pmc tc:Nat)(h:zAh w F nm ts ta)(hF:∀k,F k->k<w.heap.size)(hb:zBt ts<900000000):
 Calls Tryz.prog 85 #[.agg #[.slice pca pcn pcc,.slice pma pmn pmc,.slice ta ts.length tc]] w λe w'=>e=.returned (.int .i64 (zAO ts:Nat))/\Keeps zA w w':=by
 have hmf:∀(fn:Fn)(first cap:Array Value)(w:World),(Instr.makeFunc fn first cap).run Tryz.prog w=.ok (.func fn first cap) w:=λ_ _ _ _=>rfl
 have HL:=yA h;have HF:=yA hF;have HB:=yA hb;obtain⟨r,hr⟩:=eX (α:=Nat) (zAO ts);have HR:=yA hr;rw[<-hr];obtain⟨n,hn⟩:=eX ts.length;have HNL:=yA hn;rw[<-hn];clear h hF hb hr hn;go_enter Tryz.func85,Tryz.ntmps85
 go_upto_region 2 with fail
 obtain⟨b1,hb1⟩:=eX w.heap.size;obtain⟨c,hc⟩:=eX (w.heap.size+1);have hr1:zB ((w.alloc (.cells #[.slice pca pcn pcc,.slice pma pmn pmc,.slice ta n tc] 102)).alloc (.cells #[(0:Int)] 3)) b1 [.slice pca pcn pcc,.slice pma pmn pmc,.slice ta n tc]:=J218 _;have hrc:zB ((w.alloc (.cells #[.slice pca pcn pcc,.slice pma pmn pmc,.slice ta n tc] 102)).alloc (.cells #[(0:Int)] 3)) c [.int .i64 (0:Nat)]:=J237 _;have hk1:Keeps zA w ((w.alloc (.cells #[.slice pca pcn pcc,.slice pma pmn pmc,.slice ta n tc] 102)).alloc (.cells #[(0:Int)] 3)):=((yB _ _).alloc _).alloc _;have HCW:Hid (w.heap.size<=c):=by show _<=_;omega
 rw[<-hc,<-hb1];generalize (w.alloc (.cells #[.slice pca pcn pcc,.slice pma pmn pmc,.slice ta n tc] 102)).alloc (.cells #[(0:Int)] 3)=w1 at hr1 hrc hk1 ⊢;obtain⟨d0,d1,d2⟩:=hr1.three
 have HP:Hid (Calls Tryz.prog 138 #[.agg #[.func (.func 141) #[] #[.pointer (some ⟨c,0,none⟩)],.func (.func 142) #[] #[.pointer (some ⟨c,0,none⟩)]],.agg #[.slice pca pcn pcc,.slice pma pmn pmc,.slice ta n tc]] w1 λe w'=>e=.returned (.tuple #[])/\zB w' c [r]/\Keeps (λq=>q=c) w1 w'):=by
  have h1:=zLl nm ts w1 F pca pma ta pcn pcc pmn pmc tc c 0 (HL.out.keeps hk1 (λ_ _ h=>h)) (λh=>by have:=HF.out c h;have:=HCW.out;omega) hrc HB.out (by have:=HB.out;omega);rw[HNL.out,HR.out];have e:0+zAO ts=zAO ts:=by omega
  rw[e] at h1;exact h1
 have K1:=yA hk1;clear hr1 hrc hk1 hc hb1;go_upto_region 3 with(go_at_call 138;refine HP.out.mono ?_;rintro e w2 ⟨rfl,r2,g2⟩;have cc:=r2.cell (k:=0) (v:=.int .i64 r) rfl;have G2:=yA g2;clear r2 g2)
 clear d0 d1 d2;go_wp2_with fail
 go_ret
 exact⟨rfl,K1.out.trans G2.out (λq hq e=>by exact J209 _)⟩
def zDX(cs:List Int)(ts:List (List St)):Int:=
 if (cs.all zCb&&zAn ts)=false then 30 else if 16<zAF ts then 31 else if 500<zAO ts then 32 else 0
theorem zJy(cs:List Int)(ts:List (List St)):(zDX cs ts=0)↔((cs.all zCb&&zAn ts)=true/\zAF ts<=16/\zAO ts<=500):=by
 unfold zDX;cases h:(cs.all zCb&&zAn ts)
 ·simp
 ·by_cases h1:16<zAF ts
  ·simp[h1] <;> omega
  ·by_cases h2:500<zAO ts
   ·simp[h1,h2] <;> omega
   ·simp[h1,h2] <;> omega
theorem zG7(cs:List Int)(mn:Nat)(ts:List (List St))(w:World)(F:Nat->Prop)(ca ma ta:Option Addr)(cc mc tc:Nat)(hcl:zCa w F cs ca)(hms:zk w F (.slice ma mn mc) mn)(h:zAh w F xNm ts ta)(hnn:zDS ts)(hF:∀k,F k->k<w.heap.size)(hb:zBt ts<900000000)(hcs:cs.length<=1000)(hmn:mn<=1000):
 Calls Tryz.prog 43 #[.agg #[.slice ca cs.length cc,.slice ma mn mc,.slice ta ts.length tc]] w λe w'=>e=.returned (.int .i64 (zDX cs ts))/\Keeps zA w w':=by
 have HA:Hid (∀W,Keeps zA w W->Calls Tryz.prog 83 #[.agg #[.slice ca cs.length cc,.slice ma mn mc,.slice ta ts.length tc]] W λe w'=>e=.returned (.bool (cs.all zCb&&zAn ts))/\Keeps zA W w'):=
  λW hk=>zIH cs mn ts W F ca ma ta cc mc tc (hcl.keeps hk (λ_ _ h=>h)) (hms.keeps hk (λ_ _ h=>h)) (h.keeps hk (λ_ _ h=>h)) hnn (λq hq=>yH (hF q hq) hk.size) hb hcs hmn
 have HD:Hid (∀W,Keeps zA w W->Calls Tryz.prog 84 #[.agg #[.slice ca cs.length cc,.slice ma mn mc,.slice ta ts.length tc]] W λe w'=>e=.returned (.int .i64 (zAF ts:Nat))/\Keeps zA W w'):=
  λW hk=>zID xNm ts W F ca ma ta cs.length cc mn mc tc (h.keeps hk (λ_ _ h=>h)) (λq hq=>yH (hF q hq) hk.size) hb
 have HC:Hid (∀W,Keeps zA w W->Calls Tryz.prog 85 #[.agg #[.slice ca cs.length cc,.slice ma mn mc,.slice ta ts.length tc]] W λe w'=>e=.returned (.int .i64 (zAO ts:Nat))/\Keeps zA W w'):=
  λW hk=>zGw xNm ts W F ca ma ta cs.length cc mn mc tc (h.keeps hk (λ_ _ h=>h)) (λq hq=>yH (hF q hq) hk.size) hb
 have hb1:=zFa ts;have hb2:=zIs ts;have HE:Hid (zDX cs ts=if (cs.all zCb&&zAn ts)=false then 30 else if 16<zAF ts then 31 else if 500<zAO ts then 32 else 0):=rfl;generalize zDX cs ts=E at HE ⊢;generalize (cs.all zCb&&zAn ts)=A at HA HE;obtain⟨D,hD⟩:=eX (zAF ts);obtain⟨C,hC⟩:=eX (zAO ts);rw[<-hD] at HD HE hb1;rw[<-hC] at HC HE hb2;have q1:D<1000000000:=by omega
 have q2:C<1000000000:=by omega
 clear h hcl hms hF hb hnn hb1 hb2 hcs hmn hD hC;generalize cs.length=n1 at HA HD HC ⊢;generalize ts.length=n3 at HA HD HC ⊢;go_enter Tryz.func43,Tryz.ntmps43
 go_upto_region 1 with fail
 obtain⟨b1,hb1⟩:=eX w.heap.size;have hr1:zB (w.alloc (.cells #[.slice ca n1 cc,.slice ma mn mc,.slice ta n3 tc] 102)) b1 [.slice ca n1 cc,.slice ma mn mc,.slice ta n3 tc]:=J169 _;have hk1:Keeps zA w (w.alloc (.cells #[.slice ca n1 cc,.slice ma mn mc,.slice ta n3 tc] 102)):=(yB _ _).alloc _;rw[<-hb1];generalize w.alloc (.cells #[.slice ca n1 cc,.slice ma mn mc,.slice ta n3 tc] 102)=w1 at hr1 hk1 ⊢;obtain⟨d0,d1,d2⟩:=hr1.three;have R1:=yA hr1;have K1:=yA hk1;clear hr1 hk1 hb1;cases A
 ·have hE:E=30:=by rw[HE.out];rfl
  clear HE;subst hE;go_wp2_with (go_at_call 83;refine(HA.out _ K1.out).mono ?_;rintro e w2 ⟨rfl,g2⟩;have G2:=yA g2;clear g2)
  go_ret
  exact⟨rfl,K1.out.zC G2.out⟩
 ·have hE1:E=if 16<D then 31 else if 500<C then 32 else 0:=by rw[HE.out];rfl
  rcases xR 16 D with h1|h1
  ·have hE:E=31:=by rw[hE1,if_pos h1]
   have h1i:(16:Int)<D:=by omega
   clear HE hE1;subst hE;go_upto_region 3 with(go_at_call 83;refine(HA.out _ K1.out).mono ?_;rintro e w2 ⟨rfl,g2⟩;have r2:=R1.out.keeps g2 (λh=>h);have K2:=yA (K1.out.zC g2);have R2:=yA r2;clear g2 r2 d0 d1 d2)
   obtain⟨d0,d1,d2⟩:=R2.out.three;go_wp2_with (go_at_call 84;refine(HD.out _ K2.out).mono ?_;rintro e w3 ⟨rfl,g3⟩;have K3:=yA (K2.out.zC g3);clear g3)
   go_ret
   exact⟨rfl,K3.out⟩
  ·have h1':¬16<D:=by omega
   have h1i:¬(16:Int)<D:=by omega
   rcases xR 500 C with h2|h2
   ·have hE:E=32:=by rw[hE1,if_neg h1',if_pos h2]
    have h2i:(500:Int)<C:=by omega
    exact J27 _
   ·have h2':¬500<C:=by omega
    have h2i:¬(500:Int)<C:=by omega
    have hE:E=0:=by rw[hE1,if_neg h1',if_neg h2']
    exact J27 _
def zCq(u:Un)(bs:List Bd):List (List St):=bs.map λb=>Ac.zS u b.regs b.acts
theorem zKd(u:Un)(bs:List Bd):zAn (zCq u bs)=bs.all λb=>Ac.zAC u b.regs b.acts:=by
 induction bs with
 | nil=>rfl
 | cons b r ih =>
   have ih':zAn (r.map λb=>Ac.zS u b.regs b.acts)=r.all λb=>Ac.zAC u b.regs b.acts:=ih
   simp only[zCq,uO,zAn,List.all_cons,Ac.zCz,ih']
theorem zKF(u:Un)(bs:List Bd):zAF (zCq u bs)=(bs.map λb=>Ac.zu 1 b.acts).foldr max 0:=by
 induction bs with
 | nil=>rfl
 | cons b r ih =>
   have ih':zAF (r.map λb=>Ac.zS u b.regs b.acts)=(r.map λb=>Ac.zu 1 b.acts).foldr max 0:=ih;simp only[zCq,uO,zAF,List.foldr_cons,Ac.zCy,ih']
theorem zL4(u:Un)(bs:List Bd):zAO (zCq u bs)=(bs.map λb=>Ac.zT b.acts).foldr (·+·) 0:=by
 induction bs with
 | nil=>rfl
 | cons b r ih =>
   have ih':zAO (r.map λb=>Ac.zS u b.regs b.acts)=(r.map λb=>Ac.zT b.acts).foldr (·+·) 0:=ih;simp only[zCq,uO,zAO,List.foldr_cons,Ac.zBs,ih']
def zEa(u:Un):Prop:=1<=u.threads.length/\u.threads.length<=8/\u.cells.length<=8/\0<=u.mutexes/\u.mutexes<=8
theorem zFD{u:Un}(h:¬zEa u):zX u=false:=by
 unfold zX;by_cases h1:1<=u.threads.length
 ·by_cases h2:u.threads.length<=8
  ·by_cases h3:u.cells.length<=8
   ·by_cases h4:0<=u.mutexes
    ·by_cases h5:u.mutexes<=8
     ·exact absurd ⟨h1,h2,h3,h4,h5⟩ h
     ·simp[h5]
    ·simp[h4]
   ·simp[h3]
  ·simp[h2]
 ·simp[h1]
theorem zHH{u:Un}{b:Bd}(hb:b∈u.threads)(h:¬(0<=b.regs/\b.regs<=8)):zX u=false:=by
 have h1:(u.threads.all λb=>decide (0<=b.regs)&&decide (b.regs<=8)&&Ac.zAC u b.regs b.acts)=false:=by
  rw[Bool.eq_false_iff];intro e
  have:=xB.1 e b hb
  simp only[yS,yV] at this;exact h this.1
 unfold zX;rw[h1];simp
theorem zNC{u:Un}(h:zEa u)(hr:∀b,b∈u.threads->0<=b.regs/\b.regs<=8):zX u=decide (zDX u.cells (zCq u u.threads)=0):=by
 have h1:(u.threads.all λb=>decide (0<=b.regs)&&decide (b.regs<=8)&&Ac.zAC u b.regs b.acts)=u.threads.all λb=>Ac.zAC u b.regs b.acts:=by
  rw[Bool.eq_iff_iff,xB,xB];constructor
  ·intro e b hb
   have:=e b hb
   simp only[yS,yV] at this;exact this.2
  ·intro e b hb
   have:=hr b hb
   simp only[yS,yV];exact⟨this,e b hb⟩
 have h2:decide (zDX u.cells (zCq u u.threads)=0)=(u.cells.all zCb&&(u.threads.all λb=>Ac.zAC u b.regs b.acts)&&decide ((u.threads.map λb=>Ac.zu 1 b.acts).foldr max 0<=16)&&decide ((u.threads.map λb=>Ac.zT b.acts).foldr (·+·) 0<=500)):=by
  rw[Bool.eq_iff_iff,<-zKd u,<-zKF u,<-zL4 u];simp only[yV,yS,zJy];constructor
  ·rintro⟨a,b,c⟩;exact⟨⟨a,b⟩,c⟩
  ·rintro⟨⟨a,b⟩,c⟩;exact⟨a,b,c⟩
 rw[h2];unfold zX;rw[h1];simp[h.1,h.2.1,h.2.2.1,h.2.2.2.1,h.2.2.2.2]
mutual
theorem Ac.zMi(u:Un)(regs:Int):(x:Ac)->(x.named u regs).sz=x.sz
 | .mk k reg obj ex count t e=>by
   have h1:=Ac.zD2 u regs t;have h2:=Ac.zD2 u regs e;simp only[Ac.named,St.sz,Ac.sz,h1,h2,Ex.zDK]
theorem Ac.zD2(u:Un)(regs:Int):(l:List Ac)->St.szL (Ac.zS u regs l)=Ac.szL l
 | []=>rfl
 | x :: r=>by
   have h1:=Ac.zMi u regs x;have h2:=Ac.zD2 u regs r;simp only[Ac.zS,St.szL,Ac.szL,h1,h2]
end
def zAj:List Bd->Nat
 | []=>0
 | b :: r=>1+Ac.szL b.acts+zAj r
theorem zDk{bs:List Bd}{b:Bd}(h:b∈bs):Ac.szL b.acts<zAj bs:=by
 induction bs with
 | nil=>cases h
 | cons x r ih =>
   simp only[zAj];rcases xU.1 h with e|e
   ·subst e;omega
   ·have:=ih e;omega
theorem zNj(u:Un)(bs:List Bd):zBt (zCq u bs)=zAj bs:=by
 induction bs with
 | nil=>rfl
 | cons b r ih =>
   have ih':zBt (r.map λb=>Ac.zS u b.regs b.acts)=zAj r:=ih;simp only[zCq,uO,zBt,zAj,Ac.zD2,ih']
theorem zKA(u:Un)(bs:List Bd)(h:∀b,b∈bs->Ac.zBe b.acts):zDS (zCq u bs):=by
 induction bs with
 | nil=>trivial
 | cons b r ih =>
   have ih':zDS (r.map λb=>Ac.zS u b.regs b.acts):=ih (λb hb=>h b (vG _ hb));simp only[zCq,uO,zDS];exact⟨Ac.zBP u b.regs b.acts (h b (vW ..)),ih'⟩
def zFP:zA5 Nat:=λw F n cs=>∃ra rc,cs=[.slice ra n rc]/\zk w F (.slice ra n rc) n
theorem zOr:zAU zFP 1:=⟨λh hk hS=>by exact J215 _,λh hF=>by exact J221 _,λh=>by obtain⟨ba,bc,e,h1⟩:=h;rw[e];rfl⟩
theorem Acc.rgs{w:World}{B n cap:Nat}{ty:TypeId}{ad:Option Addr}{rs:List Nat}{css:List (List Value)}(h:Acc zFP (λ_=>False) B 1 ty w (.slice ad n cap) rs css):zEH w (Since B w) rs ad:=by
 obtain⟨h1,h2⟩:=h.elems zOr (ad:=ad) (n:=n) (cap:=cap) rfl;intro i hi
 obtain⟨g,o,e,hg,hl,hc⟩:=h1 i hi;obtain⟨ba,bc,hR',hs⟩:=h2 i rs[i] (yL hi);have hc0:=hc 0 (.slice ba rs[i] bc) (by show(css.getD i [])[_]?=_;rw[hR'];rfl);have hm:∀k,(False\/(B<=k/\k<w.heap.size))->Since B w k:=λk hk=>hk.elim False.elim (λh=>h)
 rw[Nat.mul_one,uQ] at hc0;exact⟨g,o,ba,bc,e,hm g hg,hc0,hs.mono hm⟩
theorem zJh:(Tryz.prog.info? 93).map (λi=>(i.zero,i.size,i.bytes))=some (some (.slice none 0 0),1,24):=by kernel_rfl
theorem zEH.mono{F F':Nat->Prop}{w:World}{rs:List Nat}{ad:Option Addr}(h:zEH w F rs ad)(hF:∀k,F k->F' k):zEH w F' rs ad:=by
 intro i hi
 obtain⟨g,o,ra,rc,e,hg,c0,h1⟩:=h i hi;exact⟨g,o,ra,rc,e,hF g hg,c0,h1.mono hF⟩
mutual
def Ex.pts:Ex->Nat
 | .mk k _ _ l=>if k=0 then 0 else 1+Ex.zGX l
def Ex.zGX:List Ex->Nat
 | []=>0
 | x :: r=>Ex.pts x+Ex.zGX r
end
theorem zMM{k num regs:Int}{nm:ByteArray}{n:Nat}(h:zAE k num nm n regs=true):k≠0:=by
 intro e;subst e;simp[zAE] at h
mutual
theorem Ex.zKz(regs:Int):(x:Ex)->x.may regs=true->x.pts=x.cnt
 | .mk k num nm l,h=>by
   simp only[Ex.may,yS] at h;have h1:=Ex.zJb regs l h.2;simp only[Ex.pts,Ex.cnt,if_neg (zMM h.1),h1]
theorem Ex.zJb(regs:Int):(l:List Ex)->Ex.zAC regs l=true->Ex.zGX l=Ex.zT l
 | [],_=>rfl
 | x :: r,h=>by
   simp only[Ex.zAC,yS] at h;have h1:=Ex.zKz regs x h.1;have h2:=Ex.zJb regs r h.2;simp only[Ex.zGX,Ex.zT,h1,h2]
end
mutual
theorem Ex.zNq:(x:Ex)->x.pts<=x.cnt
 | .mk k num nm l=>by
   have h:=Ex.zIW l;simp only[Ex.pts,Ex.cnt];split <;> omega
theorem Ex.zIW:(l:List Ex)->Ex.zGX l<=Ex.zT l
 | []=>yT _
 | x :: r=>by
   have h1:=Ex.zNq x;have h2:=Ex.zIW r;simp only[Ex.zGX,Ex.zT];omega
end
def Ex.own(x:Ex):Nat:=1+(if x.kind=0 then 0 else x.cnt)
theorem Ex.zQp(x:Ex):x.own<=1+x.cnt:=by unfold Ex.own;split <;> omega
mutual
def Ac.stp:Ac->Nat
 | .mk k _ _ _ c t e=>if k=1 then 0 else if k=10 then max (Ac.zh t) (Ac.zh e) else if k=11 then Ac.zh t*c.toNat else 1
def Ac.zh:List Ac->Nat
 | []=>0
 | x :: r=>Ac.stp x+Ac.zh r
end
mutual
def Ac.wrk:Ac->Nat
 | .mk k _ _ x c t e=>x.own+(if k=10 then max (Ac.zY t) (Ac.zY e) else if k=11 then (Ac.zY t+1)*c.toNat else 0)
def Ac.zY:List Ac->Nat
 | []=>0
 | x :: r=>Ac.wrk x+Ac.zY r
end
mutual
def Ac.okc:Ac->Prop
 | .mk _ _ _ x c t e=>(0<=c/\c<=1000)/\x.pts=(if x.kind=0 then 0 else x.cnt)/\Ac.zD7 t/\Ac.zD7 e
def Ac.zD7:List Ac->Prop
 | []=>True
 | x :: r=>Ac.okc x/\Ac.zD7 r
end
theorem Ac.zGO{l:List Ac}(h:Ac.zD7 l){y:Ac}(hy:y∈l):y.okc:=by
 induction l with
 | nil=>cases hy
 | cons x r ih =>
   simp only[Ac.zD7] at h;rcases xU.1 hy with e|e
   ·subst e;exact h.1
   ·exact ih h.2 e
theorem Ac.zJv{x:Ac}(h:x.okc):(0<=x.count/\x.count<=1000)/\x.ex.pts=(if x.ex.kind=0 then 0 else x.ex.cnt)/\Ac.zD7 x.thn/\Ac.zD7 x.els:=by
 cases x;simp only[Ac.okc] at h;exact h
theorem Ac.zFZ(x:Ac):x.stp=if x.kind=1 then 0 else if x.kind=10 then max (Ac.zh x.thn) (Ac.zh x.els) else if x.kind=11 then Ac.zh x.thn*x.count.toNat else 1:=by
 cases x;simp only[Ac.stp];rfl
theorem Ac.zHv(x:Ac):x.wrk=x.ex.own+(if x.kind=10 then max (Ac.zY x.thn) (Ac.zY x.els) else if x.kind=11 then (Ac.zY x.thn+1)*x.count.toNat else 0):=by
 cases x;simp only[Ac.wrk];rfl
theorem zQs{x:Ex}{regs:Int}(h:x.may regs=true\/x.none=true):x.pts=(if x.kind=0 then 0 else x.cnt):=by
 rcases h with h|h
 ·have h1:=Ex.zKz regs x h
  have h2:=zBU h;rw[if_neg h2,h1]
 ·cases x with
  | mk k num nm l =>
    simp only[Ex.none,yS,beq_iff_eq] at h;have hk:=h.1.1.1;subst hk;show Ex.pts (.mk 0 num nm l)=if (0:Int)=0 then 0 else _
    simp[Ex.pts]
mutual
theorem Ac.zPg(u:Un)(regs:Int):(x:Ac)->Ac.may u regs x=true->x.okc
 | .mk k reg obj ex count t e,h=>by
   simp only[Ac.may,yS] at h;have h1:=Ac.zEi u regs t h.1.2;have h2:=Ac.zEi u regs e h.2;have h3:=h.1.1;unfold zBH at h3;simp only[yS] at h3;obtain⟨⟨⟨⟨⟨⟨⟨_,_⟩,_⟩,_⟩,hx⟩,hc⟩,_⟩,_⟩:=h3;simp only[Ac.okc];refine⟨?_,zQs (regs:=regs) ?_,h1,h2⟩
   ·cases hf:(fields k).count
    ·rw[hf] at hc
     have:count=0:=by simpa using hc
     subst this;exact⟨by decide,by decide⟩
    ·rw[hf] at hc
     simp only[if_true,yS,yV] at hc;exact hc
   ·cases hf:(fields k).ex
    ·rw[hf] at hx;exact .inr (by simpa using hx)
    ·rw[hf] at hx;exact .inl (by simpa using hx)
theorem Ac.zEi(u:Un)(regs:Int):(l:List Ac)->Ac.zAC u regs l=true->Ac.zD7 l
 | [],_=>trivial
 | x :: r,h=>by
   simp only[Ac.zAC,yS] at h;simp only[Ac.zD7];exact⟨Ac.zPg u regs x h.1,Ac.zEi u regs r h.2⟩
end
theorem zQZ(n:Nat):n+1<=2 ^ n:=Nat.lt_two_pow_self
mutual
theorem Ac.zQN:(x:Ac)->x.okc->x.wrk+1<=2 ^ (11*x.sz)
 | .mk k reg obj ex c t e,h=>by
   simp only[Ac.okc] at h;have h1:=Ac.zEp t h.2.2.1;have h2:=Ac.zEp e h.2.2.2;have h3:=Ex.zQp ex;have hc:c.toNat<=1000:=by omega
   have hq:2048*(ex.cnt+1)<=2 ^ (11*(1+ex.cnt)):=by
    have h4:=zQZ (11*ex.cnt);rw[show 11*(1+ex.cnt)=11+11*ex.cnt by omega,Nat.pow_add];exact Nat.mul_le_mul (by decide) (by omega)
   simp only[Ac.wrk,Ac.sz];rw[vR,vR,Nat.pow_add,Nat.pow_add];generalize 2 ^ (11*(1+ex.cnt))=Q at hq ⊢;generalize 2 ^ (11*Ac.szL t)=A at h1 ⊢;generalize 2 ^ (11*Ac.szL e)=B at h2 ⊢;have hA:1<=A:=by omega
   have hB:1<=B:=by omega
   have hAB:max A B<=A*B:=by
    rcases Nat.le_total A B with hh|hh
    ·rw[Nat.max_eq_right hh];exact Nat.le_mul_of_pos_left B hA
    ·rw[Nat.max_eq_left hh];exact vK A hB
   have hA2:A<=A*B:=vK A hB;rw[Nat.mul_assoc];generalize A*B=P at hAB hA2 ⊢;have hP:1<=P:=by omega
   have key:∀z,z<=1000*P->ex.own+z+1<=Q*P:=λz hz=>by
    have h5:2048*(ex.cnt+1)*P<=Q*P:=kH P hq;have h6:ex.cnt+1<=(ex.cnt+1)*P:=vK _ hP;rw[Nat.mul_assoc] at h5;have h7:P<=(ex.cnt+1)*P:=Nat.le_mul_of_pos_left P (by omega);omega
   split
   ·exact key _ (by omega)
   ·split
    ·refine key _ ?_
     have h8:(Ac.zY t+1)*c.toNat<=P*1000:=Nat.mul_le_mul (by omega) hc;omega
    ·exact key 0 (by omega)
theorem Ac.zEp:(l:List Ac)->Ac.zD7 l->Ac.zY l+1<=2 ^ (11*Ac.szL l)
 | [],_=>by simp[Ac.zY,Ac.szL]
 | x :: r,h=>by
   simp only[Ac.zD7] at h;have h1:=Ac.zQN x h.1;have h2:=Ac.zEp r h.2;simp only[Ac.zY,Ac.szL];rw[vR,Nat.pow_add];have h3:(x.wrk+1)*(Ac.zY r+1)<=2 ^ (11*x.sz)*2 ^ (11*Ac.szL r):=Nat.mul_le_mul h1 h2
   have h4:x.wrk+Ac.zY r+1<=(x.wrk+1)*(Ac.zY r+1):=by
    rw[uY,vR];omega
   omega
end
mutual
theorem Ac.zQ6:(x:Ac)->x.stp<=x.wrk
 | .mk k reg obj ex c t e=>by
   have h1:=Ac.zBY t;have h2:=Ac.zBY e;have h3:1<=ex.own:=by unfold Ex.own;omega
   simp only[Ac.stp,Ac.wrk];split
   ·omega
   ·split
    ·omega
    ·split
     ·have h4:Ac.zh t*c.toNat<=(Ac.zY t+1)*c.toNat:=kH _ (by omega)
      omega
     ·omega
theorem Ac.zBY:(l:List Ac)->Ac.zh l<=Ac.zY l
 | []=>yT _
 | x :: r=>by
   have h1:=Ac.zQ6 x;have h2:=Ac.zBY r;simp only[Ac.zh,Ac.zY];omega
end
theorem zFd{b n:Nat}(hb:2<=b):2 ^ n<=b ^ n:=Nat.pow_le_pow_left hb n
theorem Ac.zCc{b:Nat}(hb:2<=b){l:List Ac}(h:Ac.zD7 l)(hs:Ac.szL l<1000000000){m:Nat}(hm:m<=Ac.zY l+1):(dig b m).length<=12000000000:=by
 have h1:=Ac.zEp l h
 have h2:m<b ^ (11*Ac.szL l+1):=by
  have h3:=zFd (n:=11*Ac.szL l) hb;have h4:0<b ^ (11*Ac.szL l):=uX (by omega);have h5:2*b ^ (11*Ac.szL l)<=b*b ^ (11*Ac.szL l):=kH _ hb;rw[xY,Nat.mul_comm];omega
 have:=zDU hb h2
 omega
theorem Ac.zHg{l:List Ac}{i:Nat}(hi:i<l.length):Ac.zh (l.take (i+1))=Ac.zh (l.take i)+l[i].stp:=by
 have key:∀(a b:List Ac),Ac.zh (a++b)=Ac.zh a+Ac.zh b:=by
  intro a b
  induction a with
  | nil=>simp[Ac.zh]
  | cons x r ih=>simp only[vU,Ac.zh,ih];omega
 rw[take_at hi,key];simp[Ac.zh]
theorem Ac.zHU{l:List Ac}{i:Nat}(hi:i<l.length):Ac.zY (l.take (i+1))=Ac.zY (l.take i)+l[i].wrk:=by
 have key:∀(a b:List Ac),Ac.zY (a++b)=Ac.zY a+Ac.zY b:=by
  intro a b
  induction a with
  | nil=>simp[Ac.zY]
  | cons x r ih=>simp only[vU,Ac.zY,ih];omega
 rw[take_at hi,key];simp[Ac.zY]
theorem Ac.zHZ(l:List Ac)(i:Nat):Ac.zY (l.take i)<=Ac.zY l:=by
 induction l generalizing i with
 | nil=>simp
 | cons x r ih =>
   cases i with
   | zero=>simp[Ac.zY]
   | succ i=>have:=ih i;simp only[vO,Ac.zY];omega
theorem Ac.zHi(l:List Ac)(i:Nat):Ac.zh (l.take i)<=Ac.zh l:=by
 induction l generalizing i with
 | nil=>simp
 | cons x r ih =>
   cases i with
   | zero=>simp[Ac.zh]
   | succ i=>have:=ih i;simp only[vO,Ac.zh];omega
def zN(w:World)(F:Nat->Prop)(b n:Nat)(v:Value):Prop:=∃ad cap,v=.slice ad (dig b n).length cap/\zAK w F b n ad
theorem zN.keeps{S F:Nat->Prop}{w w':World}{b n:Nat}{v:Value}(h:zN w F b n v)(hk:Keeps S w w')(hS:∀k,F k->¬S k):zN w' F b n v:=by
 obtain⟨ad,cap,e,h1⟩:=h;exact⟨ad,cap,e,h1.keeps hk hS⟩
theorem zN.zG{F:Nat->Prop}{w w':World}{b n:Nat}{v:Value}(h:zN w F b n v)(hk:Keeps zA w w'):zN w' F b n v:=h.keeps hk (λ_ _ h=>h)
theorem zN.mono{F F':Nat->Prop}{w:World}{b n:Nat}{v:Value}(h:zN w F b n v)(hF:∀k,F k->F' k):zN w F' b n v:=by
 obtain⟨ad,cap,e,h1⟩:=h;exact⟨ad,cap,e,h1.mono hF⟩
theorem zN.zero(w:World)(F:Nat->Prop)(b:Nat):zN w F b 0 (.slice none 0 0):=⟨none,0,by rw[zAp];rfl,zAK.zero _ _ _ _⟩
theorem zBf.v{b m:Nat}{w w':World}{e:Ending}(h:zBf b m w e w'):∃v,e=.returned v/\zN w' (Since w.heap.size w') b m v/\Keeps zA w w':=by
 obtain⟨ad,cap,he,h1,h2⟩:=h;exact⟨_,he,⟨ad,cap,rfl,h1⟩,h2⟩
theorem zC4{b:Nat}(hb:2<=b):dig b 1=[1]:=by
 rw[zBZ hb (by decide),Nat.mod_eq_of_lt (by omega),vT (by omega),zAp]
theorem zN.one{b:Nat}(hb:2<=b){w:World}{g:Nat}(F:Nat->Prop)(hg:zB w g [(1:Int)])(hF:F g):zN w F b 1 (.slice (some ⟨g,0,none⟩) 1 1):=by
 refine⟨some ⟨g,0,none⟩,1,by rw[zC4 hb];rfl,λi hi=>?_⟩
 rw[zC4 hb] at hi;have hi0:i=0:=by simpa using hi
 subst hi0;refine⟨g,0,rfl,hF,?_⟩
 rw[Nat.pow_zero,Nat.div_one,Nat.mod_eq_of_lt (by omega)];exact hg.cell (k:=0) rfl
theorem zNA(x y:Nat)(w:World)(F:Nat->Prop)(xa ya:Option Addr)(xc yc:Nat)(hx:zAK w F 1000000000 x xa)(hy:zAK w F 1000000000 y ya)(lx:(dig 1000000000 x).length<=100000000000)(ly:(dig 1000000000 y).length<=100000000000):
 Calls Tryz.prog 91 #[.slice xa (dig 1000000000 x).length xc,.slice ya (dig 1000000000 y).length yc] w (zBf 1000000000 (x+y) w):=by
 obtain⟨j0,hj0,hz0,hz1,hz2⟩:=info_parts zBI;have HX:=yA hx;have HY:=yA hy;obtain⟨N,hN⟩:=eX ((dig 1000000000 (x+y)).length);have HN:=yA hN;obtain⟨p,hp⟩:=eX ((dig 1000000000 x).length);obtain⟨q,hq⟩:=eX ((dig 1000000000 y).length);have HPQ:Hid (p=(dig 1000000000 x).length/\q=(dig 1000000000 y).length):=⟨hp,hq⟩;obtain⟨L,hL⟩:=eX (max p q);have hmx:max (p:Int) (q:Int)=(L:Int):=by omega
 have hrun:∀i,(i<L\/0<(x % 1000000000 ^ i+y % 1000000000 ^ i) / 1000000000 ^ i)↔i<N:=λi=>by rw[hL,hp,hq,hN];exact zI4 (by decide) x y i
 have HRUN:=yA hrun
 have hNL:N<=L+1:=by
  rcases xR (L+1) N with h|h
  ·have h1:=(hrun (L+1)).2 h
   have hx2:x<1000000000 ^ L:=uH λe=>by have:=(zi (by decide) L x).2 e;omega
   have hy2:y<1000000000 ^ L:=uH λe=>by have:=(zi (by decide) L y).2 e;omega
   have h2:1000000000 ^ (L+1)<=x+y:=(zi (by decide) (L+1) (x+y)).1 (by omega);rw[xY] at h2;omega
  ·exact h
 unfold zBf;rw[<-hN];rw[<-hp] at lx ⊢;rw[<-hq] at ly ⊢;have hN9:N<=100000000001:=by omega
 have hL9:L<=100000000000:=by omega
 clear hN hx hy hp hq hrun hL hNL;go_enter Tryz.func91,Tryz.ntmps91
 go_wp2_with fail
 go_loopw [5,6,7] (λov cv iv wr=>∃(i c:Nat)(da:Option Addr)(dc:Nat),i<=N/\iv=.int .i64 i/\cv=.int .i64 c/\ov=.slice da i dc/\Hid (c=(x % 1000000000 ^ i+y % 1000000000 ^ i) / 1000000000 ^ i)/\c<2/\Hid (wr.ownsRow 0 3 1 (.slice da i dc) i (zCR 1000000000 (x+y) i))/\Hid (Keeps zA w wr)/\Hid (∀kb,(Value.slice da i dc).ownBlock=some kb->w.heap.size<=kb)) (λ_ _ iv _=>N-(intOf iv).toNat)
 case atStart=>exact⟨0,0,none,0,yF _,rfl,rfl,rfl,by show _=_;simp[Nat.mod_one],by decide,World.ownsRow_nil _ _ _ _,yB _ _,λkb e=>by exact J170 _⟩
 case round =>
  obtain⟨i,c,da,dc,hi,rfl,rfl,rfl,HC,hc2,HO,HK,HB⟩:=hrel;have hrun:=HRUN.out i;rw[<-HC.out] at hrun;by_cases hlt:i<N
  ·have HDG:Hid (∀W s z,(s=.slice xa p xc/\z=x / 1000000000 ^ i % 1000000000\/s=.slice ya q yc/\z=y / 1000000000 ^ i % 1000000000)->W=wr->Calls Tryz.prog 47 #[s,i] W λe w'=>e=.returned (.int .i64 (z:Nat))/\W=w'):=λW s z h hW=>by
    subst hW;rcases h with⟨rfl,rfl⟩|⟨rfl,rfl⟩
    ·rw[HPQ.out.1];exact zDI 1000000000 (by decide) x i _ F xa xc (HX.out.keeps HK.out (λ_ _ h=>h))
    ·rw[HPQ.out.2];exact zDI 1000000000 (by decide) y i _ F ya yc (HY.out.keeps HK.out (λ_ _ h=>h))
   have hs:=zHl (b:=1000000000) (by decide) x y i;have hcn:=zGW (b:=1000000000) (by decide) x y (i+1);have hd1:=zCv (b:=1000000000) (by decide) x i;have hd2:=zCv (b:=1000000000) (by decide) y i;rw[<-HC.out] at hs;rw[<-hs.2] at hcn;have HD:Hid ((x / 1000000000 ^ i % 1000000000+y / 1000000000 ^ i % 1000000000+c) % 1000000000=(x+y) / 1000000000 ^ i % 1000000000/\(x / 1000000000 ^ i % 1000000000+y / 1000000000 ^ i % 1000000000+c) / 1000000000=(x % 1000000000 ^ (i+1)+y % 1000000000 ^ (i+1)) / 1000000000 ^ (i+1)):=hs;have HC2:Hid ((x / 1000000000 ^ i % 1000000000+y / 1000000000 ^ i % 1000000000+c) / 1000000000<2):=hcn;clear hs hcn;generalize x / 1000000000 ^ i % 1000000000=d1 at HDG HD hd1 HC2;generalize y / 1000000000 ^ i % 1000000000=d2 at HDG HD hd2 HC2;have hor:=hrun.2 hlt;clear hrun;have i0:(0:Int)<=i:=by omega
   rcases (show(i<L)\/(¬i<L/\0<c) by omega) with h|⟨h,h2⟩
   ·have i1:(i:Int)<L:=by omega
    exact J18 _
   ·have i1:¬(i:Int)<L:=by omega
    have i2:(0:Int)<c:=by omega
    exact J18 _
  ·have h1:¬i<L:=λh=>hlt (hrun.1 (.inl h))
   have h2:¬0<c:=λh=>hlt (hrun.1 (.inr h))
   have i1:¬(i:Int)<L:=by omega
   exact J17 _
theorem zLZ(x k:Nat)(w:World)(F:Nat->Prop)(xa:Option Addr)(xc:Nat)(hx:zAK w F 1000000000 x xa)(lx:(dig 1000000000 x).length<=100000000000)(hk:k<=1000):
 Calls Tryz.prog 92 #[.slice xa (dig 1000000000 x).length xc,k] w (zBf 1000000000 (x*k) w):=by
 obtain⟨j0,hj0,hz0,hz1,hz2⟩:=info_parts zBI;by_cases hk0:k=0
 ·subst hk0
  unfold zBf;rw[Nat.mul_zero,zAp];generalize (dig 1000000000 x).length=p;clear hx lx;go_enter Tryz.func92,Tryz.ntmps92
  go_wp2_with fail
  go_ret
  exact⟨none,0,rfl,zAK.zero _ _ _ _,yB _ _⟩
 have HX:=yA hx;have k0:0<k:=by omega
 have k0':¬(k:Int)=0:=by omega
 have k0b:((k:Int)==0)=false:=by simpa using k0'
 obtain⟨N,hN⟩:=eX ((dig 1000000000 (x*k)).length);have HN:=yA hN;obtain⟨p,hp⟩:=eX ((dig 1000000000 x).length);have HPQ:Hid (p=(dig 1000000000 x).length):=hp;have hrun:∀i,(i<p\/0<x % 1000000000 ^ i*k / 1000000000 ^ i)↔i<N:=λi=>by rw[hp,hN];exact zHD (by decide) x k i k0
 have HRUN:=yA hrun
 have hNL:N<=p+1:=by
  rcases xR (p+1) N with h|h
  ·have hx2:x<1000000000 ^ p:=uH λe=>by exact J240 _
   have h2:1000000000 ^ (p+1)<=x*k:=(zi (by decide) (p+1) (x*k)).1 (by omega);rw[xY] at h2;have h3:x*k<=x*1000:=Nat.mul_le_mul_left x hk;omega
  ·exact h
 unfold zBf;rw[<-hN];rw[<-hp] at lx ⊢;have hN9:N<=100000000001:=by omega
 clear hN hx hp hrun hNL hk0;go_enter Tryz.func92,Tryz.ntmps92
 go_wp2_with fail
 go_loopw [5,6,7] (λov cv iv wr=>∃(i c:Nat)(da:Option Addr)(dc:Nat),i<=N/\iv=.int .i64 i/\cv=.int .i64 c/\ov=.slice da i dc/\Hid (c=x % 1000000000 ^ i*k / 1000000000 ^ i)/\c<1000/\Hid (wr.ownsRow 0 3 1 (.slice da i dc) i (zCR 1000000000 (x*k) i))/\Hid (Keeps zA w wr)/\Hid (∀kb,(Value.slice da i dc).ownBlock=some kb->w.heap.size<=kb)) (λ_ _ iv _=>N-(intOf iv).toNat)
 case atStart=>exact⟨0,0,none,0,yF _,rfl,rfl,rfl,by show _=_;simp[Nat.mod_one],by decide,World.ownsRow_nil _ _ _ _,yB _ _,λkb e=>by exact J170 _⟩
 case round =>
  obtain⟨i,c,da,dc,hi,rfl,rfl,rfl,HC,hc2,HO,HK,HB⟩:=hrel;have hrun:=HRUN.out i;rw[<-HC.out] at hrun;by_cases hlt:i<N
  ·have HDG:Hid (Calls Tryz.prog 47 #[.slice xa p xc,i] wr λe w'=>e=.returned (.int .i64 ((x / 1000000000 ^ i % 1000000000:Nat):Int))/\wr=w'):=by
    rw[HPQ.out];exact zDI 1000000000 (by decide) x i _ F xa xc (HX.out.keeps HK.out (λ_ _ h=>h))
   have hs:=zHb (b:=1000000000) (by decide) x k i;have hcn:=zFj (b:=1000000000) (by decide) x k (i+1) k0;have hd1:=zCv (b:=1000000000) (by decide) x i;rw[<-HC.out] at hs;rw[<-hs.2] at hcn;obtain⟨m,hm⟩:=eX (x / 1000000000 ^ i % 1000000000*k);have hm2:m<=1000000000*1000:=by rw[hm];exact Nat.mul_le_mul (by omega) hk
   have HD:Hid ((m+c) % 1000000000=x*k / 1000000000 ^ i % 1000000000/\(m+c) / 1000000000=x % 1000000000 ^ (i+1)*k / 1000000000 ^ (i+1)):=by rw[hm];exact hs
   have HC2:Hid ((m+c) / 1000000000<1000):=by rw[hm];show _<_;omega
   clear hs hcn;generalize x / 1000000000 ^ i % 1000000000=d1 at HDG hd1 hm;have hmi:((d1:Int)*(k:Int))=(m:Int):=by rw[hm,Int.natCast_mul]
   have hor:=hrun.2 hlt;clear hrun hm;have i0:(0:Int)<=i:=by omega
   rcases (show(i<p)\/(¬i<p/\0<c) by omega) with h|⟨h,h2⟩
   ·have i1:(i:Int)<p:=by omega
    exact J19 _
   ·have i1:¬(i:Int)<p:=by omega
    have i2:(0:Int)<c:=by omega
    exact J19 _
  ·exact J158 _
