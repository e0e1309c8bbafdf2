/- Layer L: texts joined. -/
import Derived.Test.YtfokdllgnblamaaGreatDoorL10
set_option linter.all false
set_option maxHeartbeats 2000000
set_option maxRecDepth 8000
namespace Go.Proofs.YtfokdllgnblamaaGreatDoor
open Go.RowKit
theorem J6 (P:Prop) (h:P:=by
 have R39:Hid (zC w9 b3 [.func (.func 127) #[] #[.pointer (some ⟨c,0,none⟩)], .func (.func 129) #[] #[.pointer (some ⟨c,0,none⟩)]]):=R38.out.keeps G9.out (fun e=>HNE.out e);obtain ⟨y0,y1,y2,y3,y4,y5,y6,y7,y8,y9⟩:=R79.out.ten;have q0:=R39.out.cell (k:=0) (v:=.func (.func 127) #[] #[.pointer (some ⟨c,0,none⟩)]) rfl;have q1:=R39.out.cell (k:=1) (v:=.func (.func 129) #[] #[.pointer (some ⟨c,0,none⟩)]) rfl;obtain ⟨v3,hv3⟩:∃ v3:Bool,v3=(v2&&St.zA8 l[i].thn):=⟨_,rfl⟩
 have HV3:=yA hv3;go_upto_region 8 with (go_at_call 143;refine (HT.out _ v2 trivial KR9.out R9.out).mono ?_;rintro e w10 ⟨rfl,r10,g10⟩;rw [<- hv3] at r10;have R10:=yA r10;have G10:=yA g10;clear r10 g10)
 clear hv3 y0 y1 y2 y3 y4 y5 y6 y7 y8 y9 q0 q1;have KR10:Hid (Keeps (fun q=>q=c) wr w10):=KR9.out.trans G10.out (fun _ _ h=>h);obtain ⟨y0,y1,y2,y3,y4,y5,y6,y7,y8,y9⟩:=(R79.out.keeps G10.out (fun e=>HN7.out e)).ten;have r3:=R39.out.keeps G10.out (fun e=>HNE.out e);have q0:=r3.cell (k:=0) (v:=.func (.func 127) #[] #[.pointer (some ⟨c,0,none⟩)]) rfl;have q1:=r3.cell (k:=1) (v:=.func (.func 129) #[] #[.pointer (some ⟨c,0,none⟩)]) rfl;clear r3;obtain ⟨v4,hv4⟩:∃ v4:Bool,v4=(v3&&St.zA8 l[i].els):=⟨_,rfl⟩
 have HV4:=yA hv4;go_wp2_with (go_at_call 143;refine (HE.out _ v3 trivial KR10.out R10.out).mono ?_;rintro e w11 ⟨rfl,r11,g11⟩;rw [<- hv4] at r11;have R11:=yA r11;have G11:=yA g11;clear r11 g11)
 have HDN:Hid ((v4&&St.zA8 (l.drop (i+1)))=tot):=by
  show _=_
  have h1:=HDD.out;rw [HTHE.out] at h1;rw [HV4.out,HV3.out,HV2.out,HV1.out];rw [<- h1];simp [Bool.and_assoc]
 go_roundw
 case rel=>exact ⟨i+1,v4,by omega,by go_num,R11,HDN,HK.out.trans (KR10.out.trans G11.out (fun _ _ h=>h)) (fun _ _ h=>h)⟩
 case measure=>simp [intOf];omega):P:=h
theorem J24 (P:Prop) (h:P:=by
 have K7:=yA hk7;clear hr7 hk7 r3 hb7 d0 d1;go_wp2_with (go_at_call 143;refine (HS.out _ K7.out).mono ?_;rintro e w8 ⟨rfl,r8,g8⟩;have R8:=yA r8;have G8:=yA g8;clear r8 g8)
 go_roundw
 case rel=>exact ⟨i+1,v1,by omega,by go_num,R8,HDN,(HK.out.trans K7.out (fun _ _ h=>False.elim h)).trans G8.out (fun _ _ h=>h)⟩
 case measure=>simp [intOf];omega):P:=h
theorem J122 (P:Prop) (h:P:=by
 clear hv2 y0 y1 y2 y3 y4 y5 y6 y7 y8 y9 q0 q1;have KR9:Hid (Keeps (fun q=>q=c) wr w9):=KR8.out.trans G9.out (fun _ _ h=>h);have R79:Hid (zC w9 b7 [.int .i64 x0, .string x1, .string x2, .int .i64 x3, .int .i64 x4, .string x5, .slice xa x6 xc, .int .i64 x7, .slice ta x8 tc, .slice ea x9 ec]):=R78.out.keeps G9.out (fun e=>HN7.out e);exact J6 _):P:=h
def zDS (l:List St):Prop:=∀ (w:World) (F:Nat -> Prop) (ad:Option Addr) (cap c d:Nat) (b:Bool),zq w F l ad -> St.zBX l -> ¬ F c -> zC w c [(.bool b)] -> d+St.szL l < 1000000000 →
 Calls Tryz.prog 143 #[.agg #[.func (.func 127) #[] #[.pointer (some ⟨c,0,none⟩)], .func (.func 129) #[] #[.pointer (some ⟨c,0,none⟩)]], .slice ad l.length cap, .int .i64 d] w fun e w'=>e=.returned (.tuple #[]) /\ zC w' c [(.bool (b&&St.zA8 l))] /\ Keeps (fun q=>q=c) w w'
theorem zE2 (l:List St) (ih:∀ y,y ∈ l -> zDS y.thn /\ zDS y.els):zDS l:=by
 intro w F ad cap c d b h hnn hF hc hb
 have HL:=yA h;have IH:=yA ih;have HF:=yA hF;have HCR:=yA hc;have HN:=yA hnn;have hl:=St.zAg l;have hb2:l.length < 1000000000:=by omega
 have hd2:d < 1000000000:=by omega
 have HB:=yA hb;obtain ⟨tot,ht⟩:∃ t:Bool,t=(b&&St.zA8 l):=⟨_,rfl⟩
 have HT0:=yA ht;rw [<- ht];have hlt0:=hc.lt (by simp);have hlt:=yA hlt0;clear h hF hc ih hl hb ht hlt0 hnn;have hw:IntKind.i64.wrap ((d:Int)+1)=(d:Int)+1:=vR _ (by omega) (by omega);go_enter Tryz.func143,Tryz.ntmps143
 go_upto_region 1 with fail
 obtain ⟨b3,hb3⟩:∃ z,z=w.heap.size:=⟨_,rfl⟩
 have hr3:zC (w.alloc (.cells #[.func (.func 127) #[] #[.pointer (some ⟨c,0,none⟩)], .func (.func 129) #[] #[.pointer (some ⟨c,0,none⟩)]] 217)) b3 [.func (.func 127) #[] #[.pointer (some ⟨c,0,none⟩)], .func (.func 129) #[] #[.pointer (some ⟨c,0,none⟩)]]:=J166 _;have hk1:Keeps zA w (w.alloc (.cells #[.func (.func 127) #[] #[.pointer (some ⟨c,0,none⟩)], .func (.func 129) #[] #[.pointer (some ⟨c,0,none⟩)]] 217)):=(yB _ _).alloc _;rw [<- hb3];generalize w.alloc (.cells #[.func (.func 127) #[] #[.pointer (some ⟨c,0,none⟩)], .func (.func 129) #[] #[.pointer (some ⟨c,0,none⟩)]] 217)=w1 at hr3 hk1 ⊢;have HNE:Hid (b3 ≠ c):=by show _ ≠ _;have:=hlt.out;omega
 have R3:=yA hr3;have K1:=yA hk1;have RC:Hid (zC w1 c [(.bool b)]):=HCR.out.keeps hk1 (fun h=>h);have HLC:Hid (c < w1.heap.size):=RC.out.lt (by simp);clear hr3 hk1 hb3 HCR;go_wp2_with fail
 go_loopw [10] (fun iv wr=>∃ (i:Nat) (v:Bool),i <= l.length /\ iv=.int .i64 i /\ Hid (zC wr c [(.bool v)]) /\ Hid ((v&&St.zA8 (l.drop i))=tot) /\ Hid (Keeps (fun q=>q=c) w1 wr)) (fun iv _=>l.length - (intOf iv).toNat)
 case atStart=>exact ⟨0,b,yH _,rfl,RC,by show _=_;rw [yQ];exact HT0.out.symm,yB _ _⟩
 case round =>
  obtain ⟨i,v,hi,rfl,HV,HD,HK⟩:=hrel;by_cases hlt:i < l.length
  ·have i1:(0:Int) <= i:=by omega
   have i2:(i:Int) < l.length:=by omega
   have hd:=HD.out;rw [drop_at hlt] at hd;simp only [St.zA8,St.zMg] at hd;have hFc:∀ q,F q -> ¬ (fun q=>q=c) q:=fun q hq e=>HF.out (J169 _)
   obtain ⟨g,o,xa,xc,ta,tc,ea,ec,e1,hg,d0,d1,d2,d3,d4,d5,d6,d7,d8,d9,hx,hxt,hxe⟩:=((HL.out.keeps K1.out (fun _ _ h=>h):zq w1 F l ad).keeps HK.out hFc).at hlt;subst e1;have hsz:=St.zBz (yL hlt);rw [St.zCI] at hsz;have hB:=HB.out;have hni:=St.zI5 (St.zDk HN.out (yL hlt));have hnx:=St.zDk HN.out (yL hlt);obtain ⟨v1,hv1⟩:∃ v1:Bool,v1=(v&&zF9 l[i].kind l[i].reg l[i].name l[i].ex l[i].count l[i].thn.length l[i].els.length):=⟨_,rfl⟩
   have HS:Hid (∀ W,zC W c [(.bool v)] -> Calls Tryz.prog 127 #[.agg #[.int .i64 l[i].kind, .string l[i].reg, .string l[i].name, .int .i64 l[i].ex.kind, .int .i64 l[i].ex.num, .string l[i].ex.nm, .slice xa l[i].ex.args.length xc, .int .i64 l[i].count, .slice ta l[i].thn.length tc, .slice ea l[i].els.length ec], .int .i64 d, .pointer (some ⟨c,0,none⟩)] W fun e w'=>e=.returned (.tuple #[]) /\ zC w' c [(.bool v1)] /\ Keeps (fun q=>q=c) W w'):=by
    rw [hv1];exact fun W h=>zOX l[i] hnx W xa ta ea xc tc ec c d v h
   have HX:Hid (∀ W,Keeps (fun q=>q=c) wr W -> zC W c [(.bool v1)] -> Calls Tryz.prog 147 #[.agg #[.func (.func 127) #[] #[.pointer (some ⟨c,0,none⟩)], .func (.func 129) #[] #[.pointer (some ⟨c,0,none⟩)]], .agg #[.int .i64 l[i].ex.kind, .int .i64 l[i].ex.num, .string l[i].ex.nm, .slice xa l[i].ex.args.length xc], .int .i64 1] W fun e w'=>e=.returned (.tuple #[]) /\ zC w' c [(.bool (v1&&Ex.zCr l[i].ex))] /\ Keeps (fun q=>q=c) W w'):=fun W hk h =>
    zMx l[i].ex hni.2.2.2.1 W F xa xc c 1 v1 (hx.keeps hk hFc) HF.out h (by omega)
   have hth:l[i].ex.there=(l[i].ex.kind != 0 || l[i].ex.args.length != 0):=Ex.zF1 _
   have HT:Hid (∀ W (s:Bool),True -> Keeps (fun q=>q=c) wr W -> zC W c [(.bool s)] -> Calls Tryz.prog 143 #[.agg #[.func (.func 127) #[] #[.pointer (some ⟨c,0,none⟩)], .func (.func 129) #[] #[.pointer (some ⟨c,0,none⟩)]], .slice ta l[i].thn.length tc, .int .i64 ((d:Int)+1)] W fun e w'=>e=.returned (.tuple #[]) /\ zC w' c [(.bool (s&&St.zA8 l[i].thn))] /\ Keeps (fun q=>q=c) W w'):=fun W s hs hk h=>by
    have e:((d+1:Nat):Int)=(d:Int)+1:=by omega
    rw [<- e];exact (IH.out _ (yL hlt)).1 W F ta tc c (d+1) s (hxt.keeps hk hFc) hni.2.2.2.2.1 HF.out h (by omega)
   have HE:Hid (∀ W (s:Bool),True -> Keeps (fun q=>q=c) wr W -> zC W c [(.bool s)] -> Calls Tryz.prog 143 #[.agg #[.func (.func 127) #[] #[.pointer (some ⟨c,0,none⟩)], .func (.func 129) #[] #[.pointer (some ⟨c,0,none⟩)]], .slice ea l[i].els.length ec, .int .i64 ((d:Int)+1)] W fun e w'=>e=.returned (.tuple #[]) /\ zC w' c [(.bool (s&&St.zA8 l[i].els))] /\ Keeps (fun q=>q=c) W w'):=fun W s hs hk h=>by
    have e:((d+1:Nat):Int)=(d:Int)+1:=by omega
    rw [<- e];exact (IH.out _ (yL hlt)).2 W F ea ec c (d+1) s (hxe.keeps hk hFc) hni.2.2.2.2.2 HF.out h (by omega)
   have HDD:=yA hd;have HV1:=yA hv1;have HTH:=yA hth;have hz3:l[i].ex.kind=0 /\ l[i].ex.args.length=0 \/ l[i].ex.kind=0 /\ 0 < l[i].ex.args.length \/ ¬ l[i].ex.kind=0:=by omega
   obtain ⟨th,hthe⟩:∃ t,t=l[i].ex.there:=⟨_,rfl⟩
   have HTE:=yA hthe;rw [<- hthe] at hth;clear hx hxt hxe hFc hd hv1 hsz hB hthe hni hnx;generalize l[i].kind=x0 at d0 HS;generalize l[i].reg=x1 at d1 HS;generalize l[i].name=x2 at d2 HS;generalize l[i].ex.kind=x3 at d3 HS HX hth hz3;generalize l[i].ex.num=x4 at d4 HS HX;generalize l[i].ex.nm=x5 at d5 HS HX;generalize l[i].ex.args.length=x6 at d6 HS HX hth hz3;generalize l[i].count=x7 at d7 HS;generalize l[i].thn.length=x8 at d8 HS HT;generalize l[i].els.length=x9 at d9 HS HE;go_upto_region 4 with fail
   obtain ⟨b7,hb7⟩:∃ z,z=wr.heap.size:=⟨_,rfl⟩
   have hr7:zC (wr.alloc (.cells #[.int .i64 x0, .string x1, .string x2, .int .i64 x3, .int .i64 x4, .string x5, .slice xa x6 xc, .int .i64 x7, .slice ta x8 tc, .slice ea x9 ec] 182)) b7 [.int .i64 x0, .string x1, .string x2, .int .i64 x3, .int .i64 x4, .string x5, .slice xa x6 xc, .int .i64 x7, .slice ta x8 tc, .slice ea x9 ec]:=J156 _;have hk7:Keeps zA wr (wr.alloc (.cells #[.int .i64 x0, .string x1, .string x2, .int .i64 x3, .int .i64 x4, .string x5, .slice xa x6 xc, .int .i64 x7, .slice ta x8 tc, .slice ea x9 ec] 182)):=(yB _ _).alloc _;have hn7:b7 ≠ c:=by have:=HLC.out;have:=HK.out.size;omega
   rw [<- hb7];generalize wr.alloc (.cells #[.int .i64 x0, .string x1, .string x2, .int .i64 x3, .int .i64 x4, .string x5, .slice xa x6 xc, .int .i64 x7, .slice ta x8 tc, .slice ea x9 ec] 182)=w7 at hr7 hk7 ⊢;obtain ⟨y0,y1,y2,y3,y4,y5,y6,y7,y8,y9⟩:=hr7.ten;have r3:=(R3.out.keeps HK.out (fun e=>HNE.out e)).keeps hk7 (fun h=>h);have q0:=r3.cell (k:=0) (v:=.func (.func 127) #[] #[.pointer (some ⟨c,0,none⟩)]) rfl;have q1:=r3.cell (k:=1) (v:=.func (.func 129) #[] #[.pointer (some ⟨c,0,none⟩)]) rfl;have K7:=yA hk7;have R7:=yA hr7;have R37:=yA r3;have HN7:=yA hn7;have RC7:Hid (zC w7 c [(.bool v)]):=HV.out.keeps hk7 (fun h=>h);clear hr7 hk7 r3 hb7 hn7 d0 d1 d2 d3 d4 d5 d6 d7 d8 d9;go_upto_region 5 with (go_at_call 127;refine (HS.out _ RC7.out).mono ?_;rintro e w8 ⟨rfl,r8,g8⟩;have R8:=yA r8;have G8:=yA g8;clear r8 g8)
   have KR8:Hid (Keeps (fun q=>q=c) wr w8):=(K7.out.mono (S:=fun q=>q=c) (fun _ _ h=>False.elim h)).trans G8.out (fun _ _ h=>h);have R78:Hid (zC w8 b7 [.int .i64 x0, .string x1, .string x2, .int .i64 x3, .int .i64 x4, .string x5, .slice xa x6 xc, .int .i64 x7, .slice ta x8 tc, .slice ea x9 ec]):=R7.out.keeps G8.out (fun e=>HN7.out e);have R38:Hid (zC w8 b3 [.func (.func 127) #[] #[.pointer (some ⟨c,0,none⟩)], .func (.func 129) #[] #[.pointer (some ⟨c,0,none⟩)]]):=R37.out.keeps G8.out (fun e=>HNE.out e);clear y0 y1 y2 y3 y4 y5 y6 y7 y8 y9 q0 q1;obtain ⟨y0,y1,y2,y3,y4,y5,y6,y7,y8,y9⟩:=R78.out.ten;have q0:=R38.out.cell (k:=0) (v:=.func (.func 127) #[] #[.pointer (some ⟨c,0,none⟩)]) rfl;have q1:=R38.out.cell (k:=1) (v:=.func (.func 129) #[] #[.pointer (some ⟨c,0,none⟩)]) rfl;clear HS;rcases hz3 with ⟨hz,hzl⟩ | ⟨hz,hzl⟩ | hz
   ·have hzi:(x6:Int)=0:=by omega
    have hTH:l[i].ex.there=false:=by rw [<- HTE.out,hth];simp [hz,hzl]
    have HTHE:=yA hTH;clear hTH hth;obtain ⟨v2,hv2⟩:∃ v2:Bool,v2=v1:=⟨_,rfl⟩
    have HV2:=yA hv2;go_upto_region 7 with fail
    obtain ⟨w9,hw9⟩:∃ z,z=w8:=⟨_,rfl⟩
    have G9:Hid (Keeps (fun q=>q=c) w8 w9):=by show Keeps _ _ _;rw [hw9];exact yB _ _
    have R9:Hid (zC w9 c [(.bool v2)]):=by show zC _ _ _;rw [hw9,hv2];exact R8.out
    rw [<- hw9];clear hw9;exact J122 _
   ·have hzi:(0:Int) < x6:=by omega
    subst hz;have hTH:l[i].ex.there=true:=by rw [<- HTE.out,hth];simp;omega
    have HTHE:=yA hTH;clear hTH hth;obtain ⟨v2,hv2⟩:∃ v2:Bool,v2=(v1&&Ex.zCr l[i].ex):=⟨_,rfl⟩
    have HV2:=yA hv2;go_upto_region 7 with (go_at_call 147;refine (HX.out _ KR8.out R8.out).mono ?_;rintro e w9 ⟨rfl,r9,g9⟩;rw [<- hv2] at r9;have R9:=yA r9;have G9:=yA g9;clear r9 g9)
    clear hv2 y0 y1 y2 y3 y4 y5 y6 y7 y8 y9 q0 q1;have KR9:Hid (Keeps (fun q=>q=c) wr w9):=KR8.out.trans G9.out (fun _ _ h=>h);have R79:Hid (zC w9 b7 [.int .i64 x0, .string x1, .string x2, .int .i64 0, .int .i64 x4, .string x5, .slice xa x6 xc, .int .i64 x7, .slice ta x8 tc, .slice ea x9 ec]):=R78.out.keeps G9.out (fun e=>HN7.out e);exact J6 _
   ·have hzb:(x3==0)=false:=by simpa using hz
    have hTH:l[i].ex.there=true:=by rw [<- HTE.out,hth];simp [hz]
    have HTHE:=yA hTH;clear hTH hth;obtain ⟨v2,hv2⟩:∃ v2:Bool,v2=(v1&&Ex.zCr l[i].ex):=⟨_,rfl⟩
    have HV2:=yA hv2;go_upto_region 7 with (go_at_call 147;refine (HX.out _ KR8.out R8.out).mono ?_;rintro e w9 ⟨rfl,r9,g9⟩;rw [<- hv2] at r9;have R9:=yA r9;have G9:=yA g9;clear r9 g9)
    exact J122 _
  ·obtain rfl:i=l.length:=by omega
   have hd:=HD.out;rw [xI] at hd;simp only [St.zA8] at hd;have hd2:v=tot:=by rw [<- hd];simp
   exact J13 _
theorem zN8 (l:List St):zDS l:=by
 have key:∀ x:St,zDS x.thn /\ zDS x.els:=fun x=>St.ind (P:=fun x=>zDS x.thn /\ zDS x.els) (fun k r o x c t e h1 h2=>⟨zE2 t h1,zE2 e h2⟩) x
 exact zE2 l (fun y _=>key y)
end Go.Proofs.YtfokdllgnblamaaGreatDoor
namespace Go.Proofs.YtfokdllgnblamaaGreatDoor
def zAn:List (List St) -> Bool
 | []=>true
 | t :: r=>St.zA8 t&&zAn r
def zAB:List (List St) -> Nat
 | []=>0
 | t :: r=>max (St.zm 1 t) (zAB r)
def zAM:List (List St) -> Nat
 | []=>0
 | t :: r=>St.zY t+zAM r
def zBg:List (List St) -> Nat
 | []=>0
 | t :: r=>1+St.szL t+zBg r
def zDB:List (List St) -> Prop
 | []=>True
 | t :: r=>St.zBX t /\ zDB r
theorem zDM {ts:List (List St)} {t:List St} (h:t ∈ ts):St.szL t < zBg ts:=by
 induction ts with
 | nil=>cases h
 | cons x r ih =>
   simp only [zBg];rcases xU.1 h with e | e
   ·subst e;omega
   ·have:=ih e;omega
theorem zIv {ts:List (List St)} (hn:zDB ts) {t:List St} (h:t ∈ ts):St.zBX t:=by
 induction ts with
 | nil=>cases h
 | cons x r ih =>
   simp only [zDB] at hn;rcases xU.1 h with e | e
   ·subst e;exact hn.1
   ·exact ih hn.2 e
theorem zE3 (ts:List (List St)):zAB ts <= 1+zBg ts:=by
 induction ts with
 | nil=>simp [zAB]
 | cons t r ih =>
   have:=St.zCc 1 t
   simp only [zAB,zBg];omega
theorem zH1 (ts:List (List St)):zAM ts <= zBg ts:=by
 induction ts with
 | nil=>simp [zAM]
 | cons t r ih =>
   have:=St.zDA t
   simp only [zAM,zBg];omega
theorem zH0 (ts:List (List St)):ts.length <= zBg ts:=by
 induction ts with
 | nil=>simp
 | cons t r ih=>simp only [zBg,xQ];omega
theorem zLQ:∀ (i:Nat) (l:List (List St)),zAM l+zBg (l.drop i) <= zBg l+zAM (l.drop i)
 | 0,l=>by rw [yQ];omega
 | i+1,[]=>by simp [zAM,zBg]
 | i+1,x :: r=>by
   have h1:=zLQ i r;have h2:=St.zDA x;rw [yT];simp only [zAM,zBg];omega
def zAe (w:World) (F:Nat -> Prop) (nm:ByteArray) (ts:List (List St)) (ad:Option Addr):Prop :=
 ts.length <= 1000 /\ ∀ i (hi:i < ts.length),∃ g o ba bc,ad=some ⟨g,o,none⟩ /\ F g /\ w.cell? ⟨g,o+i*2,none⟩=some (.string nm) /\ w.cell? ⟨g,o+i*2+1,none⟩=some (.slice ba ts[i].length bc) /\ zq w F ts[i] ba
theorem zAe.len {w:World} {F:Nat -> Prop} {nm:ByteArray} {ts:List (List St)} {ad:Option Addr} (h:zAe w F nm ts ad):ts.length <= 1000:=h.1
theorem zAe.at {w:World} {F:Nat -> Prop} {nm:ByteArray} {ts:List (List St)} {ad:Option Addr} (h:zAe w F nm ts ad) {i:Nat} (hi:i < ts.length) :
 ∃ g o ba bc,ad=some ⟨g,o,none⟩ /\ F g /\ w.cell? ⟨g,o+i*2,none⟩=some (.string nm) /\ w.cell? ⟨g,o+i*2+1,none⟩=some (.slice ba ts[i].length bc) /\ zq w F ts[i] ba:=h.2 i hi
theorem zAe.keeps {S F:Nat -> Prop} {w w':World} {nm:ByteArray} {ts:List (List St)} {ad:Option Addr} (h:zAe w F nm ts ad) (hk:Keeps S w w') (hS:∀ k,F k -> ¬ S k):zAe w' F nm ts ad:=by
 refine ⟨h.1,fun i hi=>?_⟩
 obtain ⟨g,o,ba,bc,e,hg,c0,c1,hx⟩:=h.2 i hi;exact ⟨g,o,ba,bc,e,hg,hk.cell (p:=⟨g,_,none⟩) (hS g hg) c0,hk.cell (p:=⟨g,_,none⟩) (hS g hg) c1,hx.keeps hk hS⟩
theorem zAe.mono {F F':Nat -> Prop} {w:World} {nm:ByteArray} {ts:List (List St)} {ad:Option Addr} (h:zAe w F nm ts ad) (hF:∀ k,F k -> F' k):zAe w F' nm ts ad:=by
 refine ⟨h.1,fun i hi=>?_⟩
 obtain ⟨g,o,ba,bc,e,hg,c0,c1,hx⟩:=h.2 i hi;exact ⟨g,o,ba,bc,e,hF g hg,c0,c1,hx.mono hF⟩
end Go.Proofs.YtfokdllgnblamaaGreatDoor
namespace Go.Proofs.YtfokdllgnblamaaGreatDoor
open Go.RowKit
theorem zKi (nm:ByteArray) (ts:List (List St)) (w:World) (F:Nat -> Prop) (pca pma ta:Option Addr) (pcn pcc pmn pmc tc c:Nat) (b:Bool) (h:zAe w F nm ts ta) (hnn:zDB ts) (hF:¬ F c) (hc:zC w c [(.bool b)]) (hb:zBg ts < 900000000) :
 Calls Tryz.prog 131 #[.agg #[.func (.func 127) #[] #[.pointer (some ⟨c,0,none⟩)], .func (.func 129) #[] #[.pointer (some ⟨c,0,none⟩)]], .agg #[.slice pca pcn pcc, .slice pma pmn pmc, .slice ta ts.length tc]] w fun e w'=>e=.returned (.tuple #[]) /\ zC w' c [(.bool (b&&zAn ts))] /\ Keeps (fun q=>q=c) w w':=by
 have HL:=yA h;have HF:=yA hF;have HCR:=yA hc;have HN:=yA hnn;have hl:ts.length <= 1000000000:=by have:=h.len;omega
 have HB:=yA hb;obtain ⟨tot,ht⟩:∃ t:Bool,t=(b&&zAn ts):=⟨_,rfl⟩
 have HT0:=yA ht;rw [<- ht];have hlt0:=hc.lt (by simp);have hlt:=yA hlt0;clear h hF hc hb ht hlt0 hnn;go_enter Tryz.func131,Tryz.ntmps131
 go_upto_region 1 with fail
 obtain ⟨b3,hb3⟩:∃ z,z=w.heap.size:=⟨_,rfl⟩
 obtain ⟨b4,hb4⟩:∃ z,z=w.heap.size+1:=⟨_,rfl⟩
 have hr3:zC ((w.alloc (.cells #[.func (.func 127) #[] #[.pointer (some ⟨c,0,none⟩)], .func (.func 129) #[] #[.pointer (some ⟨c,0,none⟩)]] 217)).alloc (.cells #[.slice pca pcn pcc, .slice pma pmn pmc, .slice ta ts.length tc] 150)) b3 [.func (.func 127) #[] #[.pointer (some ⟨c,0,none⟩)], .func (.func 129) #[] #[.pointer (some ⟨c,0,none⟩)]]:=J161 _;have hr4:zC ((w.alloc (.cells #[.func (.func 127) #[] #[.pointer (some ⟨c,0,none⟩)], .func (.func 129) #[] #[.pointer (some ⟨c,0,none⟩)]] 217)).alloc (.cells #[.slice pca pcn pcc, .slice pma pmn pmc, .slice ta ts.length tc] 150)) b4 [.slice pca pcn pcc, .slice pma pmn pmc, .slice ta ts.length tc]:=J172 _;have hk1:Keeps zA w ((w.alloc (.cells #[.func (.func 127) #[] #[.pointer (some ⟨c,0,none⟩)], .func (.func 129) #[] #[.pointer (some ⟨c,0,none⟩)]] 217)).alloc (.cells #[.slice pca pcn pcc, .slice pma pmn pmc, .slice ta ts.length tc] 150)):=((yB _ _).alloc _).alloc _;rw [<- hb4,<- hb3];generalize (w.alloc (.cells #[.func (.func 127) #[] #[.pointer (some ⟨c,0,none⟩)], .func (.func 129) #[] #[.pointer (some ⟨c,0,none⟩)]] 217)).alloc (.cells #[.slice pca pcn pcc, .slice pma pmn pmc, .slice ta ts.length tc] 150)=w1 at hr3 hr4 hk1 ⊢;have HNE:Hid (b3 ≠ c):=by show _ ≠ _;have:=hlt.out;omega
 have R3:=yA hr3;have K1:=yA hk1;have RC:Hid (zC w1 c [(.bool b)]):=HCR.out.keeps hk1 (fun h=>h);have HLC:Hid (c < w1.heap.size):=RC.out.lt (by simp);obtain ⟨d0,d1,d2⟩:=hr4.three;clear hr3 hr4 hk1 hb3 hb4 HCR;go_wp2_with fail
 clear d0 d1 d2;go_loopw [9] (fun iv wr=>∃ (i:Nat) (v:Bool),i <= ts.length /\ iv=.int .i64 i /\ Hid (zC wr c [(.bool v)]) /\ Hid ((v&&zAn (ts.drop i))=tot) /\ Hid (Keeps (fun q=>q=c) w1 wr)) (fun iv _=>ts.length - (intOf iv).toNat)
 case atStart=>exact ⟨0,b,yH _,rfl,RC,by show _=_;rw [yQ];exact HT0.out.symm,yB _ _⟩
 case round =>
  obtain ⟨i,v,hi,rfl,HV,HD,HK⟩:=hrel;by_cases hlt:i < ts.length
  ·have i1:(0:Int) <= i:=by omega
   have i2:(i:Int) < ts.length:=by omega
   have hd:=HD.out;rw [drop_at hlt] at hd;simp only [zAn] at hd;have hFc:∀ q,F q -> ¬ (fun q=>q=c) q:=fun q hq e=>HF.out (J169 _)
   obtain ⟨g,o,ba,bc,e1,hg,d0,d1,hx⟩:=((HL.out.keeps K1.out (fun _ _ h=>h):zAe w1 F nm ts ta).keeps HK.out hFc).at hlt;subst e1;have hsz:=zDM (yL hlt);have hB:=HB.out;obtain ⟨v1,hv1⟩:∃ v1:Bool,v1=(v&&St.zA8 ts[i]):=⟨_,rfl⟩
   have HS:Hid (∀ W,Keeps zA wr W -> Calls Tryz.prog 143 #[.agg #[.func (.func 127) #[] #[.pointer (some ⟨c,0,none⟩)], .func (.func 129) #[] #[.pointer (some ⟨c,0,none⟩)]], .slice ba ts[i].length bc, .int .i64 1] W fun e w'=>e=.returned (.tuple #[]) /\ zC w' c [(.bool v1)] /\ Keeps (fun q=>q=c) W w'):=by
    rw [hv1];exact fun W hk=>zN8 ts[i] W F ba bc c 1 v (hx.keeps hk (fun _ _ h=>h)) (zIv HN.out (yL hlt)) HF.out (HV.out.keeps hk (fun h=>h)) (by omega)
   have HDN:Hid ((v1&&zAn (ts.drop (i+1)))=tot):=by
    show _=_
    rw [hv1];rw [<- hd];simp [Bool.and_assoc]
   clear hx hFc hd hsz hB hv1;generalize ts[i].length=x1 at d1 HS;go_upto_region 4 with fail
   obtain ⟨b7,hb7⟩:∃ z,z=wr.heap.size:=⟨_,rfl⟩
   have hr7:zC (wr.alloc (.cells #[.string nm, .slice ba x1 bc] 155)) b7 [.string nm, .slice ba x1 bc]:=J156 _;have hk7:Keeps zA wr (wr.alloc (.cells #[.string nm, .slice ba x1 bc] 155)):=(yB _ _).alloc _;rw [<- hb7];generalize wr.alloc (.cells #[.string nm, .slice ba x1 bc] 155)=w7 at hr7 hk7 ⊢;have y1:=hr7.cell (k:=1) (v:=.slice ba x1 bc) rfl;have r3:=(R3.out.keeps HK.out (fun e=>HNE.out e)).keeps hk7 (fun h=>h);have q0:=r3.cell (k:=0) (v:=.func (.func 127) #[] #[.pointer (some ⟨c,0,none⟩)]) rfl;have q1:=r3.cell (k:=1) (v:=.func (.func 129) #[] #[.pointer (some ⟨c,0,none⟩)]) rfl;exact J24 _
  ·obtain rfl:i=ts.length:=by omega
   have hd:=HD.out;rw [xI] at hd;simp only [zAn] at hd;have hd2:v=tot:=by rw [<- hd];simp
   exact J13 _
end Go.Proofs.YtfokdllgnblamaaGreatDoor
