/- Layer N: texts joined. -/
import Derived.Test.YtoapgjjepiopbaaGreatDoorN18
set_option linter.all false
set_option maxHeartbeats 2000000
set_option maxRecDepth 8000
namespace Go.Proofs.YtoapgjjepiopbaaGreatDoor
open Go.RowKit
theorem J4 (P:Prop) (h:P:=by
 have R39:Hid (zC w9 b3 [.func (.func 139) #[] #[.pointer (some ⟨c,0,none⟩)], .func (.func 140) #[] #[.pointer (some ⟨c,0,none⟩)]]):=R38.out.keeps G9.out (fun e=>HNE.out e);obtain ⟨y0,y1,y2,y3,y4,y5,y6,y7,y8,y9⟩:=R79.out.ten;have q0:=R39.out.cell (k:=0) (v:=.func (.func 139) #[] #[.pointer (some ⟨c,0,none⟩)]) rfl;have q1:=R39.out.cell (k:=1) (v:=.func (.func 140) #[] #[.pointer (some ⟨c,0,none⟩)]) rfl;obtain ⟨v3,hv3⟩:=eX (α:=Nat) ((max v2 (St.zk (d+1) l[i].thn)));have HV3:=Lib.hid hv3;go_upto_region 8 with (go_at_call 191;refine (HT.out _ v2 (by have h1:=HV2.out;have h2:=HV1.out;have h3:=HSZ.out;have h4:=Ex.zD7 l[i].ex;omega) KR9.out R9.out).mono ?_;rintro e w10 ⟨rfl,r10,g10⟩;rw [<- hv3] at r10;have R10:=Lib.hid r10;have G10:=Lib.hid g10;clear r10 g10)
 clear hv3 y0 y1 y2 y3 y4 y5 y6 y7 y8 y9 q0 q1;have KR10:Hid (Keeps (fun q=>q=c) wr w10):=KR9.out.trans G10.out (fun _ _ h=>h);obtain ⟨y0,y1,y2,y3,y4,y5,y6,y7,y8,y9⟩:=(R79.out.keeps G10.out (fun e=>HN7.out e)).ten;have r3:=R39.out.keeps G10.out (fun e=>HNE.out e);have q0:=r3.cell (k:=0) (v:=.func (.func 139) #[] #[.pointer (some ⟨c,0,none⟩)]) rfl;have q1:=r3.cell (k:=1) (v:=.func (.func 140) #[] #[.pointer (some ⟨c,0,none⟩)]) rfl;clear r3;obtain ⟨v4,hv4⟩:=eX (α:=Nat) ((max v3 (St.zk (d+1) l[i].els)));have HV4:=Lib.hid hv4;go_wp2_with (go_at_call 191;refine (HE.out _ v3 (by have h0:=HV3.out;have h1:=HV2.out;have h2:=HV1.out;have h3:=HSZ.out;have h4:=Ex.zD7 l[i].ex;omega) KR10.out R10.out).mono ?_;rintro e w11 ⟨rfl,r11,g11⟩;rw [<- hv4] at r11;have R11:=Lib.hid r11;have G11:=Lib.hid g11;clear r11 g11)
 have HDN:Hid ((max v4 (St.zk d (l.drop (i+1))))=tot):=by
  show _=_
  have h1:=HDD.out;rw [HTHE.out] at h1;rw [HV4.out,HV3.out,HV2.out,HV1.out];have h4:=Ex.zD7 l[i].ex;simp only [Bool.false_eq_true,if_false,if_true] at h1;omega
 go_roundw
 case rel=>exact ⟨i+1,v4,by omega,by go_num,R11,HDN,HK.out.trans (KR10.out.trans G11.out (fun _ _ h=>h)) (fun _ _ h=>h)⟩
 case measure=>simp [intOf];omega):P:=h
theorem J85 (P:Prop) (h:P:=by
 have e:((d+1:Nat):Int)=(d:Int)+1:=by omega
 rw [<- e];exact (IH.out _ (List.getElem_mem hlt)).1 W F ta tc c (d+1) s (hxt.keeps hk hFc) HF.out h (by omega) hs):P:=h
theorem J86 (P:Prop) (h:P:=by
 have e:((d+1:Nat):Int)=(d:Int)+1:=by omega
 rw [<- e];exact (IH.out _ (List.getElem_mem hlt)).2 W F ea ec c (d+1) s (hxe.keeps hk hFc) HF.out h (by omega) hs):P:=h
theorem J119 (P:Prop) (h:P:=by
 clear hv2 y0 y1 y2 y3 y4 y5 y6 y7 y8 y9 q0 q1;have KR9:Hid (Keeps (fun q=>q=c) wr w9):=KR8.out.trans G9.out (fun _ _ h=>h);have R79:Hid (zC w9 b7 [.int .i64 x0, .string x1, .string x2, .int .i64 x3, .int .i64 x4, .string x5, .slice xa x6 xc, .int .i64 x7, .slice ta x8 tc, .slice ea x9 ec]):=R78.out.keeps G9.out (fun e=>HN7.out e);exact J4 _):P:=h
def zC6 (l:List St):Prop:=∀ (w:World) (F:Nat -> Prop) (ad:Option Addr) (cap c d:Nat) (b:Nat),zm w F l ad -> ¬ F c -> zC w c [(.int .i64 b)] -> d+St.szL l < 1000000000 -> b < 1000000000 →
 Calls Tryz.prog 191 #[.agg #[.func (.func 139) #[] #[.pointer (some ⟨c,0,none⟩)], .func (.func 140) #[] #[.pointer (some ⟨c,0,none⟩)]], .slice ad l.length cap, .int .i64 d] w fun e w'=>e=.returned (.tuple #[]) /\ zC w' c [(.int .i64 ((max b (St.zk d l)):Nat))] /\ Keeps (fun q=>q=c) w w'
theorem zEU (l:List St) (ih:∀ y,y ∈ l -> zC6 y.thn /\ zC6 y.els):zC6 l:=by
 intro w F ad cap c d b h hF hc hb hbb
 have HL:=Lib.hid h;have IH:=Lib.hid ih;have HF:=Lib.hid hF;have HCR:=Lib.hid hc;have HBB:=Lib.hid hbb;have hl:=St.zAY l;have hb2:l.length < 1000000000:=by omega
 have hd2:d < 1000000000:=by omega
 have HB:=Lib.hid hb;obtain ⟨tot,ht⟩:=eX (α:=Nat) ((max b (St.zk d l)));have HT0:=Lib.hid ht;rw [<- ht];have hlt0:=hc.lt (by simp);have hlt:=Lib.hid hlt0;clear h hF hc ih hl hb ht hlt0 hbb;have hw:IntKind.i64.wrap ((d:Int)+1)=(d:Int)+1:=wrap_small _ (by omega) (by omega);go_enter Tryz.func191,Tryz.ntmps191
 go_upto_region 1 with fail
 obtain ⟨b3,hb3⟩:=eX w.heap.size;have hr3:zC (w.alloc (.cells #[.func (.func 139) #[] #[.pointer (some ⟨c,0,none⟩)], .func (.func 140) #[] #[.pointer (some ⟨c,0,none⟩)]] 234)) b3 [.func (.func 139) #[] #[.pointer (some ⟨c,0,none⟩)], .func (.func 140) #[] #[.pointer (some ⟨c,0,none⟩)]]:=J169 _;have hk1:Keeps zA w (w.alloc (.cells #[.func (.func 139) #[] #[.pointer (some ⟨c,0,none⟩)], .func (.func 140) #[] #[.pointer (some ⟨c,0,none⟩)]] 234)):=(Keeps.refl _ _).alloc _;rw [<- hb3];generalize w.alloc (.cells #[.func (.func 139) #[] #[.pointer (some ⟨c,0,none⟩)], .func (.func 140) #[] #[.pointer (some ⟨c,0,none⟩)]] 234)=w1 at hr3 hk1 ⊢;have HNE:Hid (b3 ≠ c):=by show _ ≠ _;have:=hlt.out;omega
 have R3:=Lib.hid hr3;have K1:=Lib.hid hk1;have RC:Hid (zC w1 c [(.int .i64 b)]):=HCR.out.keeps hk1 (fun h=>h);have HLC:Hid (c < w1.heap.size):=RC.out.lt (by simp);clear hr3 hk1 hb3 HCR;go_wp2_with fail
 go_loopw [10] (fun iv wr=>∃ (i:Nat) (v:Nat),i <= l.length /\ iv=.int .i64 i /\ Hid (zC wr c [(.int .i64 v)]) /\ Hid ((max v (St.zk d (l.drop i)))=tot) /\ Hid (Keeps (fun q=>q=c) w1 wr)) (fun iv _=>l.length - (intOf iv).toNat)
 case atStart=>exact ⟨0,b,Nat.zero_le _,rfl,RC,by show _=_;rw [List.drop_zero];exact HT0.out.symm,Keeps.refl _ _⟩
 case round =>
  obtain ⟨i,v,hi,rfl,HV,HD,HK⟩:=hrel;by_cases hlt:i < l.length
  ·have i1:(0:Int) <= i:=by omega
   have i2:(i:Int) < l.length:=by omega
   have hd:=HD.out;rw [drop_at hlt] at hd;simp only [St.zk,St.zIp] at hd;have hFc:∀ q,F q -> ¬ (fun q=>q=c) q:=fun q hq e=>HF.out (J170 _)
   obtain ⟨g,o,xa,xc,ta,tc,ea,ec,e1,hg,d0,d1,d2,d3,d4,d5,d6,d7,d8,d9,hx,hxt,hxe⟩:=((HL.out.keeps K1.out (fun _ _ h=>h):zm w1 F l ad).keeps HK.out hFc).at hlt;subst e1;have hsz:=St.zBk (List.getElem_mem hlt);rw [St.zB1] at hsz;have hB:=HB.out;have hBB:=HBB.out;have hT0:=HT0.out;have hle:St.zk d l <= d+St.szL l:=St.zB4 d l;have hv:v < 1000000000:=by have:=HD.out;omega
   obtain ⟨v1,hv1⟩:=eX (α:=Nat) ((max v d))
   have HS:Hid (∀ W,zC W c [(.int .i64 v)] -> Calls Tryz.prog 139 #[.agg #[.int .i64 l[i].kind, .string l[i].reg, .string l[i].name, .int .i64 l[i].ex.kind, .int .i64 l[i].ex.num, .string l[i].ex.nm, .slice xa l[i].ex.args.length xc, .int .i64 l[i].count, .slice ta l[i].thn.length tc, .slice ea l[i].els.length ec], .int .i64 d, .pointer (some ⟨c,0,none⟩)] W fun e w'=>e=.returned (.tuple #[]) /\ zC w' c [(.int .i64 v1)] /\ Keeps (fun q=>q=c) W w'):=by
    rw [hv1];exact fun W h=>zOq l[i] xa ta ea xc tc ec W c d v (by omega) (by omega) h
   have HX:Hid (∀ W,Keeps (fun q=>q=c) wr W -> zC W c [(.int .i64 v1)] -> Calls Tryz.prog 227 #[.agg #[.func (.func 139) #[] #[.pointer (some ⟨c,0,none⟩)], .func (.func 140) #[] #[.pointer (some ⟨c,0,none⟩)]], .agg #[.int .i64 l[i].ex.kind, .int .i64 l[i].ex.num, .string l[i].ex.nm, .slice xa l[i].ex.args.length xc], .int .i64 1] W fun e w'=>e=.returned (.tuple #[]) /\ zC w' c [(.int .i64 ((max v1 (Ex.zBj 1 l[i].ex)):Nat))] /\ Keeps (fun q=>q=c) W w'):=fun W hk h =>
    zL6 l[i].ex W F xa xc c 1 v1 (hx.keeps hk hFc) HF.out h (by omega) (by omega)
   have hth:l[i].ex.there=(l[i].ex.kind != 0 || l[i].ex.args.length != 0):=Ex.zFD _
   have HT:Hid (∀ W (s:Nat),s < 1000000000 -> Keeps (fun q=>q=c) wr W -> zC W c [(.int .i64 s)] -> Calls Tryz.prog 191 #[.agg #[.func (.func 139) #[] #[.pointer (some ⟨c,0,none⟩)], .func (.func 140) #[] #[.pointer (some ⟨c,0,none⟩)]], .slice ta l[i].thn.length tc, .int .i64 ((d:Int)+1)] W fun e w'=>e=.returned (.tuple #[]) /\ zC w' c [(.int .i64 ((max s (St.zk (d+1) l[i].thn)):Nat))] /\ Keeps (fun q=>q=c) W w'):=fun W s hs hk h=>by
    exact J85 _
   have HE:Hid (∀ W (s:Nat),s < 1000000000 -> Keeps (fun q=>q=c) wr W -> zC W c [(.int .i64 s)] -> Calls Tryz.prog 191 #[.agg #[.func (.func 139) #[] #[.pointer (some ⟨c,0,none⟩)], .func (.func 140) #[] #[.pointer (some ⟨c,0,none⟩)]], .slice ea l[i].els.length ec, .int .i64 ((d:Int)+1)] W fun e w'=>e=.returned (.tuple #[]) /\ zC w' c [(.int .i64 ((max s (St.zk (d+1) l[i].els)):Nat))] /\ Keeps (fun q=>q=c) W w'):=fun W s hs hk h=>by
    exact J86 _
   have HDD:=Lib.hid hd;have HV1:=Lib.hid hv1;have HTH:=Lib.hid hth;have HSZ:Hid (d+(1+l[i].ex.cnt+St.szL l[i].thn+St.szL l[i].els) < 1000000000 /\ v < 1000000000 /\ l[i].ex.dep <= l[i].ex.cnt /\ St.zk (d+1) l[i].thn <= d+1+St.szL l[i].thn):=⟨by omega,hv,Ex.zGM _,St.zB4 _ _⟩;have hz3:l[i].ex.kind=0 /\ l[i].ex.args.length=0 \/ l[i].ex.kind=0 /\ 0 < l[i].ex.args.length \/ ¬ l[i].ex.kind=0:=by omega
   obtain ⟨th,hthe⟩:=eX (l[i].ex.there);have HTE:=Lib.hid hthe;rw [<- hthe] at hth;clear hx hxt hxe hFc hd hv1 hsz hB hthe hBB hT0 hv hle;generalize l[i].kind=x0 at d0 HS;generalize l[i].reg=x1 at d1 HS;generalize l[i].name=x2 at d2 HS;generalize l[i].ex.kind=x3 at d3 HS HX hth hz3;generalize l[i].ex.num=x4 at d4 HS HX;generalize l[i].ex.nm=x5 at d5 HS HX;generalize l[i].ex.args.length=x6 at d6 HS HX hth hz3;generalize l[i].count=x7 at d7 HS;generalize l[i].thn.length=x8 at d8 HS HT;generalize l[i].els.length=x9 at d9 HS HE;go_upto_region 4 with fail
   obtain ⟨b7,hb7⟩:=eX wr.heap.size;have hr7:zC (wr.alloc (.cells #[.int .i64 x0, .string x1, .string x2, .int .i64 x3, .int .i64 x4, .string x5, .slice xa x6 xc, .int .i64 x7, .slice ta x8 tc, .slice ea x9 ec] 191)) b7 [.int .i64 x0, .string x1, .string x2, .int .i64 x3, .int .i64 x4, .string x5, .slice xa x6 xc, .int .i64 x7, .slice ta x8 tc, .slice ea x9 ec]:=J157 _;have hk7:Keeps zA wr (wr.alloc (.cells #[.int .i64 x0, .string x1, .string x2, .int .i64 x3, .int .i64 x4, .string x5, .slice xa x6 xc, .int .i64 x7, .slice ta x8 tc, .slice ea x9 ec] 191)):=(Keeps.refl _ _).alloc _;have hn7:b7 ≠ c:=by have:=HLC.out;have:=HK.out.size;omega
   rw [<- hb7];generalize wr.alloc (.cells #[.int .i64 x0, .string x1, .string x2, .int .i64 x3, .int .i64 x4, .string x5, .slice xa x6 xc, .int .i64 x7, .slice ta x8 tc, .slice ea x9 ec] 191)=w7 at hr7 hk7 ⊢;obtain ⟨y0,y1,y2,y3,y4,y5,y6,y7,y8,y9⟩:=hr7.ten;have r3:=(R3.out.keeps HK.out (fun e=>HNE.out e)).keeps hk7 (fun h=>h);have q0:=r3.cell (k:=0) (v:=.func (.func 139) #[] #[.pointer (some ⟨c,0,none⟩)]) rfl;have q1:=r3.cell (k:=1) (v:=.func (.func 140) #[] #[.pointer (some ⟨c,0,none⟩)]) rfl;have K7:=Lib.hid hk7;have R7:=Lib.hid hr7;have R37:=Lib.hid r3;have HN7:=Lib.hid hn7;have RC7:Hid (zC w7 c [(.int .i64 v)]):=HV.out.keeps hk7 (fun h=>h);clear hr7 hk7 r3 hb7 hn7 d0 d1 d2 d3 d4 d5 d6 d7 d8 d9;go_upto_region 5 with (go_at_call 139;refine (HS.out _ RC7.out).mono ?_;rintro e w8 ⟨rfl,r8,g8⟩;have R8:=Lib.hid r8;have G8:=Lib.hid g8;clear r8 g8)
   have KR8:Hid (Keeps (fun q=>q=c) wr w8):=(K7.out.mono (S:=fun q=>q=c) (fun _ _ h=>False.elim h)).trans G8.out (fun _ _ h=>h);have R78:Hid (zC w8 b7 [.int .i64 x0, .string x1, .string x2, .int .i64 x3, .int .i64 x4, .string x5, .slice xa x6 xc, .int .i64 x7, .slice ta x8 tc, .slice ea x9 ec]):=R7.out.keeps G8.out (fun e=>HN7.out e);have R38:Hid (zC w8 b3 [.func (.func 139) #[] #[.pointer (some ⟨c,0,none⟩)], .func (.func 140) #[] #[.pointer (some ⟨c,0,none⟩)]]):=R37.out.keeps G8.out (fun e=>HNE.out e);clear y0 y1 y2 y3 y4 y5 y6 y7 y8 y9 q0 q1;obtain ⟨y0,y1,y2,y3,y4,y5,y6,y7,y8,y9⟩:=R78.out.ten;have q0:=R38.out.cell (k:=0) (v:=.func (.func 139) #[] #[.pointer (some ⟨c,0,none⟩)]) rfl;have q1:=R38.out.cell (k:=1) (v:=.func (.func 140) #[] #[.pointer (some ⟨c,0,none⟩)]) rfl;clear HS;rcases hz3 with ⟨hz,hzl⟩ | ⟨hz,hzl⟩ | hz
   ·have hzi:(x6:Int)=0:=by omega
    have hTH:l[i].ex.there=false:=by rw [<- HTE.out,hth];simp [hz,hzl]
    have HTHE:=Lib.hid hTH;clear hTH hth;obtain ⟨v2,hv2⟩:=eX (α:=Nat) v1;have HV2:=Lib.hid hv2;go_upto_region 7 with fail
    obtain ⟨w9,hw9⟩:=eX w8;have G9:Hid (Keeps (fun q=>q=c) w8 w9):=by show Keeps _ _ _;rw [hw9];exact Keeps.refl _ _
    have R9:Hid (zC w9 c [(.int .i64 v2)]):=by show zC _ _ _;rw [hw9,hv2];exact R8.out
    rw [<- hw9];clear hw9;exact J119 _
   ·have hzi:(0:Int) < x6:=by omega
    subst hz;have hTH:l[i].ex.there=true:=by rw [<- HTE.out,hth];simp;omega
    have HTHE:=Lib.hid hTH;clear hTH hth;obtain ⟨v2,hv2⟩:=eX (α:=Nat) ((max v1 (Ex.zBj 1 l[i].ex)));have HV2:=Lib.hid hv2;go_upto_region 7 with (go_at_call 227;refine (HX.out _ KR8.out R8.out).mono ?_;rintro e w9 ⟨rfl,r9,g9⟩;rw [<- hv2] at r9;have R9:=Lib.hid r9;have G9:=Lib.hid g9;clear r9 g9)
    clear hv2 y0 y1 y2 y3 y4 y5 y6 y7 y8 y9 q0 q1;have KR9:Hid (Keeps (fun q=>q=c) wr w9):=KR8.out.trans G9.out (fun _ _ h=>h);have R79:Hid (zC w9 b7 [.int .i64 x0, .string x1, .string x2, .int .i64 0, .int .i64 x4, .string x5, .slice xa x6 xc, .int .i64 x7, .slice ta x8 tc, .slice ea x9 ec]):=R78.out.keeps G9.out (fun e=>HN7.out e);exact J4 _
   ·have hzb:(x3==0)=false:=by simpa using hz
    have hTH:l[i].ex.there=true:=by rw [<- HTE.out,hth];simp [hz]
    have HTHE:=Lib.hid hTH;clear hTH hth;obtain ⟨v2,hv2⟩:=eX (α:=Nat) ((max v1 (Ex.zBj 1 l[i].ex)));have HV2:=Lib.hid hv2;go_upto_region 7 with (go_at_call 227;refine (HX.out _ KR8.out R8.out).mono ?_;rintro e w9 ⟨rfl,r9,g9⟩;rw [<- hv2] at r9;have R9:=Lib.hid r9;have G9:=Lib.hid g9;clear r9 g9)
    exact J119 _
  ·obtain rfl:i=l.length:=by omega
   have hd:=HD.out;rw [List.drop_length] at hd;simp only [St.zk] at hd;exact J129 _
theorem zOG (l:List St):zC6 l:=by
 have key:∀ x:St,zC6 x.thn /\ zC6 x.els:=fun x=>St.ind (P:=fun x=>zC6 x.thn /\ zC6 x.els) (fun k r o x c t e h1 h2=>⟨zEU t h1,zEU e h2⟩) x
 exact zEU l (fun y _=>key y)
end Go.Proofs.YtoapgjjepiopbaaGreatDoor
