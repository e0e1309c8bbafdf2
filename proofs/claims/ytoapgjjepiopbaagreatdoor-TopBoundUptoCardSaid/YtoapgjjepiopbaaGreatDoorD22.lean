/- Layer D: texts joined. -/
import Derived.Test.YtoapgjjepiopbaaGreatDoorD21
import Derived.Test.YtoapgjjepiopbaaGreatDoorD19
set_option linter.all false
set_option maxHeartbeats 2000000
set_option maxRecDepth 8000
namespace Go.Proofs.YtoapgjjepiopbaaGreatDoor
open Go.RowKit
theorem J59(P:Prop) (h:P:=by
 go_roundw
 case rel=>exact⟨i+1,by omega,by go_num,by show zN _ _ _ _ _;rw[HTK2.out];exact N7.out.mono (λk hk=>⟨by have:=hk.1;have:=HK.out.size;have:=HS3.out;have:=G6.out.size;omega,hk.2⟩),HK.out.zC G7.out⟩
 case measure=>simp[intOf];omega):P:=h
theorem J63(P:Prop) (h:P:=by
 go_roundw
 case rel=>exact⟨i+1,by omega,by go_num,by show zN _ _ _ _ _;rw[HTK2.out];exact N5.out.mono (λk hk=>⟨yX (yX HK.out.size G4.out.size) hk.1,hk.2⟩),HK.out.zC G5.out⟩
 case measure=>simp[intOf];omega):P:=h
theorem J94(P:Prop) (h:P:=by
 obtain rfl:i=l.length:=by omega
 go_wp2_with fail
 go_ret
 have h:=HN.out;rw[xS] at h;first|exact⟨h,HK.out⟩|exact⟨_,rfl,h,HK.out⟩):P:=h
theorem J108(P:Prop) (h:P:=by
 go_wp2_with fail
 go_ret
 exact⟨by rw[HVV.out];rfl,K7.out⟩):P:=h
theorem J201(P:Prop)(h:P:=by have:=HLL.out (Ac.zh (l.take i)) (by have:=HST.out;have:=HP2.out;omega);omega):P:=h
theorem zCW{x y:Nat}{w:World}{F:Nat->Prop}{v u:Value}(hx:zN w F 10 x v)(hy:zN w F 10 y u)(lx:(dig 10 x).length<=100000000000)(ly:(dig 10 y).length<=100000000000):
 Calls Tryz.prog 54 #[v,u] w λe w'=>∃z,e=.returned z/\zN w' (Since w.heap.size w') 10 (x+y) z/\Keeps zA w w':=by
 obtain⟨xa,xc,rfl,h1⟩:=hx;obtain⟨ya,yc,rfl,h2⟩:=hy;exact(zLy x y w F xa ya xc yc h1 h2 lx ly).mono λe w' h=>h.v
theorem zLD{x k:Nat}{w:World}{F:Nat->Prop}{v:Value}(hx:zN w F 10 x v)(lx:(dig 10 x).length<=100000000000)(hk:k<=1000):
 Calls Tryz.prog 97 #[v,k] w λe w'=>∃z,e=.returned z/\zN w' (Since w.heap.size w') 10 (x*k) z/\Keeps zA w w':=by
 obtain⟨xa,xc,rfl,h1⟩:=hx;exact(zKk x k w F xa xc h1 lx hk).mono λe w' h=>h.v
theorem zHL{x y:Nat}{w:World}{F:Nat->Prop}{v u:Value}(hx:zN w F 10 x v)(hy:zN w F 10 y u)(lx:(dig 10 x).length<=100000000000)(ly:(dig 10 y).length<=100000000000):
 Calls Tryz.prog 96 #[v,u] w λe w'=>∃z,e=.returned z/\zN w' F 10 (max x y) z/\Keeps zA w w':=by
 obtain⟨xa,xc,rfl,h1⟩:=hx;obtain⟨ya,yc,rfl,h2⟩:=hy
 exact(zIU x y w F xa ya xc yc h1 h2 lx ly).mono λe w' h=>by
  obtain⟨ad,cap,he,h3,h4⟩:=h;exact⟨_,he,⟨ad,cap,rfl,h3⟩,h4⟩
theorem zF2(n:Nat)(hn:n<9000000000000000000)(w:World):Calls Tryz.prog 23 #[n] w λe w'=>∃z,e=.returned z/\zN w' (Since w.heap.size w') 10 n z/\Keeps zA w w':=
 (zKl n hn w).mono λe w' h=>h.v
def zFs(l:List Ac):Prop:=∀(w:World)(F:Nat->Prop)(ad:Option Addr)(cap:Nat),zAl w F l ad->Ac.szL l<1000000000->Ac.zD7 l →
 Calls Tryz.prog 52 #[.slice ad l.length cap] w λe w'=>∃z,e=.returned z/\zN w' (Since w.heap.size w') 10 (Ac.zh l) z/\Keeps zA w w'
theorem zGj(l:List Ac)(ih:∀y,y∈l->zFs y.thn/\zFs y.els):zFs l:=by
 intro w F ad cap h hb ho
 have HL:=yA h;have IH:=yA ih;have hl:=Ac.zAe l;have hb2:l.length<1000000000:=by omega
 have HB:=yA hb;have HO:=yA ho;clear h ih hl hb ho;go_enter Tryz.func52,Tryz.ntmps52
 go_wp2_with fail
 go_loopw [3,4] (λnv iv wr=>∃i:Nat,i<=l.length/\iv=.int .i64 i/\Hid (zN wr (Since w.heap.size wr) 10 (Ac.zh (l.take i)) nv)/\Hid (Keeps zA w wr)) (λ_ iv _=>l.length-(intOf iv).toNat)
 case atStart=>exact⟨0,yF _,rfl,zN.zero _ _ _,yB _ _⟩
 case round =>
  rename_i nv _
  obtain⟨i,hi,rfl,HN,HK⟩:=hrel;by_cases hlt:i<l.length
  ·have i1:(0:Int)<=i:=by omega
   have i2:(i:Int)<l.length:=by omega
   obtain⟨g,o,xa,xc,ta,tc,ea,ec,e1,hg,d0,d1,d2,d3,d4,d5,d6,d7,d8,d9,hx,hxt,hxe⟩:=(HL.out.keeps HK.out (λ_ _ h=>h)).at hlt;subst e1;have hsz:=Ac.zCI (yI hlt);rw[Ac.zCZ] at hsz;have hB:=HB.out;have hok:=Ac.zJv (Ac.zGO HO.out (yI hlt));have HTT:Hid (∀W,Keeps zA wr W->Calls Tryz.prog 52 #[.slice ta l[i].thn.length tc] W λe w'=>∃z,e=.returned z/\zN w' (Since W.heap.size w') 10 (Ac.zh l[i].thn) z/\Keeps zA W w'):=λW hk=>(IH.out _ (yI hlt)).1 W F ta tc (hxt.keeps hk (λ_ _ h=>h)) (by omega) hok.2.2.1
   have HEE:Hid (∀W,Keeps zA wr W->Calls Tryz.prog 52 #[.slice ea l[i].els.length ec] W λe w'=>∃z,e=.returned z/\zN w' (Since W.heap.size w') 10 (Ac.zh l[i].els) z/\Keeps zA W w'):=λW hk=>(IH.out _ (yI hlt)).2 W F ea ec (hxe.keeps hk (λ_ _ h=>h)) (by omega) hok.2.2.2
   have HTL:Hid (∀m,m<=Ac.zY l[i].thn+1->(dig 10 m).length<=12000000000):=λm hm=>kZ (by decide) hok.2.2.1 (by omega) hm
   have HEL:Hid (∀m,m<=Ac.zY l[i].els+1->(dig 10 m).length<=12000000000):=λm hm=>kZ (by decide) hok.2.2.2 (by omega) hm
   have HLL:Hid (∀m,m<=Ac.zY l+1->(dig 10 m).length<=12000000000):=λm hm=>kZ (by decide) HO.out HB.out hm
   have HST:Hid (Ac.zh l[i].thn<=Ac.zY l[i].thn/\Ac.zh l[i].els<=Ac.zY l[i].els/\Ac.zh l<=Ac.zY l):=⟨vA _,vA _,vA _⟩;have htk:=Ac.zHg hlt;have hpt:=Ac.zHi l (i+1);rw[htk,Ac.zFZ] at hpt;rw[Ac.zFZ] at htk;have HTK:=yA htk;have HPT:=yA hpt;have HCN:Hid (∃n:Nat,l[i].count=(n:Int)/\n<=1000):=⟨l[i].count.toNat,by omega,by omega⟩;clear hx hxt hxe hsz hB hok htk hpt;generalize l[i].kind=k at d0 HTK HPT;generalize l[i].count=c at d7 HTK HPT HCN;generalize Ac.zY l[i].thn=tw at HTT HTL HST HTK HPT;generalize Ac.zY l[i].els=ew at HEE HEL HST HTK HPT;generalize Ac.zh l[i].thn=ts at HTT HST HTK HPT;generalize Ac.zh l[i].els=es at HEE HST HTK HPT;generalize l[i].thn.length=x8 at d8 HTT;generalize l[i].els.length=x9 at d9 HEE;rcases (show k=1\/k=10\/k=11\/(¬k=1/\¬k=10/\¬k=11) by omega) with rfl|rfl|rfl|⟨k1,k10,k11⟩
   ·have HTK2:Hid (Ac.zh (l.take (i+1))=Ac.zh (l.take i)):=by show _=_;rw[HTK.out];simp
    clear HTK HPT HTT HEE HCN;go_wp2_with fail
    go_roundw
    case rel=>exact⟨i+1,by omega,by go_num,by show zN _ _ _ _ _;rw[HTK2.out];exact HN.out,HK.out⟩
    case measure=>simp[intOf];omega
   ·have HTK2:Hid (Ac.zh (l.take (i+1))=Ac.zh (l.take i)+max ts es):=by show _=_;rw[HTK.out];simp
    have HP2:Hid (Ac.zh (l.take i)+max ts es<=Ac.zh l):=by show _<=_;have h:=HPT.out;simpa using h
    clear HTK HPT HCN;go_upto_region 10 with(go_at_call 52;refine(HTT.out _ (yB _ _)).mono ?_;rintro e w2 ⟨z2,rfl,n2,g2⟩;have d9':=g2.cell (p:=⟨g,o+i*10+9,none⟩) (λh=>h) d9;have N2:=yA n2;have G2:=yA g2;clear g2 n2)
    go_upto_region 11 with(go_at_call 52;refine(HEE.out _ G2.out).mono ?_;rintro e w3 ⟨z3,rfl,n3,g3⟩;have N3:=yA n3;have G3:=yA g3;clear g3 n3 d9')
    go_upto_region 12 with(go_at_call 96;refine(zHL (F:=Since wr.heap.size w3) ((N2.out.zG G3.out).mono (λk hk=>⟨hk.1,yH hk.2 G3.out.size⟩)) (N3.out.mono (λk hk=>⟨yX G2.out.size hk.1,hk.2⟩)) (J208 _) (by have:=HEL.out es (by have:=HST.out;omega);omega)).mono ?_;rintro e w4 ⟨z4,rfl,n4,g4⟩;have N4:=yA n4;have G4:Hid (Keeps zA wr w4):=(G2.out.zC G3.out).zC g4;clear g4 n4)
    go_wp2_with (go_at_call 54;refine(zCW (F:=λ_=>True) ((HN.out.zG G4.out).mono (λ_ _=>trivial)) (N4.out.mono (λ_ _=>trivial)) (J201 _) (by have:=HLL.out (max ts es) (by have:=HST.out;have:=HP2.out;omega);omega)).mono ?_;rintro e w5 ⟨z5,rfl,n5,g5⟩;have N5:=yA n5;have G5:Hid (Keeps zA wr w5):=G4.out.zC g5;clear g5 n5)
    exact J63 _
   ·obtain⟨cn,rfl,hcn⟩:=HCN.out
    have HTK2:Hid (Ac.zh (l.take (i+1))=Ac.zh (l.take i)+ts*cn):=by show _=_;rw[HTK.out];simp
    have HP2:Hid (Ac.zh (l.take i)+ts*cn<=Ac.zh l):=by show _<=_;have h:=HPT.out;simpa using h
    clear HTK HPT HCN;go_upto_region 15 with(go_at_call 52;refine(HTT.out _ (yB _ _)).mono ?_;rintro e w2 ⟨z2,rfl,n2,g2⟩;have d7':=g2.cell (p:=⟨g,o+i*10+7,none⟩) (λh=>h) d7;have N2:=yA n2;have G2:=yA g2;clear g2 n2)
    go_upto_region 16 with(go_at_call 97;refine(zLD N2.out (J208 _) hcn).mono ?_;rintro e w4 ⟨z4,rfl,n4,g4⟩;have N4:=yA n4;have G4:Hid (Keeps zA wr w4):=G2.out.zC g4;clear g4 n4 d7')
    go_wp2_with (go_at_call 54;refine(zCW (F:=λ_=>True) ((HN.out.zG G4.out).mono (λ_ _=>trivial)) (N4.out.mono (λ_ _=>trivial)) (J201 _) (by have:=HLL.out (ts*cn) (by have:=HST.out;have:=HP2.out;omega);omega)).mono ?_;rintro e w5 ⟨z5,rfl,n5,g5⟩;have N5:=yA n5;have G5:Hid (Keeps zA wr w5):=G4.out.zC g5;clear g5 n5)
    exact J63 _
   ·have HTK2:Hid (Ac.zh (l.take (i+1))=Ac.zh (l.take i)+1):=by show _=_;rw[HTK.out];simp[k1,k10,k11]
    have HP2:Hid (Ac.zh (l.take i)+1<=Ac.zh l):=by show _<=_;have h:=HPT.out;simpa [k1,k10,k11] using h
    have kb1:(k==1)=false:=by simpa using k1
    have kb10:(k==10)=false:=by simpa using k10
    have kb11:(k==11)=false:=by simpa using k11
    clear HTK HPT HCN;go_wp2_with (go_at_call 54;refine(zCW (F:=λ_=>True) ((HN.out.zG ((yB zA wr).alloc _)).mono (λ_ _=>trivial)) (zN.one (by decide) _ (yK (yG wr _)) trivial) (J201 _) (J207 _)).mono ?_;rintro e w5 ⟨z5,rfl,n5,g5⟩;have N5:=yA n5;have G5:Hid (Keeps zA wr w5):=((yB zA wr).alloc _).zC g5;clear g5 n5)
    go_roundw
    case rel=>exact⟨i+1,by omega,by go_num,by show zN _ _ _ _ _;rw[HTK2.out];exact N5.out.mono (λk hk=>⟨by have:=hk.1;have:=HK.out.size;simp at *;omega,hk.2⟩),HK.out.zC G5.out⟩
    case measure=>simp[intOf];omega
  ·exact J94 _
theorem zRu(l:List Ac):zFs l:=by
 have key:∀x:Ac,zFs x.thn/\zFs x.els:=λx=>Ac.ind (P:=λx=>zFs x.thn/\zFs x.els) (λk r o x c t e h1 h2=>⟨zGj t h1,zGj e h2⟩) x
 exact zGj l (λy _=>key y)
def zFp(l:List Ac):Prop:=∀(w:World)(F:Nat->Prop)(ad:Option Addr)(cap:Nat),zAl w F l ad->Ac.szL l<1000000000->Ac.zD7 l →
 Calls Tryz.prog 53 #[.slice ad l.length cap] w λe w'=>∃z,e=.returned z/\zN w' (Since w.heap.size w') 10 (Ac.zY l) z/\Keeps zA w w'
theorem zGR(l:List Ac)(ih:∀y,y∈l->zFp y.thn/\zFp y.els):zFp l:=by
 intro w F ad cap h hb ho
 have HL:=yA h;have IH:=yA ih;have hl:=Ac.zAe l;have hb2:l.length<1000000000:=by omega
 have HB:=yA hb;have HO:=yA ho;clear h ih hl hb ho;go_enter Tryz.func53,Tryz.ntmps53
 go_wp2_with fail
 go_loopw [3,4] (λnv iv wr=>∃i:Nat,i<=l.length/\iv=.int .i64 i/\Hid (zN wr (Since w.heap.size wr) 10 (Ac.zY (l.take i)) nv)/\Hid (Keeps zA w wr)) (λ_ iv _=>l.length-(intOf iv).toNat)
 case atStart=>exact⟨0,yF _,rfl,zN.zero _ _ _,yB _ _⟩
 case round =>
  rename_i nv _
  obtain⟨i,hi,rfl,HN,HK⟩:=hrel;by_cases hlt:i<l.length
  ·have i1:(0:Int)<=i:=by omega
   have i2:(i:Int)<l.length:=by omega
   obtain⟨g,o,xa,xc,ta,tc,ea,ec,e1,hg,d0,d1,d2,d3,d4,d5,d6,d7,d8,d9,hx,hxt,hxe⟩:=(HL.out.keeps HK.out (λ_ _ h=>h)).at hlt;subst e1;have hsz:=Ac.zCI (yI hlt);rw[Ac.zCZ] at hsz;have hB:=HB.out;have hok:=Ac.zJv (Ac.zGO HO.out (yI hlt));have HTT:Hid (∀W,Keeps zA wr W->Calls Tryz.prog 53 #[.slice ta l[i].thn.length tc] W λe w'=>∃z,e=.returned z/\zN w' (Since W.heap.size w') 10 (Ac.zY l[i].thn) z/\Keeps zA W w'):=λW hk=>(IH.out _ (yI hlt)).1 W F ta tc (hxt.keeps hk (λ_ _ h=>h)) (by omega) hok.2.2.1
   have HEE:Hid (∀W,Keeps zA wr W->Calls Tryz.prog 53 #[.slice ea l[i].els.length ec] W λe w'=>∃z,e=.returned z/\zN w' (Since W.heap.size w') 10 (Ac.zY l[i].els) z/\Keeps zA W w'):=λW hk=>(IH.out _ (yI hlt)).2 W F ea ec (hxe.keeps hk (λ_ _ h=>h)) (by omega) hok.2.2.2
   have HTL:Hid (∀m,m<=Ac.zY l[i].thn+1->(dig 10 m).length<=12000000000):=λm hm=>kZ (by decide) hok.2.2.1 (by omega) hm
   have HEL:Hid (∀m,m<=Ac.zY l[i].els+1->(dig 10 m).length<=12000000000):=λm hm=>kZ (by decide) hok.2.2.2 (by omega) hm
   have HLL:Hid (∀m,m<=Ac.zY l+1->(dig 10 m).length<=12000000000):=λm hm=>kZ (by decide) HO.out HB.out hm
   have HST:Hid (Ac.zh l[i].thn<=Ac.zY l[i].thn/\Ac.zh l[i].els<=Ac.zY l[i].els/\Ac.zh l<=Ac.zY l):=⟨vA _,vA _,vA _⟩;have htk:=Ac.zHU hlt;have hpt:=Ac.zHZ l (i+1);rw[htk,Ac.zHv] at hpt;rw[Ac.zHv] at htk;have HTK:=yA htk;have HPT:=yA hpt;have HCN:Hid (∃n:Nat,l[i].count=(n:Int)/\n<=1000):=⟨l[i].count.toNat,by omega,by omega⟩;have HX:Hid (∀W,Keeps zA wr W->Calls Tryz.prog 98 #[.agg #[.int .i64 l[i].ex.kind,.int .i64 l[i].ex.num,.string l[i].ex.nm,.slice xa l[i].ex.args.length xc]] W λe w'=>e=.returned (.int .i64 l[i].ex.cnt)/\Keeps zA W w'):=λW hk=>zEG l[i].ex W F xa xc (hx.keeps hk (λ_ _ h=>h)) (by omega)
   have HOW:Hid (l[i].ex.own=1+(if l[i].ex.kind=0 then 0 else l[i].ex.cnt)):=rfl;have hcnt:l[i].ex.cnt<1000000000:=by omega
   generalize l[i].ex.own=ow at HOW HTK HPT;generalize l[i].ex.cnt=cx at HOW HX hcnt;generalize l[i].ex.kind=x3 at d3 HX HOW;generalize l[i].ex.num=x4 at d4 HX;generalize l[i].ex.nm=x5 at d5 HX;generalize l[i].ex.args.length=x6 at d6 HX;clear hx hxt hxe hsz hB hok htk hpt;generalize l[i].kind=k at d0 HTK HPT;generalize l[i].count=c at d7 HTK HPT HCN;generalize Ac.zY l[i].thn=tw at HTT HTL HST HTK HPT;generalize Ac.zY l[i].els=ew at HEE HEL HST HTK HPT;generalize Ac.zh l[i].thn=ts at HTT HST HTK HPT;generalize Ac.zh l[i].els=es at HEE HST HTK HPT;generalize l[i].thn.length=x8 at d8 HTT;generalize l[i].els.length=x9 at d9 HEE;have HOI:Hid (Ac.zY (l.take i)+ow<=Ac.zY l):=by have h:=HPT.out;show _<=_;omega
   rcases (show x3=0\/¬x3=0 by omega) with hx3|hx3
   case' inl =>
    have how:ow=1:=by have h:=HOW.out;rw[if_pos hx3] at h;omega
    have HOW1:=yA how;subst hx3;clear how
    go_upto_region 9 with(first
     | (go_at_call 23;refine(zF2 1 (by decide) _).mono ?_;rintro e w2 ⟨z2,rfl,n2,g2⟩;rw[<-HOW1.out] at n2;have N2:=yA n2;have G2:=yA g2;clear g2 n2)
     | (go_at_call 54;refine(zCW (F:=λ_=>True) ((HN.out.zG G2.out).mono (λ_ _=>trivial)) (N2.out.mono (λ_ _=>trivial)) (by have:=HLL.out (Ac.zY (l.take i)) (by have:=HOI.out;omega);omega) (by have:=HLL.out ow (by have:=HOI.out;omega);omega)).mono ?_;rintro e w3 ⟨z3,rfl,n3,g3⟩;have N3:=yA n3;have G3:Hid (Keeps zA wr w3):=G2.out.zC g3;clear g3 n3))
   case' inr =>
    have HOW2:Hid (ow=1+cx):=by have h:=HOW.out;rw[if_neg hx3] at h;exact h
    have hxb:(x3==0)=false:=by simpa using hx3
    have hxb2:(x3 != 0)=true:=by simpa using hx3
    have hoi:((1:Int)+(cx:Int))=(ow:Int):=by have:=HOW2.out;omega
    go_upto_region 8 with(go_at_call 98;refine(HX.out _ (yB _ _)).mono ?_;rintro e w1 ⟨rfl,g1⟩;have G1:=yA g1;clear g1)
    go_upto_region 9 with(first
     | (go_at_call 23;refine(zF2 ow (by have:=HOW2.out;omega) _).mono ?_;rintro e w2 ⟨z2,rfl,n2,g2⟩;have N2:=yA n2;have G2:Hid (Keeps zA wr w2):=G1.out.zC g2;clear g2 n2)
     | (go_at_call 54;refine(zCW (F:=λ_=>True) ((HN.out.zG G2.out).mono (λ_ _=>trivial)) (N2.out.mono (λ_ _=>trivial)) (by have:=HLL.out (Ac.zY (l.take i)) (by have:=HOI.out;omega);omega) (by have:=HLL.out ow (by have:=HOI.out;omega);omega)).mono ?_;rintro e w3 ⟨z3,rfl,n3,g3⟩;have N3:=yA n3;have G3:Hid (Keeps zA wr w3):=G2.out.zC g3;clear g3 n3))
   all_goals (
    have d0':=G3.out.cell (p:=⟨g,o+i*10,none⟩) (λh=>h) d0;have d7':=G3.out.cell (p:=⟨g,o+i*10+7,none⟩) (λh=>h) d7;have d8':=G3.out.cell (p:=⟨g,o+i*10+8,none⟩) (λh=>h) d8;have d9':=G3.out.cell (p:=⟨g,o+i*10+9,none⟩) (λh=>h) d9;have HS3:Hid (wr.heap.size<=w3.heap.size):=G3.out.size;clear d0 d7 d8 d9;rcases (show k=10\/k=11\/(¬k=10/\¬k=11) by omega) with rfl|rfl|⟨k10,k11⟩
    ·have HTK2:Hid (Ac.zY (l.take (i+1))=Ac.zY (l.take i)+ow+max tw ew):=by show _=_;rw[HTK.out];simp[uI]
     have HP2:Hid (Ac.zY (l.take i)+ow+max tw ew<=Ac.zY l):=by show _<=_;have h:=HPT.out;simpa [uI] using h
     clear HTK HPT HCN;go_upto_region 12 with(go_at_call 53;refine(HTT.out _ G3.out).mono ?_;rintro e w4 ⟨z4,rfl,n4,g4⟩;have d9b:=g4.cell (p:=⟨g,o+i*10+9,none⟩) (λh=>h) d9';have N4:=yA n4;have G4:=yA g4;clear g4 n4)
     go_upto_region 13 with(go_at_call 53;refine(HEE.out _ (G3.out.zC G4.out)).mono ?_;rintro e w5 ⟨z5,rfl,n5,g5⟩;have N5:=yA n5;have G5:=yA g5;clear g5 n5 d9b)
     go_upto_region 14 with(go_at_call 96;refine(zHL (F:=λ_=>True) ((N4.out.zG G5.out).mono (λ_ _=>trivial)) (N5.out.mono (λ_ _=>trivial)) (J231 _) (by have:=HEL.out ew (by omega);omega)).mono ?_;rintro e w6 ⟨z6,rfl,n6,g6⟩;have N6:=yA n6;have G6:Hid (Keeps zA w3 w6):=(G4.out.zC G5.out).zC g6;clear g6 n6)
     go_wp2_with (go_at_call 54;refine(zCW (F:=λ_=>True) ((N3.out.zG G6.out).mono (λ_ _=>trivial)) N6.out (by have:=HLL.out (Ac.zY (l.take i)+ow) (by have:=HP2.out;omega);omega) (by have:=HLL.out (max tw ew) (by have:=HP2.out;omega);omega)).mono ?_;rintro e w7 ⟨z7,rfl,n7,g7⟩;have N7:=yA n7;have G7:Hid (Keeps zA wr w7):=(G3.out.zC G6.out).zC g7;clear g7 n7)
     exact J59 _
    ·obtain⟨cn,rfl,hcn⟩:=HCN.out
     have HTK2:Hid (Ac.zY (l.take (i+1))=Ac.zY (l.take i)+ow+(tw+1)*cn):=by show _=_;rw[HTK.out];simp[uI]
     have HP2:Hid (Ac.zY (l.take i)+ow+(tw+1)*cn<=Ac.zY l):=by show _<=_;have h:=HPT.out;simpa [uI] using h
     clear HTK HPT HCN;go_upto_region 17 with(go_at_call 53;refine(HTT.out _ G3.out).mono ?_;rintro e w4 ⟨z4,rfl,n4,g4⟩;have d7b:=g4.cell (p:=⟨g,o+i*10+7,none⟩) (λh=>h) d7';have N4:=yA n4;have G4:=yA g4;clear g4 n4)
     go_upto_region 18 with(go_at_call 54;refine(zCW (F:=λ_=>True) ((N4.out.zG ((yB zA w4).alloc _)).mono (λ_ _=>trivial)) (zN.one (by decide) _ (yK (yG w4 _)) trivial) (J231 _) (J207 _)).mono ?_;rintro e w5 ⟨z5,rfl,n5,g5⟩;have d7c:=(((yB zA w4).alloc _).zC g5).cell (p:=⟨g,o+i*10+7,none⟩) (λh=>h) d7b;have N5:=yA n5;have G5:Hid (Keeps zA w3 w5):=G4.out.zC (((yB zA w4).alloc _).zC g5);clear g5 n5)
     go_upto_region 19 with(go_at_call 97;refine(zLD N5.out (by have:=HTL.out (tw+1) (by omega);omega) hcn).mono ?_;rintro e w6 ⟨z6,rfl,n6,g6⟩;have N6:=yA n6;have G6:Hid (Keeps zA w3 w6):=G5.out.zC g6;clear g6 n6 d7c)
     go_wp2_with (go_at_call 54;refine(zCW (F:=λ_=>True) ((N3.out.zG G6.out).mono (λ_ _=>trivial)) (N6.out.mono (λ_ _=>trivial)) (by have:=HLL.out (Ac.zY (l.take i)+ow) (by have:=HP2.out;omega);omega) (by have:=HLL.out ((tw+1)*cn) (by have:=HP2.out;omega);omega)).mono ?_;rintro e w7 ⟨z7,rfl,n7,g7⟩;have N7:=yA n7;have G7:Hid (Keeps zA wr w7):=(G3.out.zC G6.out).zC g7;clear g7 n7)
     exact J59 _
    ·have HTK2:Hid (Ac.zY (l.take (i+1))=Ac.zY (l.take i)+ow):=by show _=_;rw[HTK.out];simp[k10,k11]
     have kb10:(k==10)=false:=by simpa using k10
     have kb11:(k==11)=false:=by simpa using k11
     clear HTK HPT HCN;go_wp2_with fail
     go_roundw
     case rel=>exact⟨i+1,by omega,by go_num,by show zN _ _ _ _ _;rw[HTK2.out];exact N3.out.mono (λk hk=>⟨by have:=hk.1;have:=HK.out.size;have:=G2.out.size;omega,hk.2⟩),HK.out.zC G3.out⟩
     case measure=>simp[intOf];omega)
  ·exact J94 _
theorem zRF(l:List Ac):zFp l:=by
 have key:∀x:Ac,zFp x.thn/\zFp x.els:=λx=>Ac.ind (P:=λx=>zFp x.thn/\zFp x.els) (λk r o x c t e h1 h2=>⟨zGR t h1,zGR e h2⟩) x
 exact zGR l (λy _=>key y)
theorem zMm(cs:List Int)(mu:Int)(bs:List Bd)(w:World)(F:Nat->Prop)(uca uta:Option Addr)(ucc utc:Nat)(hbd:zBy w F bs uta)(hok:zMS bs)(hsz:zAj bs<900000000)(hl2:bs.length<1000000000):
 Calls Tryz.prog 21 #[.agg #[.slice uca cs.length ucc,mu,.slice uta bs.length utc]] w λe w'=>∃z1 z2,e=.returned (.tuple #[z1,z2])/\zN w' (λ_=>True) 10 (unS bs) z1/\zN w' (λ_=>True) 10 (unW bs) z2/\Keeps zA w w':=by
 have HBD:=yA hbd;have HOK:=yA hok;have HSZ:=yA hsz;have HLL:Hid (∀m,m<=unW bs+1->(dig 10 m).length<=12000000000):=λm hm=>zII (by decide) hok hsz hl2 hm
 clear hbd hok hsz;go_enter Tryz.func21,Tryz.ntmps21
 go_upto_region 1 with fail
 obtain⟨b1,hb1⟩:=eX w.heap.size;have hr1:zB (w.alloc (.cells #[.slice uca cs.length ucc,mu,.slice uta bs.length utc] 25)) b1 [.slice uca cs.length ucc,.int .i64 mu,.slice uta bs.length utc]:=J169 _;have hk1:Keeps zA w (w.alloc (.cells #[.slice uca cs.length ucc,mu,.slice uta bs.length utc] 25)):=(yB _ _).alloc _;rw[<-hb1];generalize w.alloc (.cells #[.slice uca cs.length ucc,mu,.slice uta bs.length utc] 25)=w1 at hr1 hk1 ⊢;have R1:=yA hr1;have K1:=yA hk1;clear hr1 hk1 hb1;have BD1:Hid (zBy w1 F bs uta):=HBD.out.keeps K1.out (λ_ _ h=>h);clear HBD;go_upto_region 4 with fail
 go_loopw [4,5,6] (λsv wv iv wr=>∃i:Nat,i<=bs.length/\iv=.int .i64 i/\Hid (zN wr (λ_=>True) 10 (unS (bs.take i)) sv)/\Hid (zN wr (λ_=>True) 10 (unW (bs.take i)) wv)/\Hid (Keeps zA w1 wr)) (λ_ _ iv _=>bs.length-(intOf iv).toNat)
 case atStart=>exact⟨0,yF _,rfl,zN.zero _ _ _,zN.zero _ _ _,yB _ _⟩
 case round =>
  rename_i sv wv _
  obtain⟨i,hi,rfl,HN,HM,HK⟩:=hrel;obtain⟨y0,y1,y2⟩:=(R1.out.keeps HK.out (λh=>h)).three;by_cases hlt:i<bs.length
  ·have i1:(0:Int)<=i:=by omega
   have i2:(i:Int)<bs.length:=by omega
   obtain⟨g,o,ba,bc,e1,hg,d0,d1,hx⟩:=(BD1.out.keeps HK.out (λ_ _ h=>h)) i hlt;subst e1;have hokb:=HOK.out _ (yI hlt);have hszb:Ac.szL bs[i].acts<1000000000:=J222 _;have HST:Hid (∀W,Keeps zA wr W->Calls Tryz.prog 52 #[.slice ba bs[i].acts.length bc] W λe w'=>∃z,e=.returned z/\zN w' (Since W.heap.size w') 10 (Ac.zh bs[i].acts) z/\Keeps zA W w'):=λW hk=>zRu _ W F ba bc (hx.keeps hk (λ_ _ h=>h)) hszb hokb
   have HWK:Hid (∀W,Keeps zA wr W->Calls Tryz.prog 53 #[.slice ba bs[i].acts.length bc] W λe w'=>∃z,e=.returned z/\zN w' (Since W.heap.size w') 10 (Ac.zY bs[i].acts) z/\Keeps zA W w'):=λW hk=>zRF _ W F ba bc (hx.keeps hk (λ_ _ h=>h)) hszb hokb
   have HTS:=yA (zDn hlt);have HTW:=yA (zEj hlt);have HPS:Hid (unS (bs.take i)+(Ac.zh bs[i].acts+1)<=unW bs):=J241 _;have HPW:Hid (unW (bs.take i)+(Ac.zY bs[i].acts+1)<=unW bs):=by have h1:=zJi bs (i+1);rw[zEj hlt] at h1;show _<=_;omega
   clear hx hokb hszb;generalize Ac.zh bs[i].acts=ts at HST HTS HPS;generalize Ac.zY bs[i].acts=tw at HWK HTW HPW;generalize bs[i].acts.length=x1 at d1 HST HWK;go_upto_region 7 with(go_at_call 52;refine(HST.out _ (yB _ _)).mono ?_;rintro e w2 ⟨z2,rfl,n2,g2⟩;have d1':=g2.cell (p:=⟨g,o+i*2+1,none⟩) (λh=>h) d1;have y2':=((R1.out.keeps HK.out (λh=>h)).keeps g2 (λh=>h)).three.2.2;have N2:=yA n2;have G2:=yA g2;clear g2 n2)
   clear d0 d1 y0 y1 y2;go_upto_region 8 with(go_at_call 53;refine(HWK.out _ G2.out).mono ?_;rintro e w3 ⟨z3,rfl,n3,g3⟩;have N3:=yA n3;have G3:Hid (Keeps zA wr w3):=G2.out.zC g3;have N2':Hid (zN w3 (λ_=>True) 10 ts z2):=(N2.out.zG g3).mono (λ_ _=>trivial);clear g3 n3)
   clear d1' y2';go_upto_region 9 with(go_at_call 54;refine(zCW (HN.out.zG G3.out) N2'.out (by have:=HLL.out (unS (bs.take i)) (by have:=HPS.out;omega);omega) (by have:=HLL.out ts (by have:=HPS.out;omega);omega)).mono ?_;rintro e w4 ⟨z4,rfl,n4,g4⟩;have N4:=yA n4;have G4:Hid (Keeps zA wr w4):=G3.out.zC g4;have N34:Hid (zN w4 (λ_=>True) 10 tw z3):=(N3.out.zG g4).mono (λ_ _=>trivial);clear g4 n4)
   go_upto_region 10 with(go_at_call 54;refine(zCW (F:=λ_=>True) ((N4.out.zG ((yB zA w4).alloc _)).mono (λ_ _=>trivial)) (zN.one (by decide) _ (yK (yG w4 _)) trivial) (by have:=HLL.out (unS (bs.take i)+ts) (by have:=HPS.out;omega);omega) (J207 _)).mono ?_;rintro e w5 ⟨z5,rfl,n5,g5⟩;have N5:=yA n5;have G5:Hid (Keeps zA w4 w5):=((yB zA w4).alloc _).zC g5;have N35:Hid (zN w5 (λ_=>True) 10 tw z3):=N34.out.zG G5.out;clear g5 n5)
   go_upto_region 11 with(go_at_call 54;refine(zCW (HM.out.zG (G4.out.zC G5.out)) N35.out (by have:=HLL.out (unW (bs.take i)) (by have:=HPW.out;omega);omega) (by have:=HLL.out tw (by have:=HPW.out;omega);omega)).mono ?_;rintro e w6 ⟨z6,rfl,n6,g6⟩;have N6:=yA n6;have G6:Hid (Keeps zA w5 w6):=g6;clear g6 n6)
   go_wp2_with (go_at_call 54;refine(zCW (F:=λ_=>True) ((N6.out.zG ((yB zA w6).alloc _)).mono (λ_ _=>trivial)) (zN.one (by decide) _ (yK (yG w6 _)) trivial) (by have:=HLL.out (unW (bs.take i)+tw) (by have:=HPW.out;omega);omega) (J207 _)).mono ?_;rintro e w7 ⟨z7,rfl,n7,g7⟩;have N7:=yA n7;have G7:Hid (Keeps zA w6 w7):=((yB zA w6).alloc _).zC g7;clear g7 n7)
   go_roundw
   case rel =>
    refine⟨i+1,by omega,by go_num,?_,?_,((HK.out.zC G4.out).zC G5.out).zC (G6.out.zC G7.out)⟩
    ·show zN _ _ _ _ _
     rw[HTS.out,<-uI];exact(N5.out.zG (G6.out.zC G7.out)).mono (λ_ _=>trivial)
    ·show zN _ _ _ _ _
     rw[HTW.out,<-uI];exact N7.out.mono (λ_ _=>trivial)
   case measure=>simp[intOf];omega
  ·obtain rfl:i=bs.length:=by omega
   go_wp2_with fail
   go_ret2
   have h1:=HN.out;have h2:=HM.out;rw[xS] at h1 h2;exact⟨_,_,rfl,h1,h2,K1.out.zC HK.out⟩
def tell(b:Bool)(n:Nat):ByteArray:=if b then ⟨(zAs n).toArray⟩ else ⟨#[]⟩
def zB9(b:Bool)(s m:Nat):Int:=if b then (if 60<s then 70 else if 10000<m then 71 else 0) else 1
theorem zNL{x y:Nat}{w:World}{F:Nat->Prop}{v u:Value}(hx:zN w F 10 x v)(hy:zN w F 10 y u)(lx:(dig 10 x).length<=100000000000)(ly:(dig 10 y).length<=100000000000):
 Calls Tryz.prog 22 #[v,u] w λe w'=>e=.returned (.bool (decide (x<y)))/\Keeps zA w w':=by
 obtain⟨xa,xc,rfl,h1⟩:=hx;obtain⟨ya,yc,rfl,h2⟩:=hy;exact zI8 x y w F xa ya xc yc h1 h2 lx ly
theorem zG3(cs:List Int)(mu:Int)(bs:List Bd)(w:World)(F:Nat->Prop)(uca uta:Option Addr)(ucc utc:Nat)(hcs:zAw w F cs uca)(hbd:zBy w F bs uta)(hF:∀k,F k->k<w.heap.size)(hsz:zAj bs<900000000)(hl1:cs.length<1000000000)(hl2:bs.length<1000000000):
 Calls Tryz.prog 7 #[.agg #[.slice uca cs.length ucc,mu,.slice uta bs.length utc]] w λe w'=>e=.returned (.int .i64 (zB9 (zX ⟨cs,mu,bs⟩) (unS bs) (unW bs)))/\Keeps zA w w':=by
 obtain⟨v,hv⟩:=eX (zB9 (zX ⟨cs,mu,bs⟩) (unS bs) (unW bs));rw[<-hv];obtain⟨r,hr⟩:=eX (zX ⟨cs,mu,bs⟩);have HR:=yA hr;rw[<-hr] at hv;have HV:=yA hv;clear hv;have HRT:Hid (∀W,Keeps zA w W->Calls Tryz.prog 20 #[.agg #[.slice uca cs.length ucc,mu,.slice uta bs.length utc]] W λe w'=>e=.returned r/\Keeps zA W w'):=λW hk=>hr ▸ zIA cs mu bs W F uca uta ucc utc (hcs.keeps hk (λ_ _ h=>h)) (hbd.keeps hk (λ_ _ h=>h)) (λk h=>yH (hF k h) hk.size) hsz hl1 hl2
 have HBO:Hid (r=true->∀W,Keeps zA w W->Calls Tryz.prog 21 #[.agg #[.slice uca cs.length ucc,mu,.slice uta bs.length utc]] W λe w'=>∃z1 z2,e=.returned (.tuple #[z1,z2])/\zN w' (λ_=>True) 10 (unS bs) z1/\zN w' (λ_=>True) 10 (unW bs) z2/\Keeps zA W w'):=λhr1 W hk=>zMm cs mu bs W F uca uta ucc utc (hbd.keeps hk (λ_ _ h=>h)) (zCD (u:=⟨cs,mu,bs⟩) (hr.symm.trans hr1)) hsz hl2
 have HDL:Hid (r=true->∀m,m<=unW bs+1->(dig 10 m).length<=12000000000):=λhr1 m hm=>zII (by decide) (zCD (u:=⟨cs,mu,bs⟩) (hr.symm.trans hr1)) hsz hl2 hm
 have HSW:Hid (unS bs<=unW bs):=zFR bs;clear hcs hbd hF hsz hl1 hl2 hr;go_enter Tryz.func7,Tryz.ntmps7
 go_upto_region 1 with fail
 obtain⟨b1,hb1⟩:=eX w.heap.size;have hr1:zB (w.alloc (.cells #[.slice uca cs.length ucc,mu,.slice uta bs.length utc] 25)) b1 [.slice uca cs.length ucc,.int .i64 mu,.slice uta bs.length utc]:=J169 _;have hk1:Keeps zA w (w.alloc (.cells #[.slice uca cs.length ucc,mu,.slice uta bs.length utc] 25)):=(yB _ _).alloc _;rw[<-hb1];generalize w.alloc (.cells #[.slice uca cs.length ucc,mu,.slice uta bs.length utc] 25)=w1 at hr1 hk1 ⊢;have R1:=yA hr1;have K1:=yA hk1;obtain⟨y0,y1,y2⟩:=hr1.three;clear hr1 hk1 hb1;generalize cs.length=n0 at y0 R1 HRT HBO;generalize bs.length=n2 at y2 R1 HRT HBO;go_upto_region 2 with(go_at_call 20;refine(HRT.out _ K1.out).mono ?_;rintro e w2 ⟨rfl,g2⟩;have c:=(R1.out.keeps g2 (λh=>h)).three;clear y0 y1 y2;obtain⟨y0,y1,y2⟩:=c;have K2:Hid (Keeps zA w w2):=K1.out.zC g2;clear g2)
 clear HR;cases r
 ·go_wp2_with fail
  go_ret
  exact⟨by rw[HV.out];rfl,K2.out⟩
 ·have HBO2:=yA (HBO.out rfl)
  have HDL2:=yA (HDL.out rfl);clear HBO HDL;go_upto_region 5 with(go_at_call 21;refine(HBO2.out _ K2.out).mono ?_;rintro e w3 ⟨z1,z2,rfl,n1,n2,g3⟩;have N1:=yA n1;have N2:=yA n2;have K3:Hid (Keeps zA w w3):=K2.out.zC g3;clear n1 n2 g3)
  go_upto_region 6 with(first
   | (go_at_call 23;refine(zF2 61 (by decide) _).mono ?_;rintro e w4 ⟨z4,rfl,n4,g4⟩;have N4:=yA n4;have G4:=yA g4;clear g4 n4)
   | (go_at_call 22;refine(zNL (F:=λ_=>True) (N1.out.zG G4.out) (N4.out.mono (λ_ _=>trivial)) (by have:=HDL2.out (unS bs) (by have:=HSW.out;omega);omega) (by have h:=zDU (b:=10) (n:=61) (i:=2) (by decide) (by decide);omega)).mono ?_;rintro e w5 ⟨rfl,g5⟩;have G5:Hid (Keeps zA w3 w5):=G4.out.zC g5;have N25:=yA (N2.out.zG G5.out);have K5:=yA (K3.out.zC G5.out);clear g5))
  go_upto_region 7 with(first
   | (go_at_call 23;refine(zF2 10001 (by decide) _).mono ?_;rintro e w6 ⟨z6,rfl,n6,g6⟩;have N6:=yA n6;have G6:=yA g6;clear g6 n6)
   | (go_at_call 22;refine(zNL (F:=λ_=>True) (N25.out.zG G6.out) (N6.out.mono (λ_ _=>trivial)) (by have:=HDL2.out (unW bs) (by omega);omega) (by have h:=zDU (b:=10) (n:=10001) (i:=5) (by decide) (by decide);omega)).mono ?_;rintro e w7 ⟨rfl,g7⟩;have K7:Hid (Keeps zA w w7):=K5.out.zC (G6.out.zC g7);clear g7))
  have hE:∃a b,a=decide (unS bs<61)/\b=decide (unW bs<10001):=⟨_,_,rfl,rfl⟩
  obtain⟨a,b,ha,hb⟩:=hE
  have HVV:Hid (v=if a then (if b then 0 else 71) else 70):=by
   show _=_
   rw[HV.out,ha,hb];unfold zB9;by_cases h1:unS bs<61
   ·by_cases h2:unW bs<10001
    ·simp[h1,h2,show¬60<unS bs by omega,show¬10000<unW bs by omega]
    ·simp[h1,h2,show¬60<unS bs by omega,show 10000<unW bs by omega]
   ·simp[h1,show 60<unS bs by omega]
  rw[<-ha,<-hb];clear ha hb;cases a
  ·exact J108 _
  ·cases b
   ·exact J108 _
   ·exact J108 _
