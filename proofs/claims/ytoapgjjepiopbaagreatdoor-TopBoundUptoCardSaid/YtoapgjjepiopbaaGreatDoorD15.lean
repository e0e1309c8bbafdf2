/- Layer D: texts joined. -/
import Derived.Test.YtoapgjjepiopbaaGreatDoorD10
set_option linter.all false
set_option maxHeartbeats 2000000
set_option maxRecDepth 8000
namespace Go.Proofs.YtoapgjjepiopbaaGreatDoor
open Go.RowKit
abbrev uN:=@bne_iff_ne
theorem J55(P:Prop) (h:P:=by
 go_wp2_with (go_at_call 94;refine(HEE.out _ G2.out).mono ?_;rintro e w4 ⟨rfl,g3⟩;have G3:=yA (G2.out.zC g3);clear g3)
 go_roundw
 case rel=>exact⟨i+1,n3,by omega,by first|rfl|(congr 1;omega)|go_num,by go_num,HD,HK.out.zC G3.out⟩
 case measure=>simp[intOf];omega):P:=h
theorem J64(P:Prop) (h:P:=by
 clear hc1 hc2 h1 HR;go_wp2_with (go_at_call 47;refine(HDG.out _ _ _ (by first|exact .inl ⟨rfl,rfl⟩|exact .inr ⟨rfl,rfl⟩) rfl).mono ?_;rintro e w2 ⟨rfl,rfl⟩)
 go_ret
 exact⟨by first|rfl|(simp;done)|(simp;omega),rfl⟩):P:=h
theorem J67(P:Prop) (h:P:=by
 clear hc1 hc2 h1 HR;go_wp2_with fail
 go_quiet (fail)
 go_wp2_with fail
 go_quiet (fail)
 go_wp2_with fail
 go_ret
 exact⟨by first|rfl|(simp;done)|(simp;omega),by first|exact(HK.out.drewN _)|exact(HK.out.drewN _).drewN _⟩):P:=h
theorem J79(P:Prop) (h:P:=by
 obtain rfl:n=tot:=by omega
 go_wp2_with fail
 go_ret
 exact⟨by go_num,K1.out.zC HK.out⟩):P:=h
theorem J98(P:Prop) (h:P:=by
 clear HR hm1 hm2;go_enter Tryz.func22,Tryz.ntmps22
 go_wp2_with fail
 go_ret
 exact⟨by first|rfl|(simp;done)|(simp;omega),yB _ _⟩):P:=h
theorem J240x14(P:Prop)(h:P:=by have:=(zi (by decide) p x).2 e;omega):P:=h
theorem zHY(x y:Nat)(w:World)(F:Nat->Prop)(xa ya:Option Addr)(xc yc:Nat)(hx:zAK w F 1000000000 x xa)(hy:zAK w F 1000000000 y ya)(lx:(dig 1000000000 x).length<=100000000000)(ly:(dig 1000000000 y).length<=100000000000):
 Calls Tryz.prog 18 #[.slice xa (dig 1000000000 x).length xc,.slice ya (dig 1000000000 y).length yc] w λe w'=>e=.returned (.bool (decide (y<x)))/\w=w':=by
 have HX:=yA hx;have HY:=yA hy;obtain⟨p,hp⟩:=eX ((dig 1000000000 x).length);obtain⟨q,hq⟩:=eX ((dig 1000000000 y).length);have HPQ:Hid (p=(dig 1000000000 x).length/\q=(dig 1000000000 y).length):=⟨hp,hq⟩;obtain⟨L,hL⟩:=eX (max p q);have hmx:max (p:Int) (q:Int)=(L:Int):=by omega
 have H0:Hid (x / 1000000000 ^ L=y / 1000000000 ^ L):=by
  show _=_
  have h1:x<1000000000 ^ L:=uH λe=>by have:=(zi (by decide) L x).2 e;omega
  have h2:y<1000000000 ^ L:=uH λe=>by have:=(zi (by decide) L y).2 e;omega
  rw[vT h1,vT h2]
 obtain⟨r,hr⟩:=eX (decide (y<x));have HR:=yA hr;rw[<-hr];rw[<-hp] at lx ⊢;rw[<-hq] at ly ⊢;have hL9:L<=100000000000:=by omega
 clear hx hy hp hq hL hr;go_enter Tryz.func18,Tryz.ntmps18
 go_wp2_with fail
 go_loopw [5] (λiv wr=>∃(j:Nat)(z:Int),j<=L/\iv=.int .i64 z/\z=(j:Int)-1/\wr=w/\Hid (x / 1000000000 ^ j=y / 1000000000 ^ j)) (λiv _=>(intOf iv+1).toNat)
 case atStart=>exact⟨L,_,yT _,rfl,rfl,rfl,H0⟩
 case round =>
  obtain⟨j,z,hj,rfl,hz,rfl,HE⟩:=hrel;cases j with
  | zero =>
    obtain rfl:z=-1:=by omega
    clear hz
    obtain rfl:r=false:=by
     have h:=HE.out;rw[Nat.pow_zero,Nat.div_one,Nat.div_one] at h;rw[HR.out,h];simp
    clear HR;go_wp2_with fail
    go_ret
    exact⟨rfl,rfl⟩
  | succ m =>
    obtain rfl:z=(m:Int):=by omega
    clear hz;have i0:(0:Int)<=m:=by omega
    have HDG:Hid (∀W s z,(s=.slice xa p xc/\z=x / 1000000000 ^ m % 1000000000\/s=.slice ya q yc/\z=y / 1000000000 ^ m % 1000000000)->W=wr->Calls Tryz.prog 47 #[s,m] W λe w'=>e=.returned (.int .i64 (z:Nat))/\W=w'):=λW s z h hW=>by
     subst hW;rcases h with⟨rfl,rfl⟩|⟨rfl,rfl⟩
     ·rw[HPQ.out.1];exact zDI 1000000000 (by decide) x m _ F xa xc HX.out
     ·rw[HPQ.out.2];exact zDI 1000000000 (by decide) y m _ F ya yc HY.out
    have hc1:=zDy (b:=1000000000) (by decide) HE.out;have hc2:=zDy (b:=1000000000) (by decide) HE.out.symm;generalize x / 1000000000 ^ m % 1000000000=d1 at HDG hc1 hc2;generalize y / 1000000000 ^ m % 1000000000=d2 at HDG hc1 hc2;rcases Nat.lt_trichotomy d1 d2 with h|h|h
    ·have hb:((d1:Int) != (d2:Int))=true:=by rw[uN];omega
     have hn:¬(d1:Int)=d2:=by omega
     have hl:¬(d2:Int)<d1:=by omega
     have h1:=hc1.2 h;obtain rfl:r=false:=by rw[HR.out];simp;omega
     exact J64 _
    ·subst h
     have hb:((d1:Int) != (d1:Int))=false:=by simp
     have HN:Hid (x / 1000000000 ^ m=y / 1000000000 ^ m):=hc1.1 rfl;clear hc1 hc2;go_wp2_with (go_at_call 47;refine(HDG.out _ _ _ (by first|exact .inl ⟨rfl,rfl⟩|exact .inr ⟨rfl,rfl⟩) rfl).mono ?_;rintro e w2 ⟨rfl,rfl⟩)
     go_roundw
     case rel=>exact⟨m,_,by omega,rfl,by omega,by first|rfl|trivial,HN⟩
     case measure=>(try simp[intOf]) <;> (try omega)
    ·have hb:((d1:Int) != (d2:Int))=true:=by rw[uN];omega
     have hn:¬(d1:Int)=d2:=by omega
     have hl:(d2:Int)<d1:=by omega
     have h1:=hc2.2 h;obtain rfl:r=true:=by rw[HR.out];simp;omega
     exact J64 _
theorem zIn(x y:Nat)(w:World)(F:Nat->Prop)(xa ya:Option Addr)(xc yc:Nat)(hx:zAK w F 1000000000 x xa)(hy:zAK w F 1000000000 y ya)(lx:(dig 1000000000 x).length<=100000000000)(ly:(dig 1000000000 y).length<=100000000000):
 Calls Tryz.prog 90 #[.slice xa (dig 1000000000 x).length xc,.slice ya (dig 1000000000 y).length yc] w λe w'=>(∃ad cap,e=.returned (.slice ad (dig 1000000000 (max x y)).length cap)/\zAK w' F 1000000000 (max x y) ad)/\w=w':=by
 have HA:Hid (∀W,W=w->Calls Tryz.prog 18 #[.slice ya (dig 1000000000 y).length yc,.slice xa (dig 1000000000 x).length xc] W λe w'=>e=.returned (.bool (decide (x<y)))/\W=w'):=λW e=>by rw[e];exact zHY y x w F ya xa yc xc hy hx ly lx
 have HX:=yA hx;have HY:=yA hy;by_cases h:x<y
 ·have e:max x y=y:=by omega
  rw[e];rw[uC h] at HA;generalize (dig 1000000000 x).length=p at HA ⊢;obtain⟨q,hq⟩:=eX ((dig 1000000000 y).length);rw[<-hq] at HA ⊢;clear hx hy lx ly hq;go_enter Tryz.func90,Tryz.ntmps90
  go_wp2_with (go_at_call 18;refine(HA.out _ rfl).mono ?_;rintro e w2 ⟨rfl,rfl⟩)
  go_ret
  exact⟨⟨_,_,rfl,HY.out⟩,rfl⟩
 ·have e:max x y=x:=by omega
  rw[e];rw[uK h] at HA;generalize (dig 1000000000 y).length=q at HA ⊢;obtain⟨p,hp⟩:=eX ((dig 1000000000 x).length);rw[<-hp] at HA ⊢;clear hx hy lx ly hp;go_enter Tryz.func90,Tryz.ntmps90
  go_wp2_with (go_at_call 18;refine(HA.out _ rfl).mono ?_;rintro e w2 ⟨rfl,rfl⟩)
  go_ret
  exact⟨⟨_,_,rfl,HX.out⟩,rfl⟩
theorem zIv{b x y:Nat}(hb:2<=b)(h:x<=y):(dig b x).length<=(dig b y).length:=by
 rcases xR (dig b y).length (dig b x).length with h1|h1
 ·have h2:=(zi hb _ x).1 h1
  have h3:=(zi hb _ y).2 (yX h2 h);omega
 ·exact h1
theorem zI8(x y:Nat)(w:World)(F:Nat->Prop)(xa ya:Option Addr)(xc yc:Nat)(hx:zAK w F 10 x xa)(hy:zAK w F 10 y ya)(lx:(dig 10 x).length<=100000000000)(ly:(dig 10 y).length<=100000000000):
 Calls Tryz.prog 22 #[.slice xa (dig 10 x).length xc,.slice ya (dig 10 y).length yc] w λe w'=>e=.returned (.bool (decide (x<y)))/\Keeps zA w w':=by
 have HX:=yA hx;have HY:=yA hy;obtain⟨p,hp⟩:=eX ((dig 10 x).length);obtain⟨q,hq⟩:=eX ((dig 10 y).length);have HPQ:Hid (p=(dig 10 x).length/\q=(dig 10 y).length):=⟨hp,hq⟩
 have H0:Hid (p=q->x / 10 ^ p=y / 10 ^ p):=λe=>by
  have h1:x<10 ^ p:=uH λe=>by exact J240x14 _
  have h2:y<10 ^ p:=uH λe=>by have:=(zi (by decide) p y).2 e;omega
  rw[vT h1,vT h2]
 have hm1:=zIv (b:=10) (x:=x) (y:=y) (by decide);have hm2:=zIv (b:=10) (x:=y) (y:=x) (by decide);rw[<-hp,<-hq] at hm1 hm2;obtain⟨r,hr⟩:=eX (decide (x<y));have HR:=yA hr;rw[<-hr];rw[<-hp] at lx ⊢;rw[<-hq] at ly ⊢;clear hx hy hp hq hr;rcases Nat.lt_trichotomy p q with h|h|h
 ·have hb:((p:Int) != (q:Int))=true:=by rw[uN];omega
  have hl:(p:Int)<q:=by omega
  obtain rfl:r=true:=by rw[HR.out];simp;omega
  exact J98 _
 ·subst h
  have hb:((p:Int) != (p:Int))=false:=by simp
  have HE0:=yA (H0.out rfl);clear hm1 hm2 H0;go_enter Tryz.func22,Tryz.ntmps22
  go_wp2_with fail
  go_loopw [5] (λiv wr=>∃(j:Nat)(z:Int),j<=p/\iv=.int .i64 z/\z=(j:Int)-1/\Hid (Keeps zA w wr)/\Hid (x / 10 ^ j=y / 10 ^ j)) (λiv _=>(intOf iv+1).toNat)
  case atStart=>exact⟨p,_,yT _,rfl,rfl,yB _ _,HE0⟩
  case round =>
   obtain⟨j,z,hj,rfl,hz,HK,HE⟩:=hrel;cases j with
   | zero =>
     obtain rfl:z=-1:=by omega
     clear hz
     obtain rfl:r=false:=by
      have h:=HE.out;rw[Nat.pow_zero,Nat.div_one,Nat.div_one] at h;rw[HR.out,h];simp
     clear HR;go_wp2_with fail
     go_ret
     exact⟨rfl,HK.out⟩
   | succ m =>
     obtain rfl:z=(m:Int):=by omega
     clear hz;have i0:(0:Int)<=m:=by omega
     have i1:(m:Int)<p:=by omega
     obtain⟨g,o,e1,hg,c1⟩:=(HX.out.keeps HK.out (λ_ _ h=>h)) m (by have:=HPQ.out.1;omega);obtain⟨g2,o2,e2,hg2,c2⟩:=(HY.out.keeps HK.out (λ_ _ h=>h)) m (by have:=HPQ.out.2;omega);have hc1:=zDy (b:=10) (by decide) HE.out;have hc2:=zDy (b:=10) (by decide) HE.out.symm;generalize x / 10 ^ m % 10=d1 at c1 hc1 hc2;generalize y / 10 ^ m % 10=d2 at c2 hc1 hc2;have HKK:=HK;subst e1 e2;clear hg hg2;rcases Nat.lt_trichotomy d1 d2 with h|h|h
     ·have hb:((d1:Int) != (d2:Int))=true:=by rw[uN];omega
      have hn:¬(d1:Int)=d2:=by omega
      have hl:(d1:Int)<d2:=by omega
      have h1:=hc1.2 h;obtain rfl:r=true:=by rw[HR.out];simp;omega
      exact J67 _
     ·subst h
      have hb:((d1:Int) != (d1:Int))=false:=by simp
      have HN:Hid (x / 10 ^ m=y / 10 ^ m):=hc1.1 rfl;clear hc1 hc2;go_wp2_with fail
      go_quiet (fail)
      go_wp2_with fail
      go_roundw
      case rel=>exact⟨m,_,by omega,rfl,by omega,HK.out.drewN _,HN⟩
      case measure=>(try simp[intOf]) <;> (try omega)
     ·have hb:((d1:Int) != (d2:Int))=true:=by rw[uN];omega
      have hn:¬(d1:Int)=d2:=by omega
      have hl:¬(d1:Int)<d2:=by omega
      have h1:=hc2.2 h;obtain rfl:r=false:=by rw[HR.out];simp;omega
      exact J67 _
 ·have hb:((p:Int) != (q:Int))=true:=by rw[uN];omega
  have hl:¬(p:Int)<q:=by omega
  obtain rfl:r=false:=by rw[HR.out];simp;omega
  exact J98 _
theorem zIU(x y:Nat)(w:World)(F:Nat->Prop)(xa ya:Option Addr)(xc yc:Nat)(hx:zAK w F 10 x xa)(hy:zAK w F 10 y ya)(lx:(dig 10 x).length<=100000000000)(ly:(dig 10 y).length<=100000000000):
 Calls Tryz.prog 96 #[.slice xa (dig 10 x).length xc,.slice ya (dig 10 y).length yc] w λe w'=>∃ad cap,e=.returned (.slice ad (dig 10 (max x y)).length cap)/\zAK w' F 10 (max x y) ad/\Keeps zA w w':=by
 have HA:Hid (∀W,W=w->Calls Tryz.prog 22 #[.slice xa (dig 10 x).length xc,.slice ya (dig 10 y).length yc] W λe w'=>e=.returned (.bool (decide (x<y)))/\Keeps zA W w'):=λW e=>by rw[e];exact zI8 x y w F xa ya xc yc hx hy lx ly
 have HX:=yA hx;have HY:=yA hy;obtain⟨p,hp⟩:=eX ((dig 10 x).length);obtain⟨q,hq⟩:=eX ((dig 10 y).length);by_cases h:x<y
 ·have e:max x y=y:=by omega
  rw[e];rw[uC h] at HA;rw[<-hp,<-hq] at HA ⊢;clear hx hy lx ly hq hp;go_enter Tryz.func96,Tryz.ntmps96
  go_wp2_with (go_at_call 22;refine(HA.out _ rfl).mono ?_;rintro e w2 ⟨rfl,g2⟩;have G2:=yA g2;clear g2)
  go_ret
  first
   | exact⟨_,_,rfl,HY.out.keeps G2.out (λ_ _ h=>h),G2.out⟩
   | exact⟨_,⟨_,rfl⟩,HY.out.keeps G2.out (λ_ _ h=>h),G2.out⟩
   | exact⟨HY.out.keeps G2.out (λ_ _ h=>h),G2.out⟩
 ·have e:max x y=x:=by omega
  rw[e];rw[uK h] at HA;rw[<-hp,<-hq] at HA ⊢;clear hx hy lx ly hp hq;go_enter Tryz.func96,Tryz.ntmps96
  go_wp2_with (go_at_call 22;refine(HA.out _ rfl).mono ?_;rintro e w2 ⟨rfl,g2⟩;have G2:=yA g2;clear g2)
  go_ret
  first
   | exact⟨_,_,rfl,HX.out.keeps G2.out (λ_ _ h=>h),G2.out⟩
   | exact⟨_,⟨_,rfl⟩,HX.out.keeps G2.out (λ_ _ h=>h),G2.out⟩
   | exact⟨HX.out.keeps G2.out (λ_ _ h=>h),G2.out⟩
theorem zHp:∀(x:Ex)(w:World)(F:Nat->Prop)(ad:Option Addr)(cap:Nat),zR w F x.args ad->x.cnt<1000000000 →
 Calls Tryz.prog 152 #[exV x ad cap] w λe w'=>e=.returned x.dep/\Keeps zA w w':=by
 refine Ex.ind (λk num nm l ih w F ad cap h hb=>?_)
 have HL:Hid (zR w F l ad):=h;have IH:=yA ih;have hl:=Ex.zAe l;have hcn:Ex.cnt (.mk k num nm l)=1+Ex.zT l:=by simp[Ex.cnt]
 have hdn:Ex.dep (.mk k num nm l)=Ex.zCr l+1:=by simp[Ex.dep]
 have hdl:Ex.zCr l+1<=1+Ex.zT l:=by rw[<-hcn,<-hdn];exact Ex.zH8 _
 rw[hcn] at hb;rw[hdn];clear h ih hcn hdn;obtain⟨tot,ht⟩:=eX (Ex.zCr l);obtain⟨tc,htc⟩:=eX (Ex.zT l);have HT:=yA ht;have HTC:=yA htc;rw[<-ht] at hdl ⊢;rw[<-htc] at hb hl hdl;have hb2:tot<1000000000:=by omega
 clear ht htc;show Calls _ _ #[.agg #[k,num,nm,.slice ad l.length cap]] _ _
 go_enter Tryz.func152,Tryz.ntmps152
 go_upto_region 1 with fail
 obtain⟨b1,hb1⟩:=eX w.heap.size;have hr1:zB (w.alloc (.cells #[k,num,nm,.slice ad l.length cap] 144)) b1 [.int .i64 k,.int .i64 num,.string nm,.slice ad l.length cap]:=J169 _;have hk1:Keeps zA w (w.alloc (.cells #[k,num,nm,.slice ad l.length cap] 144)):=(yB _ _).alloc _;rw[<-hb1];generalize w.alloc (.cells #[k,num,nm,.slice ad l.length cap] 144)=w1 at hr1 hk1 ⊢;have R1:=yA hr1;have K1:=yA hk1;have c3:=hr1.cell (k:=3) (v:=.slice ad l.length cap) rfl;clear hr1 hk1 hb1;go_wp2_with fail
 go_loopw [3,4] (λnv iv wr=>∃i n:Nat,i<=l.length/\nv=.int .i64 n/\iv=.int .i64 i/\Hid (max n (Ex.zCr (l.drop i))=tot)/\Hid (Keeps zA w1 wr)) (λ_ iv _=>l.length-(intOf iv).toNat)
 case atStart=>exact⟨0,0,yF _,rfl,rfl,by show _=_;rw[yU,HT.out];omega,yB _ _⟩
 case round =>
  obtain⟨i,n,hi,rfl,rfl,HN,HK⟩:=hrel;have c3':=(R1.out.keeps HK.out (λh=>h)).cell (k:=3) (v:=.slice ad l.length cap) rfl;clear c3;by_cases hlt:i<l.length
  ·have i1:(0:Int)<=i:=by omega
   have i2:(i:Int)<l.length:=by omega
   have hd:=HN.out;rw[drop_at hlt,Ex.zCr] at hd;obtain⟨g,o,a,c,e1,hg,d0,d1,d2,d3,hx⟩:=(HL.out.keeps (K1.out.zC HK.out) (λ_ _ h=>h)).at hlt;subst e1;have HC:Hid (∀W,Keeps zA wr W->Calls Tryz.prog 152 #[.agg #[.int .i64 l[i].kind,.int .i64 l[i].num,.string l[i].nm,.slice a l[i].args.length c]] W λe w'=>e=.returned (.int .i64 l[i].dep)/\Keeps zA W w'):=λW hk=>IH.out _ (yI hlt) W F a c (hx.keeps hk (λ_ _ h=>h)) (by have:=Ex.zCP (yI hlt);have:=HTC.out;omega)
   obtain⟨m,hm⟩:=eX (l[i].dep);rw[<-hm] at HC hd;have HD:=yA hd;clear hx hm hd;generalize l[i].kind=x0 at d0 HC;generalize l[i].num=x1 at d1 HC;generalize l[i].nm=x2 at d2 HC;generalize l[i].args.length=x3 at d3 HC;have hmx:max (n:Int) (m:Int)=((max n m:Nat):Int):=by omega
   go_wp2_with (go_at_call 152;refine(HC.out _ (yB _ _)).mono ?_;rintro e w2 ⟨rfl,g1⟩;have G1:=yA g1;clear g1)
   go_roundw
   case rel=>exact⟨i+1,max n m,by omega,by first|rfl|(congr 1;omega)|go_num,by go_num,by show _=_;have:=HD.out;omega,HK.out.zC G1.out⟩
   case measure=>simp[intOf];omega
  ·obtain rfl:i=l.length:=by omega
   have hd:=HN.out;rw[xO] at hd;simp only[Ex.zCr] at hd;exact J79 _
def zJq(l:List St):Prop:=∀(w:World)(F:Nat->Prop)(ad:Option Addr)(cap:Nat),zx w F l ad->St.szL l<1000000000 →
 Calls Tryz.prog 95 #[.slice ad l.length cap] w λe w'=>e=.returned (.int .i64 (St.zT l:Nat))/\Keeps zA w w'
theorem zH9(l:List St)(ih:∀y,y∈l->zJq y.thn/\zJq y.els):zJq l:=by
 intro w F ad cap h hb
 have HL:=yA h;have IH:=yA ih;have hl:=St.zAe l;have hcl:=St.zDO l;have HB:=yA hb;obtain⟨tot,ht⟩:=eX (St.zT l);have HT:=yA ht;rw[<-ht] at hcl ⊢;have hb1:l.length<1000000000:=by omega
 have hb2:tot<1000000000:=by omega
 clear h ih ht hb hl hcl;go_enter Tryz.func95,Tryz.ntmps95
 go_wp2_with fail
 go_loopw [3,4] (λnv iv wr=>∃i n:Nat,i<=l.length/\nv=.int .i64 n/\iv=.int .i64 i/\Hid (n+St.zT (l.drop i)=tot)/\Hid (Keeps zA w wr)) (λ_ iv _=>l.length-(intOf iv).toNat)
 case atStart=>exact⟨0,0,yF _,rfl,rfl,by show _=_;rw[yU,HT.out];omega,yB _ _⟩
 case round =>
  obtain⟨i,n,hi,rfl,rfl,HN,HK⟩:=hrel;by_cases hlt:i<l.length
  ·have i1:(0:Int)<=i:=by omega
   have i2:(i:Int)<l.length:=by omega
   have hd:=HN.out;rw[drop_at hlt] at hd;simp only[St.zT,St.zEM] at hd;obtain⟨g,o,xa,xc,ta,tc,ea,ec,e1,hg,d0,d1,d2,d3,d4,d5,d6,d7,d8,d9,hx,hxt,hxe⟩:=(HL.out.keeps HK.out (λ_ _ h=>h)).at hlt;subst e1;have hsz:=St.zCI (yI hlt);rw[St.zCZ] at hsz;have hB:=HB.out;have HTH:Hid (∀W,Keeps zA wr W->Calls Tryz.prog 151 #[.agg #[.int .i64 l[i].ex.kind,.int .i64 l[i].ex.num,.string l[i].ex.nm,.slice xa l[i].ex.args.length xc]] W λe w'=>e=.returned (.bool l[i].ex.there)/\Keeps zA W w'):=λW hk=>zFl l[i].ex W xa xc
   have HX:Hid (∀W,Keeps zA wr W->Calls Tryz.prog 98 #[.agg #[.int .i64 l[i].ex.kind,.int .i64 l[i].ex.num,.string l[i].ex.nm,.slice xa l[i].ex.args.length xc]] W λe w'=>e=.returned (.int .i64 l[i].ex.cnt)/\Keeps zA W w'):=λW hk=>zEG l[i].ex W F xa xc (hx.keeps hk (λ_ _ h=>h)) (by omega)
   have HTT:Hid (∀W,Keeps zA wr W->Calls Tryz.prog 95 #[.slice ta l[i].thn.length tc] W λe w'=>e=.returned (.int .i64 (St.zT l[i].thn:Nat))/\Keeps zA W w'):=λW hk=>(IH.out _ (yI hlt)).1 W F ta tc (hxt.keeps hk (λ_ _ h=>h)) (by omega)
   have HEE:Hid (∀W,Keeps zA wr W->Calls Tryz.prog 95 #[.slice ea l[i].els.length ec] W λe w'=>e=.returned (.int .i64 (St.zT l[i].els:Nat))/\Keeps zA W w'):=λW hk=>(IH.out _ (yI hlt)).2 W F ea ec (hxe.keeps hk (λ_ _ h=>h)) (by omega)
   obtain⟨th,hth⟩:=eX (l[i].ex.there);obtain⟨cx,hcx⟩:=eX (l[i].ex.cnt);obtain⟨ct,hct⟩:=eX (St.zT l[i].thn);obtain⟨ce,hce⟩:=eX (St.zT l[i].els);rw[<-hth] at HTH hd;rw[<-hcx] at HX hd;rw[<-hct] at HTT hd;rw[<-hce] at HEE hd;clear hx hxt hxe hsz hB hth hcx hct hce d0 d1 d2 d7;generalize l[i].ex.kind=x3 at d3 HX HTH;generalize l[i].ex.num=x4 at d4 HX HTH;generalize l[i].ex.nm=x5 at d5 HX HTH;generalize l[i].ex.args.length=x6 at d6 HX HTH;generalize l[i].thn.length=x8 at d8 HTT;generalize l[i].els.length=x9 at d9 HEE;cases th
   ·rw[if_neg (by decide)] at hd
    have HD:=yA hd;have b1:n+1+ct+ce<1000000000:=by omega
    have b2:n+1+ct<1000000000:=by omega
    clear hd;go_upto_region 9 with(go_at_call 151;refine(HTH.out _ (yB _ _)).mono ?_;rintro e w2 ⟨rfl,g1⟩;have G1:=yA g1;have d8':=g1.cell (p:=⟨g,o+i*10+8,none⟩) (λh=>h) d8;clear g1)
    go_upto_region 10 with(go_at_call 95;refine(HTT.out _ G1.out).mono ?_;rintro e w3 ⟨rfl,g2⟩;have d9':=(G1.out.zC g2).cell (p:=⟨g,o+i*10+9,none⟩) (λh=>h) d9;have G2:=yA (G1.out.zC g2);clear g2 d8')
    go_wp2_with (go_at_call 95;refine(HEE.out _ G2.out).mono ?_;rintro e w4 ⟨rfl,g3⟩;have G3:=yA (G2.out.zC g3);clear g3)
    go_roundw
    case rel=>exact⟨i+1,n+1+ct+ce,by omega,by go_num,by go_num,by show _=_;have:=HD.out;omega,HK.out.zC G3.out⟩
    case measure=>simp[intOf];omega
   ·rw[if_pos rfl] at hd
    have HD:=yA hd;have b1:n+1+cx+ct+ce<1000000000:=by omega
    have b2:n+1+cx+ct<1000000000:=by omega
    have b3:n+1+cx<1000000000:=by omega
    clear hd;go_upto_region 8 with(go_at_call 151;refine(HTH.out _ (yB _ _)).mono ?_;rintro e w2 ⟨rfl,g1⟩;have G1:=yA g1;have d3':=g1.cell (p:=⟨g,o+i*10+3,none⟩) (λh=>h) d3;have d4':=g1.cell (p:=⟨g,o+i*10+4,none⟩) (λh=>h) d4;have d5':=g1.cell (p:=⟨g,o+i*10+5,none⟩) (λh=>h) d5;have d6':=g1.cell (p:=⟨g,o+i*10+6,none⟩) (λh=>h) d6;clear g1)
    go_upto_region 9 with(go_at_call 98;refine(HX.out _ G1.out).mono ?_;rintro e wx ⟨rfl,gx⟩;have GX:=yA (G1.out.zC gx);have d8':=(G1.out.zC gx).cell (p:=⟨g,o+i*10+8,none⟩) (λh=>h) d8;clear gx d3' d4' d5' d6')
    go_upto_region 10 with(go_at_call 95;refine(HTT.out _ GX.out).mono ?_;rintro e w3 ⟨rfl,g2⟩;have d9':=(GX.out.zC g2).cell (p:=⟨g,o+i*10+9,none⟩) (λh=>h) d9;have G2:=yA (GX.out.zC g2);clear g2 d8')
    go_wp2_with (go_at_call 95;refine(HEE.out _ G2.out).mono ?_;rintro e w4 ⟨rfl,g3⟩;have G3:=yA (G2.out.zC g3);clear g3)
    go_roundw
    case rel=>exact⟨i+1,n+1+cx+ct+ce,by omega,by go_num,by go_num,by show _=_;have:=HD.out;omega,HK.out.zC G3.out⟩
    case measure=>simp[intOf];omega
  ·obtain rfl:i=l.length:=by omega
   have hd:=HN.out;rw[xO] at hd;simp only[St.zT] at hd;obtain rfl:n=tot:=by omega
   go_wp2_with fail
   go_ret
   exact⟨by go_num,HK.out⟩
theorem zSP(l:List St):zJq l:=by
 have key:∀x:St,zJq x.thn/\zJq x.els:=λx=>St.ind (P:=λx=>zJq x.thn/\zJq x.els) (λk r o x c t e h1 h2=>⟨zH9 t h1,zH9 e h2⟩) x
 exact zH9 l (λy _=>key y)
def zJL(l:List St):Prop:=∀(w:World)(F:Nat->Prop)(ad:Option Addr)(cap d:Nat),zx w F l ad->d+St.szL l<1000000000 →
 Calls Tryz.prog 94 #[.slice ad l.length cap,d] w λe w'=>e=.returned (.int .i64 (St.zu d l:Nat))/\Keeps zA w w'
theorem zIT(l:List St)(ih:∀y,y∈l->zJL y.thn/\zJL y.els):zJL l:=by
 intro w F ad cap d h hb
 have HL:=yA h;have IH:=yA ih;have hl:=St.zAe l;have hcl:=St.zCn d l;have HB:=yA hb;obtain⟨tot,ht⟩:=eX (St.zu d l);have HT:=yA ht;rw[<-ht] at hcl ⊢;have hb1:l.length<1000000000:=by omega
 have hb2:tot<1000000000:=by omega
 have hb3:d<1000000000:=by omega
 clear h ih ht hb hl hcl;have hw:IntKind.i64.wrap ((d:Int)+1)=(d:Int)+1:=vN _ (by omega) (by omega);go_enter Tryz.func94,Tryz.ntmps94
 go_wp2_with fail
 go_loopw [5,6] (λnv iv wr=>∃i n:Nat,i<=l.length/\nv=.int .i64 n/\iv=.int .i64 i/\Hid (max n (St.zu d (l.drop i))=tot)/\Hid (Keeps zA w wr)) (λ_ iv _=>l.length-(intOf iv).toNat)
 case atStart=>exact⟨0,0,yF _,rfl,rfl,by show _=_;rw[yU,HT.out];omega,yB _ _⟩
 case round =>
  obtain⟨i,n,hi,rfl,rfl,HN,HK⟩:=hrel;by_cases hlt:i<l.length
  ·have i1:(0:Int)<=i:=by omega
   have i2:(i:Int)<l.length:=by omega
   have hd:=HN.out;rw[drop_at hlt] at hd;simp only[St.zu,St.zK0] at hd;obtain⟨g,o,xa,xc,ta,tc,ea,ec,e1,hg,d0,d1,d2,d3,d4,d5,d6,d7,d8,d9,hx,hxt,hxe⟩:=(HL.out.keeps HK.out (λ_ _ h=>h)).at hlt;subst e1;have hsz:=St.zCI (yI hlt);rw[St.zCZ] at hsz;have hB:=HB.out;have e:((d+1:Nat):Int)=(d:Int)+1:=by omega
   have HTH:Hid (∀W,Keeps zA wr W->Calls Tryz.prog 151 #[.agg #[.int .i64 l[i].ex.kind,.int .i64 l[i].ex.num,.string l[i].ex.nm,.slice xa l[i].ex.args.length xc]] W λe w'=>e=.returned (.bool l[i].ex.there)/\Keeps zA W w'):=λW hk=>zFl l[i].ex W xa xc
   have HX:Hid (∀W,Keeps zA wr W->Calls Tryz.prog 152 #[.agg #[.int .i64 l[i].ex.kind,.int .i64 l[i].ex.num,.string l[i].ex.nm,.slice xa l[i].ex.args.length xc]] W λe w'=>e=.returned (.int .i64 l[i].ex.dep)/\Keeps zA W w'):=λW hk=>zHp l[i].ex W F xa xc (hx.keeps hk (λ_ _ h=>h)) (by omega)
   have HTT:Hid (∀W,Keeps zA wr W->Calls Tryz.prog 94 #[.slice ta l[i].thn.length tc,.int .i64 ((d:Int)+1)] W λe w'=>e=.returned (.int .i64 (St.zu (d+1) l[i].thn:Nat))/\Keeps zA W w'):=λW hk=>by rw[<-e];exact(IH.out _ (yI hlt)).1 W F ta tc (d+1) (hxt.keeps hk (λ_ _ h=>h)) (by omega)
   have HEE:Hid (∀W,Keeps zA wr W->Calls Tryz.prog 94 #[.slice ea l[i].els.length ec,.int .i64 ((d:Int)+1)] W λe w'=>e=.returned (.int .i64 (St.zu (d+1) l[i].els:Nat))/\Keeps zA W w'):=λW hk=>by rw[<-e];exact(IH.out _ (yI hlt)).2 W F ea ec (d+1) (hxe.keeps hk (λ_ _ h=>h)) (by omega)
   obtain⟨th,hth⟩:=eX (l[i].ex.there);obtain⟨cx,hcx⟩:=eX (l[i].ex.dep);obtain⟨ct,hct⟩:=eX (St.zu (d+1) l[i].thn);obtain⟨ce,hce⟩:=eX (St.zu (d+1) l[i].els);rw[<-hth] at HTH hd;rw[<-hcx] at HX hd;rw[<-hct] at HTT hd;rw[<-hce] at HEE hd;clear hx hxt hxe hsz hB hth hcx hct hce d0 d1 d2 d7 e;generalize l[i].ex.kind=x3 at d3 HX HTH;generalize l[i].ex.num=x4 at d4 HX HTH;generalize l[i].ex.nm=x5 at d5 HX HTH;generalize l[i].ex.args.length=x6 at d6 HX HTH;generalize l[i].thn.length=x8 at d8 HTT;generalize l[i].els.length=x9 at d9 HEE;obtain⟨n1,hn1⟩:=eX (max n d);have m1:max (n:Int) (d:Int)=(n1:Int):=by omega
   cases th
   ·rw[if_neg (by decide)] at hd
    obtain⟨n2,hn2⟩:=eX (max n1 ct);have m2:max (n1:Int) (ct:Int)=(n2:Int):=by omega
    obtain⟨n3,hn3⟩:=eX (max n2 ce);have m3:max (n2:Int) (ce:Int)=(n3:Int):=by omega
    have HD:Hid (max n3 (St.zu d (l.drop (i+1)))=tot):=by show _=_;omega
    clear hd hn1 hn2 hn3;go_upto_region 10 with(go_at_call 151;refine(HTH.out _ (yB _ _)).mono ?_;rintro e w2 ⟨rfl,g1⟩;have G1:=yA g1;have d8':=g1.cell (p:=⟨g,o+i*10+8,none⟩) (λh=>h) d8;clear g1)
    go_upto_region 12 with(go_at_call 94;refine(HTT.out _ G1.out).mono ?_;rintro e w3 ⟨rfl,g2⟩;have d9':=(G1.out.zC g2).cell (p:=⟨g,o+i*10+9,none⟩) (λh=>h) d9;have G2:=yA (G1.out.zC g2);clear g2 d8')
    exact J55 _
   ·rw[if_pos rfl] at hd
    obtain⟨nx,hnx⟩:=eX (max n1 cx);have mx:max (n1:Int) (cx:Int)=(nx:Int):=by omega
    obtain⟨n2,hn2⟩:=eX (max nx ct);have m2:max (nx:Int) (ct:Int)=(n2:Int):=by omega
    obtain⟨n3,hn3⟩:=eX (max n2 ce);have m3:max (n2:Int) (ce:Int)=(n3:Int):=by omega
    have HD:Hid (max n3 (St.zu d (l.drop (i+1)))=tot):=by show _=_;omega
    clear hd hn1 hn2 hn3 hnx;go_upto_region 8 with(go_at_call 151;refine(HTH.out _ (yB _ _)).mono ?_;rintro e w2 ⟨rfl,g1⟩;have G1:=yA g1;have d3':=g1.cell (p:=⟨g,o+i*10+3,none⟩) (λh=>h) d3;have d4':=g1.cell (p:=⟨g,o+i*10+4,none⟩) (λh=>h) d4;have d5':=g1.cell (p:=⟨g,o+i*10+5,none⟩) (λh=>h) d5;have d6':=g1.cell (p:=⟨g,o+i*10+6,none⟩) (λh=>h) d6;clear g1)
    go_upto_region 10 with(go_at_call 152;refine(HX.out _ G1.out).mono ?_;rintro e wx ⟨rfl,gx⟩;have GX:=yA (G1.out.zC gx);have d8':=(G1.out.zC gx).cell (p:=⟨g,o+i*10+8,none⟩) (λh=>h) d8;clear gx d3' d4' d5' d6')
    go_upto_region 12 with(go_at_call 94;refine(HTT.out _ GX.out).mono ?_;rintro e w3 ⟨rfl,g2⟩;have d9':=(GX.out.zC g2).cell (p:=⟨g,o+i*10+9,none⟩) (λh=>h) d9;have G2:=yA (GX.out.zC g2);clear g2 d8')
    exact J55 _
  ·obtain rfl:i=l.length:=by omega
   have hd:=HN.out;rw[xO] at hd;simp only[St.zu] at hd;obtain rfl:n=tot:=by omega
   go_wp2_with fail
   go_ret
   exact⟨by go_num,HK.out⟩
theorem zST(l:List St):zJL l:=by
 have key:∀x:St,zJL x.thn/\zJL x.els:=λx=>St.ind (P:=λx=>zJL x.thn/\zJL x.els) (λk r o x c t e h1 h2=>⟨zIT t h1,zIT e h2⟩) x
 exact zIT l (λy _=>key y)
theorem zHq(nm:ByteArray)(ts:List (List St))(w:World)(F:Nat->Prop)(pca pma ta:Option Addr)(pcn pcc pmn pmc tc:Nat)(h:zAh w F nm ts ta)(hb:zBt ts<900000000):
 Calls Tryz.prog 51 #[.agg #[.slice pca pcn pcc,.slice pma pmn pmc,.slice ta ts.length tc]] w λe w'=>e=.returned (.int .i64 (zAO ts:Nat))/\Keeps zA w w':=by
 have HL:=yA h;have hl:=zIk ts;have hc:=zIs ts;have HB:=yA hb;obtain⟨tot,ht⟩:=eX (zAO ts);have HT:=yA ht;rw[<-ht] at hc ⊢;have hb1:ts.length<1000000000:=by omega
 have hb2:tot<1000000000:=by omega
 clear h ht hb hl hc;go_enter Tryz.func51,Tryz.ntmps51
 go_upto_region 1 with fail
 obtain⟨b1,hb1⟩:=eX w.heap.size;have hr1:zB (w.alloc (.cells #[.slice pca pcn pcc,.slice pma pmn pmc,.slice ta ts.length tc] 102)) b1 [.slice pca pcn pcc,.slice pma pmn pmc,.slice ta ts.length tc]:=J169 _;have hk1:Keeps zA w (w.alloc (.cells #[.slice pca pcn pcc,.slice pma pmn pmc,.slice ta ts.length tc] 102)):=(yB _ _).alloc _;rw[<-hb1];generalize w.alloc (.cells #[.slice pca pcn pcc,.slice pma pmn pmc,.slice ta ts.length tc] 102)=w1 at hr1 hk1 ⊢;have R1:=yA hr1;have K1:=yA hk1;clear hr1 hk1 hb1;go_wp2_with fail
 go_loopw [3,4] (λnv iv wr=>∃i n:Nat,i<=ts.length/\nv=.int .i64 n/\iv=.int .i64 i/\Hid (n+zAO (ts.drop i)=tot)/\Hid (Keeps zA w1 wr)) (λ_ iv _=>ts.length-(intOf iv).toNat)
 case atStart=>exact⟨0,0,yF _,rfl,rfl,by show _=_;rw[yU,HT.out];omega,yB _ _⟩
 case round =>
  obtain⟨i,n,hi,rfl,rfl,HN,HK⟩:=hrel;obtain⟨y0,y1,y2⟩:=(R1.out.keeps HK.out (λh=>h)).three;by_cases hlt:i<ts.length
  ·have i1:(0:Int)<=i:=by omega
   have i2:(i:Int)<ts.length:=by omega
   have hd:=HN.out;rw[drop_at hlt] at hd;simp only[zAO] at hd;obtain⟨g,o,ba,bc,e1,hg,d0,d1,hx⟩:=(HL.out.keeps (K1.out.zC HK.out) (λ_ _ h=>h)).at hlt;subst e1;have HX:Hid (∀W,Keeps zA wr W->Calls Tryz.prog 95 #[.slice ba ts[i].length bc] W λe w'=>e=.returned (.int .i64 (St.zT ts[i]:Nat))/\Keeps zA W w'):=λW hk=>zSP ts[i] W F ba bc (hx.keeps hk (λ_ _ h=>h)) (by have:=zDq (yI hlt);have:=HB.out;omega)
   obtain⟨m,hm⟩:=eX (St.zT ts[i]);rw[<-hm] at HX hd;have HD:=yA hd;have b2:n+m<1000000000:=by omega
   clear hx hm hd;generalize ts[i].length=x1 at d1 HX;go_wp2_with (go_at_call 95;refine(HX.out _ (yB _ _)).mono ?_;rintro e w2 ⟨rfl,g1⟩;have G1:=yA g1;clear g1)
   exact J96 _
  ·obtain rfl:i=ts.length:=by omega
   have hd:=HN.out;rw[xO] at hd;simp only[zAO] at hd;exact J79 _
theorem zI7(nm:ByteArray)(ts:List (List St))(w:World)(F:Nat->Prop)(pca pma ta:Option Addr)(pcn pcc pmn pmc tc:Nat)(h:zAh w F nm ts ta)(hb:zBt ts<900000000):
 Calls Tryz.prog 50 #[.agg #[.slice pca pcn pcc,.slice pma pmn pmc,.slice ta ts.length tc]] w λe w'=>e=.returned (.int .i64 (zAF ts:Nat))/\Keeps zA w w':=by
 have HL:=yA h;have hl:=zIk ts;have hc:=zFa ts;have HB:=yA hb;obtain⟨tot,ht⟩:=eX (zAF ts);have HT:=yA ht;rw[<-ht] at hc ⊢;have hb1:ts.length<1000000000:=by omega
 have hb2:tot<1000000000:=by omega
 clear h ht hb hl hc;go_enter Tryz.func50,Tryz.ntmps50
 go_upto_region 1 with fail
 obtain⟨b1,hb1⟩:=eX w.heap.size;have hr1:zB (w.alloc (.cells #[.slice pca pcn pcc,.slice pma pmn pmc,.slice ta ts.length tc] 102)) b1 [.slice pca pcn pcc,.slice pma pmn pmc,.slice ta ts.length tc]:=J169 _;have hk1:Keeps zA w (w.alloc (.cells #[.slice pca pcn pcc,.slice pma pmn pmc,.slice ta ts.length tc] 102)):=(yB _ _).alloc _;rw[<-hb1];generalize w.alloc (.cells #[.slice pca pcn pcc,.slice pma pmn pmc,.slice ta ts.length tc] 102)=w1 at hr1 hk1 ⊢;have R1:=yA hr1;have K1:=yA hk1;clear hr1 hk1 hb1;go_wp2_with fail
 go_loopw [3,4] (λnv iv wr=>∃i n:Nat,i<=ts.length/\nv=.int .i64 n/\iv=.int .i64 i/\Hid (max n (zAF (ts.drop i))=tot)/\Hid (Keeps zA w1 wr)) (λ_ iv _=>ts.length-(intOf iv).toNat)
 case atStart=>exact⟨0,0,yF _,rfl,rfl,by show _=_;rw[yU,HT.out];omega,yB _ _⟩
 case round =>
  obtain⟨i,n,hi,rfl,rfl,HN,HK⟩:=hrel;obtain⟨y0,y1,y2⟩:=(R1.out.keeps HK.out (λh=>h)).three;by_cases hlt:i<ts.length
  ·have i1:(0:Int)<=i:=by omega
   have i2:(i:Int)<ts.length:=by omega
   have hd:=HN.out;rw[drop_at hlt] at hd;simp only[zAF] at hd;obtain⟨g,o,ba,bc,e1,hg,d0,d1,hx⟩:=(HL.out.keeps (K1.out.zC HK.out) (λ_ _ h=>h)).at hlt;subst e1;have HX:Hid (∀W,Keeps zA wr W->Calls Tryz.prog 94 #[.slice ba ts[i].length bc,(1:Int)] W λe w'=>e=.returned (.int .i64 (St.zu 1 ts[i]:Nat))/\Keeps zA W w'):=λW hk=>zST ts[i] W F ba bc 1 (hx.keeps hk (λ_ _ h=>h)) (by have:=zDq (yI hlt);have:=HB.out;omega)
   obtain⟨m,hm⟩:=eX (St.zu 1 ts[i]);rw[<-hm] at HX hd;obtain⟨n1,hn1⟩:=eX (max n m);have m1:max (n:Int) (m:Int)=(n1:Int):=by omega
   have HD:Hid (max n1 (zAF (ts.drop (i+1)))=tot):=by show _=_;omega
   clear hx hm hd hn1;generalize ts[i].length=x1 at d1 HX;go_wp2_with (go_at_call 94;refine(HX.out _ (yB _ _)).mono ?_;rintro e w2 ⟨rfl,g1⟩;have G1:=yA g1;clear g1)
   go_roundw
   case rel=>exact⟨i+1,n1,by omega,by first|rfl|(congr 1;omega)|go_num,by go_num,HD,HK.out.zC G1.out⟩
   case measure=>simp[intOf];omega
  ·obtain rfl:i=ts.length:=by omega
   have hd:=HN.out;rw[xO] at hd;simp only[zAF] at hd;exact J79 _
