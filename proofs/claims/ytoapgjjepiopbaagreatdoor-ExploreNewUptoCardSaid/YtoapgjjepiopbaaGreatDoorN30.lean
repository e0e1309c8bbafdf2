/- Layer N: texts joined. -/
import Derived.Test.YtoapgjjepiopbaaGreatDoorN29
set_option linter.all false
set_option maxHeartbeats 2000000
set_option maxRecDepth 8000
namespace Go.Proofs.YtoapgjjepiopbaaGreatDoor
open Go.RowKit
theorem J41 (P:Prop) (h:P:=by exact hK _ _ g1 (n1.mono (fun _ _=>trivial))):P:=h
theorem J45 (P:Prop) (h:P:=by
 have h1:=zIM bs h
 have h2:m < b ^ (11*zAb bs+1):=by
  have h3:=zEh (n:=11*zAb bs) hb;have h4:0 < b ^ (11*zAb bs):=Nat.pow_pos (by omega);have h5:2*b ^ (11*zAb bs) <= b*b ^ (11*zAb bs):=Nat.mul_le_mul_right _ hb;rw [Nat.pow_succ,Nat.mul_comm];omega
 have:=zCg hb h2
 omega):P:=h
theorem J57 (P:Prop) (h:P:=by
 clear hc1 hc2 h1 HR;go_wp2_with (go_at_call 47;refine (HDG.out _ _ _ (by first | exact .inl ⟨rfl,rfl⟩ | exact .inr ⟨rfl,rfl⟩) rfl).mono ?_;rintro e w2 ⟨rfl,rfl⟩)
 go_ret
 exact ⟨by first | rfl | (simp;done) | (simp;omega),rfl⟩):P:=h
theorem J59 (P:Prop) (h:P:=by
 clear hc1 hc2 h1 HR;go_wp2_with fail
 go_quiet (fail)
 go_wp2_with fail
 go_quiet (fail)
 go_wp2_with fail
 go_ret
 exact ⟨by first | rfl | (simp;done) | (simp;omega),by first | exact (HK.out.drewN _) | exact (HK.out.drewN _).drewN _⟩):P:=h
theorem J94 (P:Prop) (h:P:=by
 clear HR hm1 hm2;go_enter Tryz.func22,Tryz.ntmps22
 go_wp2_with fail
 go_ret
 exact ⟨by first | rfl | (simp;done) | (simp;omega),Keeps.refl _ _⟩):P:=h
theorem zGG (x y:Nat) (w:World) (F:Nat -> Prop) (xa ya:Option Addr) (xc yc:Nat) (hx:zAD w F 1000000000 x xa) (hy:zAD w F 1000000000 y ya) (lx:(zw 1000000000 x).length <= 100000000000) (ly:(zw 1000000000 y).length <= 100000000000) :
 Calls Tryz.prog 18 #[.slice xa (zw 1000000000 x).length xc, .slice ya (zw 1000000000 y).length yc] w fun e w'=>e=.returned (.bool (decide (y < x))) /\ w=w':=by
 have HX:=Lib.hid hx;have HY:=Lib.hid hy;obtain ⟨p,hp⟩:=eX ((zw 1000000000 x).length);obtain ⟨q,hq⟩:=eX ((zw 1000000000 y).length);have HPQ:Hid (p=(zw 1000000000 x).length /\ q=(zw 1000000000 y).length):=⟨hp,hq⟩;obtain ⟨L,hL⟩:=eX (max p q);have hmx:max (p:Int) (q:Int)=(L:Int):=by omega
 have H0:Hid (x / 1000000000 ^ L=y / 1000000000 ^ L):=by
  show _=_
  have h1:x < 1000000000 ^ L:=Nat.lt_of_not_le fun e=>by have:=(zZ (by decide) L x).2 e;omega
  have h2:y < 1000000000 ^ L:=Nat.lt_of_not_le fun e=>by have:=(zZ (by decide) L y).2 e;omega
  rw [Nat.div_eq_of_lt h1,Nat.div_eq_of_lt h2]
 obtain ⟨r,hr⟩:=eX (decide (y < x));have HR:=Lib.hid hr;rw [<- hr];rw [<- hp] at lx ⊢;rw [<- hq] at ly ⊢;have hL9:L <= 100000000000:=by omega
 clear hx hy hp hq hL hr;go_enter Tryz.func18,Tryz.ntmps18
 go_wp2_with fail
 go_loopw [5] (fun iv wr=>∃ (j:Nat) (z:Int),j <= L /\ iv=.int .i64 z /\ z=(j:Int) - 1 /\ wr=w /\ Hid (x / 1000000000 ^ j=y / 1000000000 ^ j)) (fun iv _=>(intOf iv+1).toNat)
 case atStart=>exact ⟨L,_,Nat.le_refl _,rfl,rfl,rfl,H0⟩
 case round =>
  obtain ⟨j,z,hj,rfl,hz,rfl,HE⟩:=hrel;cases j with
  | zero =>
    obtain rfl:z=-1:=by omega
    clear hz
    obtain rfl:r=false:=by
     have h:=HE.out;rw [Nat.pow_zero,Nat.div_one,Nat.div_one] at h;rw [HR.out,h];simp
    clear HR;go_wp2_with fail
    go_ret
    exact ⟨rfl,rfl⟩
  | succ m =>
    obtain rfl:z=(m:Int):=by omega
    clear hz;have i0:(0:Int) <= m:=by omega
    have HDG:Hid (∀ W s z,(s=.slice xa p xc /\ z=x / 1000000000 ^ m % 1000000000 \/ s=.slice ya q yc /\ z=y / 1000000000 ^ m % 1000000000) -> W=wr -> Calls Tryz.prog 47 #[s, .int .i64 m] W fun e w'=>e=.returned (.int .i64 (z:Nat)) /\ W=w'):=fun W s z h hW=>by
     subst hW;rcases h with ⟨rfl,rfl⟩ | ⟨rfl,rfl⟩
     ·rw [HPQ.out.1];exact zCQ 1000000000 (by decide) x m _ F xa xc HX.out
     ·rw [HPQ.out.2];exact zCQ 1000000000 (by decide) y m _ F ya yc HY.out
    have hc1:=zDK (b:=1000000000) (by decide) HE.out;have hc2:=zDK (b:=1000000000) (by decide) HE.out.symm;generalize x / 1000000000 ^ m % 1000000000=d1 at HDG hc1 hc2;generalize y / 1000000000 ^ m % 1000000000=d2 at HDG hc1 hc2;rcases Nat.lt_trichotomy d1 d2 with h | h | h
    ·have hb:((d1:Int) != (d2:Int))=true:=by rw [bne_iff_ne];omega
     have hn:¬ (d1:Int)=d2:=by omega
     have hl:¬ (d2:Int) < d1:=by omega
     have h1:=hc1.2 h;obtain rfl:r=false:=by rw [HR.out];simp;omega
     exact J57 _
    ·subst h
     have hb:((d1:Int) != (d1:Int))=false:=by simp
     have HN:Hid (x / 1000000000 ^ m=y / 1000000000 ^ m):=hc1.1 rfl;clear hc1 hc2;go_wp2_with (go_at_call 47;refine (HDG.out _ _ _ (by first | exact .inl ⟨rfl,rfl⟩ | exact .inr ⟨rfl,rfl⟩) rfl).mono ?_;rintro e w2 ⟨rfl,rfl⟩)
     go_roundw
     case rel=>exact ⟨m,_,by omega,rfl,by omega,by first | rfl | trivial,HN⟩
     case measure=>(try simp [intOf]) <;> (try omega)
    ·have hb:((d1:Int) != (d2:Int))=true:=by rw [bne_iff_ne];omega
     have hn:¬ (d1:Int)=d2:=by omega
     have hl:(d2:Int) < d1:=by omega
     have h1:=hc2.2 h;obtain rfl:r=true:=by rw [HR.out];simp;omega
     exact J57 _
theorem zGz (x y:Nat) (w:World) (F:Nat -> Prop) (xa ya:Option Addr) (xc yc:Nat) (hx:zAD w F 1000000000 x xa) (hy:zAD w F 1000000000 y ya) (lx:(zw 1000000000 x).length <= 100000000000) (ly:(zw 1000000000 y).length <= 100000000000) :
 Calls Tryz.prog 90 #[.slice xa (zw 1000000000 x).length xc, .slice ya (zw 1000000000 y).length yc] w fun e w'=>(∃ ad cap,e=.returned (.slice ad (zw 1000000000 (max x y)).length cap) /\ zAD w' F 1000000000 (max x y) ad) /\ w=w':=by
 have HA:Hid (∀ W,W=w -> Calls Tryz.prog 18 #[.slice ya (zw 1000000000 y).length yc, .slice xa (zw 1000000000 x).length xc] W fun e w'=>e=.returned (.bool (decide (x < y))) /\ W=w'):=fun W e=>by rw [e];exact zGG y x w F ya xa yc xc hy hx ly lx
 have HX:=Lib.hid hx;have HY:=Lib.hid hy;by_cases h:x < y
 ·have e:max x y=y:=by omega
  rw [e];rw [decide_eq_true h] at HA;generalize (zw 1000000000 x).length=p at HA ⊢;obtain ⟨q,hq⟩:=eX ((zw 1000000000 y).length);rw [<- hq] at HA ⊢;clear hx hy lx ly hq;go_enter Tryz.func90,Tryz.ntmps90
  go_wp2_with (go_at_call 18;refine (HA.out _ rfl).mono ?_;rintro e w2 ⟨rfl,rfl⟩)
  go_ret
  exact ⟨⟨_,_,rfl,HY.out⟩,rfl⟩
 ·have e:max x y=x:=by omega
  rw [e];rw [decide_eq_false h] at HA;generalize (zw 1000000000 y).length=q at HA ⊢;obtain ⟨p,hp⟩:=eX ((zw 1000000000 x).length);rw [<- hp] at HA ⊢;clear hx hy lx ly hp;go_enter Tryz.func90,Tryz.ntmps90
  go_wp2_with (go_at_call 18;refine (HA.out _ rfl).mono ?_;rintro e w2 ⟨rfl,rfl⟩)
  go_ret
  exact ⟨⟨_,_,rfl,HX.out⟩,rfl⟩
theorem zHX {b x y:Nat} (hb:2 <= b) (h:x <= y):(zw b x).length <= (zw b y).length:=by
 rcases Nat.lt_or_ge (zw b y).length (zw b x).length with h1 | h1
 ·have h2:=(zZ hb _ x).1 h1
  have h3:=(zZ hb _ y).2 (Nat.le_trans h2 h);omega
 ·exact h1
theorem zHj (x y:Nat) (w:World) (F:Nat -> Prop) (xa ya:Option Addr) (xc yc:Nat) (hx:zAD w F 10 x xa) (hy:zAD w F 10 y ya) (lx:(zw 10 x).length <= 100000000000) (ly:(zw 10 y).length <= 100000000000) :
 Calls Tryz.prog 22 #[.slice xa (zw 10 x).length xc, .slice ya (zw 10 y).length yc] w fun e w'=>e=.returned (.bool (decide (x < y))) /\ Keeps zA w w':=by
 have HX:=Lib.hid hx;have HY:=Lib.hid hy;obtain ⟨p,hp⟩:=eX ((zw 10 x).length);obtain ⟨q,hq⟩:=eX ((zw 10 y).length);have HPQ:Hid (p=(zw 10 x).length /\ q=(zw 10 y).length):=⟨hp,hq⟩
 have H0:Hid (p=q -> x / 10 ^ p=y / 10 ^ p):=fun e=>by
  have h1:x < 10 ^ p:=Nat.lt_of_not_le fun e=>by exact J211 _
  have h2:y < 10 ^ p:=Nat.lt_of_not_le fun e=>by have:=(zZ (by decide) p y).2 e;omega
  rw [Nat.div_eq_of_lt h1,Nat.div_eq_of_lt h2]
 have hm1:=zHX (b:=10) (x:=x) (y:=y) (by decide);have hm2:=zHX (b:=10) (x:=y) (y:=x) (by decide);rw [<- hp,<- hq] at hm1 hm2;obtain ⟨r,hr⟩:=eX (decide (x < y));have HR:=Lib.hid hr;rw [<- hr];rw [<- hp] at lx ⊢;rw [<- hq] at ly ⊢;clear hx hy hp hq hr;rcases Nat.lt_trichotomy p q with h | h | h
 ·have hb:((p:Int) != (q:Int))=true:=by rw [bne_iff_ne];omega
  have hl:(p:Int) < q:=by omega
  obtain rfl:r=true:=by rw [HR.out];simp;omega
  exact J94 _
 ·subst h
  have hb:((p:Int) != (p:Int))=false:=by simp
  have HE0:=Lib.hid (H0.out rfl);clear hm1 hm2 H0;go_enter Tryz.func22,Tryz.ntmps22
  go_wp2_with fail
  go_loopw [5] (fun iv wr=>∃ (j:Nat) (z:Int),j <= p /\ iv=.int .i64 z /\ z=(j:Int) - 1 /\ Hid (Keeps zA w wr) /\ Hid (x / 10 ^ j=y / 10 ^ j)) (fun iv _=>(intOf iv+1).toNat)
  case atStart=>exact ⟨p,_,Nat.le_refl _,rfl,rfl,Keeps.refl _ _,HE0⟩
  case round =>
   obtain ⟨j,z,hj,rfl,hz,HK,HE⟩:=hrel;cases j with
   | zero =>
     obtain rfl:z=-1:=by omega
     clear hz
     obtain rfl:r=false:=by
      have h:=HE.out;rw [Nat.pow_zero,Nat.div_one,Nat.div_one] at h;rw [HR.out,h];simp
     clear HR;go_wp2_with fail
     go_ret
     exact ⟨rfl,HK.out⟩
   | succ m =>
     obtain rfl:z=(m:Int):=by omega
     clear hz;have i0:(0:Int) <= m:=by omega
     have i1:(m:Int) < p:=by omega
     obtain ⟨g,o,e1,hg,c1⟩:=(HX.out.keeps HK.out (fun _ _ h=>h)) m (by have:=HPQ.out.1;omega);obtain ⟨g2,o2,e2,hg2,c2⟩:=(HY.out.keeps HK.out (fun _ _ h=>h)) m (by have:=HPQ.out.2;omega);have hc1:=zDK (b:=10) (by decide) HE.out;have hc2:=zDK (b:=10) (by decide) HE.out.symm;generalize x / 10 ^ m % 10=d1 at c1 hc1 hc2;generalize y / 10 ^ m % 10=d2 at c2 hc1 hc2;have HKK:=HK;subst e1 e2;clear hg hg2;rcases Nat.lt_trichotomy d1 d2 with h | h | h
     ·have hb:((d1:Int) != (d2:Int))=true:=by rw [bne_iff_ne];omega
      have hn:¬ (d1:Int)=d2:=by omega
      have hl:(d1:Int) < d2:=by omega
      have h1:=hc1.2 h;obtain rfl:r=true:=by rw [HR.out];simp;omega
      exact J59 _
     ·subst h
      have hb:((d1:Int) != (d1:Int))=false:=by simp
      have HN:Hid (x / 10 ^ m=y / 10 ^ m):=hc1.1 rfl;clear hc1 hc2;go_wp2_with fail
      go_quiet (fail)
      go_wp2_with fail
      go_roundw
      case rel=>exact ⟨m,_,by omega,rfl,by omega,HK.out.drewN _,HN⟩
      case measure=>(try simp [intOf]) <;> (try omega)
     ·have hb:((d1:Int) != (d2:Int))=true:=by rw [bne_iff_ne];omega
      have hn:¬ (d1:Int)=d2:=by omega
      have hl:¬ (d1:Int) < d2:=by omega
      have h1:=hc2.2 h;obtain rfl:r=false:=by rw [HR.out];simp;omega
      exact J59 _
 ·have hb:((p:Int) != (q:Int))=true:=by rw [bne_iff_ne];omega
  have hl:¬ (p:Int) < q:=by omega
  obtain rfl:r=false:=by rw [HR.out];simp;omega
  exact J94 _
theorem zGa (x y:Nat) (w:World) (F:Nat -> Prop) (xa ya:Option Addr) (xc yc:Nat) (hx:zAD w F 10 x xa) (hy:zAD w F 10 y ya) (lx:(zw 10 x).length <= 100000000000) (ly:(zw 10 y).length <= 100000000000) :
 Calls Tryz.prog 96 #[.slice xa (zw 10 x).length xc, .slice ya (zw 10 y).length yc] w fun e w'=>∃ ad cap,e=.returned (.slice ad (zw 10 (max x y)).length cap) /\ zAD w' F 10 (max x y) ad /\ Keeps zA w w':=by
 have HA:Hid (∀ W,W=w -> Calls Tryz.prog 22 #[.slice xa (zw 10 x).length xc, .slice ya (zw 10 y).length yc] W fun e w'=>e=.returned (.bool (decide (x < y))) /\ Keeps zA W w'):=fun W e=>by rw [e];exact zHj x y w F xa ya xc yc hx hy lx ly
 have HX:=Lib.hid hx;have HY:=Lib.hid hy;obtain ⟨p,hp⟩:=eX ((zw 10 x).length);obtain ⟨q,hq⟩:=eX ((zw 10 y).length);by_cases h:x < y
 ·have e:max x y=y:=by omega
  rw [e];rw [decide_eq_true h] at HA;rw [<- hp,<- hq] at HA ⊢;clear hx hy lx ly hq hp;go_enter Tryz.func96,Tryz.ntmps96
  go_wp2_with (go_at_call 22;refine (HA.out _ rfl).mono ?_;rintro e w2 ⟨rfl,g2⟩;have G2:=Lib.hid g2;clear g2)
  go_ret
  first
   | exact ⟨_,_,rfl,HY.out.keeps G2.out (fun _ _ h=>h),G2.out⟩
   | exact ⟨_,⟨_,rfl⟩,HY.out.keeps G2.out (fun _ _ h=>h),G2.out⟩
   | exact ⟨HY.out.keeps G2.out (fun _ _ h=>h),G2.out⟩
 ·have e:max x y=x:=by omega
  rw [e];rw [decide_eq_false h] at HA;rw [<- hp,<- hq] at HA ⊢;clear hx hy lx ly hp hq;go_enter Tryz.func96,Tryz.ntmps96
  go_wp2_with (go_at_call 22;refine (HA.out _ rfl).mono ?_;rintro e w2 ⟨rfl,g2⟩;have G2:=Lib.hid g2;clear g2)
  go_ret
  first
   | exact ⟨_,_,rfl,HX.out.keeps G2.out (fun _ _ h=>h),G2.out⟩
   | exact ⟨_,⟨_,rfl⟩,HX.out.keeps G2.out (fun _ _ h=>h),G2.out⟩
   | exact ⟨HX.out.keeps G2.out (fun _ _ h=>h),G2.out⟩
def unS:List Bd -> Nat
 | []=>0
 | b :: r=>(Ac.zY b.acts+1)+unS r
def unW:List Bd -> Nat
 | []=>0
 | b :: r=>(Ac.zT b.acts+1)+unW r
theorem zFS:(bs:List Bd) -> unS bs <= unW bs
 | []=>Nat.le_refl _
 | b :: r=>by
   have h1:=Ac.zAw b.acts;have h2:=zFS r;simp only [unS,unW];omega
theorem zDd:(a b:List Bd) -> unS (a++b)=unS a+unS b
 | [],b=>by simp [unS]
 | x :: r,b=>by have:=zDd r b;simp only [List.cons_append,unS,this];omega
theorem zDn:(a b:List Bd) -> unW (a++b)=unW a+unW b
 | [],b=>by simp [unW]
 | x :: r,b=>by have:=zDn r b;simp only [List.cons_append,unW,this];omega
theorem zED {l:List Bd} {i:Nat} (hi:i < l.length):unS (l.take (i+1))=unS (l.take i)+(Ac.zY l[i].acts+1):=by
 rw [take_at hi,zDd];simp [unS]
theorem zDy {l:List Bd} {i:Nat} (hi:i < l.length):unW (l.take (i+1))=unW (l.take i)+(Ac.zT l[i].acts+1):=by
 rw [take_at hi,zDn];simp [unW]
theorem zG6 (l:List Bd) (i:Nat):unS (l.take i) <= unS l:=by
 have h:=zDd (l.take i) (l.drop i);rw [List.take_append_drop] at h;omega
theorem zHS (l:List Bd) (i:Nat):unW (l.take i) <= unW l:=by
 have h:=zDn (l.take i) (l.drop i);rw [List.take_append_drop] at h;omega
def zJs (bs:List Bd):Prop:=∀ b,b ∈ bs -> Ac.zDS b.acts
theorem zCr {u:Un} (h:zu u=true):zJs u.threads:=by
 intro b hb
 have h1:Ac.zq u b.regs b.acts=true:=by
  rcases hq:Ac.zq u b.regs b.acts
  ·rw [zF2 hb hq] at h;cases h
  ·rfl
 exact Ac.zEL u b.regs b.acts h1
theorem zIM:(bs:List Bd) -> zJs bs -> unW bs+1 <= 2 ^ (11*zAb bs)
 | [],_=>by simp [unW,zAb]
 | b :: r,h=>by
   have h1:=Ac.zEF b.acts (h b List.mem_cons_self);have h2:=zIM r (fun x hx=>h x (List.mem_cons_of_mem _ hx));have e0:zAb (b :: r)=1+Ac.szL b.acts+zAb r:=rfl;have e:11*zAb (b :: r)=(11+11*Ac.szL b.acts)+11*zAb r:=by rw [e0];omega
   rw [e,Nat.pow_add,Nat.pow_add];simp only [unW];generalize 2 ^ (11*Ac.szL b.acts)=A at h1 ⊢;generalize 2 ^ (11*zAb r)=B at h2 ⊢
   have h3:A+B <= A*B+1:=by
    have ha:1 <= A:=by omega
    have hb:1 <= B:=by omega
    obtain ⟨a,rfl⟩:∃ a,A=a+1:=⟨A - 1,by omega⟩
    obtain ⟨b,rfl⟩:∃ b,B=b+1:=⟨B - 1,by omega⟩
    rw [Nat.add_mul,Nat.mul_add];omega
   have h4:2 ^ 11*A*B=2048*(A*B):=by rw [Nat.mul_assoc]
   have h5:A <= A*B:=Nat.le_mul_of_pos_right A (by omega);rw [h4];omega
theorem zGv {b:Nat} (hb:2 <= b) {bs:List Bd} (h:zJs bs) (hs:zAb bs < 900000000) (hl:bs.length < 1000000000) {m:Nat} (hm:m <= unW bs+1):(zw b m).length <= 12000000000:=by
 exact J45 _
theorem zK0 {b:Nat} (hb:2 <= b) {bs:List Bd} (h:zJs bs) (hs:zAb bs < 900000000) (hl:bs.length <= 8) {m:Nat} (hm:m <= unW bs+1):(zw b m).length <= 9900000010:=by
 exact J45 _
theorem zO.lt {w:World} {F:Nat -> Prop} {b n:Nat} {v:Value} (h:zO w F b n v):zO w (fun k=>k < w.heap.size) b n v:=by
 obtain ⟨ad,cap,e,h1⟩:=h;refine ⟨ad,cap,e,fun i hi=>?_⟩
 obtain ⟨g,o,e1,hg,hc⟩:=h1 i hi;exact ⟨g,o,e1,World.block_lt_of_cell? w ⟨g,_,none⟩ hc,hc⟩
theorem plusV {x y:Nat} {w:World} {F:Nat -> Prop} {v u:Value} (hx:zO w F 1000000000 x v) (hy:zO w F 1000000000 y u) (lx:(zw 1000000000 x).length <= 100000000000) (ly:(zw 1000000000 y).length <= 100000000000) :
 Calls Tryz.prog 91 #[v,u] w fun e w'=>∃ z,e=.returned z /\ zO w' (Since w.heap.size w') 1000000000 (x+y) z /\ Keeps zA w w':=by
 obtain ⟨xa,xc,rfl,h1⟩:=hx;obtain ⟨ya,yc,rfl,h2⟩:=hy;exact (zLB x y w F xa ya xc yc h1 h2 lx ly).mono fun e w' h=>h.v
theorem zLw {x k:Nat} {w:World} {F:Nat -> Prop} {v:Value} (hx:zO w F 1000000000 x v) (lx:(zw 1000000000 x).length <= 100000000000) (hk:k <= 1000) :
 Calls Tryz.prog 92 #[v, .int .i64 k] w fun e w'=>∃ z,e=.returned z /\ zO w' (Since w.heap.size w') 1000000000 (x*k) z /\ Keeps zA w w':=by
 obtain ⟨xa,xc,rfl,h1⟩:=hx;exact (zJY x k w F xa xc h1 lx hk).mono fun e w' h=>h.v
theorem zHA {x y:Nat} {w:World} {F:Nat -> Prop} {v u:Value} (hx:zO w F 1000000000 x v) (hy:zO w F 1000000000 y u) (lx:(zw 1000000000 x).length <= 100000000000) (ly:(zw 1000000000 y).length <= 100000000000) :
 Calls Tryz.prog 90 #[v,u] w fun e w'=>∃ z,e=.returned z /\ zO w' F 1000000000 (max x y) z /\ Keeps zA w w':=by
 obtain ⟨xa,xc,rfl,h1⟩:=hx;obtain ⟨ya,yc,rfl,h2⟩:=hy
 exact (zGz x y w F xa ya xc yc h1 h2 lx ly).mono fun e w' h=>by
  obtain ⟨⟨ad,cap,he,h3⟩,rfl⟩:=h;exact ⟨_,he,⟨ad,cap,rfl,h3⟩,Keeps.refl _ _⟩
theorem zEW (n:Nat) (hn:n < 9000000000000000000) (w:World):Calls Tryz.prog 19 #[.int .i64 n] w fun e w'=>∃ z,e=.returned z /\ zO w' (Since w.heap.size w') 1000000000 n z /\ Keeps zA w w' :=
 (zJb n hn w).mono fun e w' h=>h.v
theorem zKs {x y:Nat} {w:World} {F:Nat -> Prop} {v u:Value} (hx:zO w F 1000000000 x v) (hy:zO w F 1000000000 y u) (lx:(zw 1000000000 x).length <= 100000000000) (ly:(zw 1000000000 y).length <= 100000000000) :
 Calls Tryz.prog 18 #[v,u] w fun e w'=>e=.returned (.bool (decide (y < x))) /\ w=w':=by
 obtain ⟨xa,xc,rfl,h1⟩:=hx;obtain ⟨ya,yc,rfl,h2⟩:=hy;exact zGG x y w F xa ya xc yc h1 h2 lx ly
end Go.Proofs.YtoapgjjepiopbaaGreatDoor
namespace Go.Proofs.YtoapgjjepiopbaaGreatDoor
def WFr.pot (f:WFr):Nat:=Ac.zY f.rest+Ac.zY f.all*(f.left - 1)
def zO1:List WFr -> Nat
 | []=>0
 | f :: r=>f.pot+zO1 r
def WTh.pot (b:Bd) (t:WTh):Nat:=if t.st=1 then Ac.zY b.acts+1 else if t.st=2 then zO1 t.fs+1 else 0
def zPC (f:Nat -> Nat):Nat -> Nat
 | 0=>0
 | n+1=>zPC f n+f n
def zPW (u:Un) (m:WMa):Nat:=zPC (fun i=>(m.get i).pot (u.body i)) m.ths.length
theorem WMa.ok.run {u:Un} {m:WMa} (h:m.ok u) {i:Int} (h0:zKU m i=0):0 <= i /\ i.toNat < m.ths.length /\ (m.get i.toNat).st=2:=by
 obtain ⟨h1,h2,h3,h4,h5,_⟩:=zJo h0;have hi:i.toNat < m.ths.length:=by omega
 obtain ⟨b,_,hok,_⟩:=h.th hi;exact ⟨h1,hi,by rcases hok.1 with e | e | e | e <;> first | exact e | exact absurd e h3 | exact absurd e h4 | exact absurd e h5⟩
end Go.Proofs.YtoapgjjepiopbaaGreatDoor
namespace Go.Proofs.YtoapgjjepiopbaaGreatDoor
open Go.RowKit
def evV (x:Evt):Value:=.agg #[.int .i64 x.thread, .int .i64 x.kind, .int .i64 x.obj, .int .i64 x.value, .int .i64 x.bad]
theorem zC.five {w:World} {g:Nat} {a b c d e:Value} (r:zC w g [a,b,c,d,e]):∀ W,Keeps zA w W -> W.cell? ⟨g,0,none⟩=some a /\ W.cell? ⟨g,1,none⟩=some b /\ W.cell? ⟨g,2,none⟩=some c /\ W.cell? ⟨g,3,none⟩=some d /\ W.cell? ⟨g,4,none⟩=some e:=fun W q =>
 have r':=r.keeps q (fun h=>h);⟨r'.cell (k:=0) rfl,r'.cell (k:=1) rfl,r'.cell (k:=2) rfl,r'.cell (k:=3) rfl,r'.cell (k:=4) rfl⟩
def zIv (w:World) (g:Nat) (x:Evt):World:=((((w.setCell ⟨g,0,none⟩ (.int .i64 x.thread)).setCell ⟨g,1,none⟩ (.int .i64 x.kind)).setCell ⟨g,2,none⟩ (.int .i64 x.obj)).setCell ⟨g,3,none⟩ (.int .i64 x.value)).setCell ⟨g,4,none⟩ (.int .i64 x.bad)
theorem zDX (w:World) (g:Nat) (x:Evt):Keeps (fun q=>q=g) w (zIv w g x) :=
 (((((Keeps.refl (fun q=>q=g) w).setCell (p:=⟨g,0,none⟩) (fun _=>rfl) _).setCell (p:=⟨g,1,none⟩) (fun _=>rfl) _).setCell (p:=⟨g,2,none⟩) (fun _=>rfl) _).setCell (p:=⟨g,3,none⟩) (fun _=>rfl) _).setCell (p:=⟨g,4,none⟩) (fun _=>rfl) _
section
variable {R:zBA WFr} {sz:Nat} {ty:TypeId} {B:zDx} (L:zAN R sz) (LB:BOk B) {w w1 w':World} {T:zAA} {F:Nat -> Prop} {id b g:Nat} {u:Un} {p:zDP} {m:WMa}
include L LB in
theorem zCA.own (h:zCA R sz ty B w1 T F id b u p m w') (hk:Keeps zA w w1) (h1:w.heap.size <= g) (h2:g < w1.heap.size) (h3:T g=none) (h4:¬ F g) (x:Evt):zCA R sz ty B w T F id b u p m (zIv w' g x):=by
 obtain ⟨T',H',M,e,q⟩:=h;have hg:T' g=none:=e.none h3 h2
 refine ⟨T',H',MaP.keeps L LB M (zDX w' g x) (fun q e1 e2=>by
  rw [e2] at e1;rcases e1 with ⟨t,e1⟩ | e1
  ·rw [hg] at e1;cases e1
  ·exact h4 e1),⟨e.1,fun k y ey=>(e.2 k y ey).imp (fun h=>h) (fun h=>⟨Nat.le_trans hk.size h.1,h.2⟩)⟩,?_⟩
 exact ((hk.mono (fun _ _ h=>h.elim)).trans q (fun _ _ h=>h)).trans (zDX w' g x) (fun k hlt e=>by
  have e':k=g:=e;omega)
end
section
variable {w:World} {T:zAA} {F:Nat -> Prop} {id b:Nat} {u:Un} {p:zDP} {m:WMa} {H:List HTh}
end
theorem Since.trans {B C:Nat} {w w':World} {k:Nat} (h:Since C w k) (hb:B <= C) (hk:w.heap.size <= w'.heap.size):Since B w' k:=⟨Nat.le_trans hb h.1,Nat.lt_of_lt_of_le h.2 hk⟩
theorem zBS.own {w:World} {T:zAA} {id:Nat} {t:WTg} {ad:Option Addr} {cap:Nat} {xs:List Int} {e:TypeId} (h:w.ownsRow 0 e 1 (.slice ad xs.length cap) xs.length (ints xs)) (hT:∀ g,(Value.slice ad xs.length cap).ownBlock=some g -> T g=some (id,t)):zBS w T id t (.slice ad xs.length cap) xs :=
 zBS.of h hT ⟨_,_,rfl⟩
structure Cnt (w:World) (q:Nat) (s v:Value):Prop where
 row:zC w q [s,v]
 no:∀ (o:Nat) (k:Int),w.cell? ⟨q,o,none⟩ ≠ some (.int .i64 k)
theorem Cnt.keeps {S:Nat -> Prop} {w w':World} {q:Nat} {s v:Value} (h:Cnt w q s v) (hk:Keeps S w w') (hq:¬ S q):Cnt w' q s v :=
 ⟨h.row.keeps hk hq,fun o k e=>h.no o k (by rw [World.cell?_of_block (a:=⟨q,o,none⟩) (hk.block q (h.row.lt (by simp)) hq)] at e;exact e)⟩
theorem Cnt.zD {w w':World} {q:Nat} {s v:Value} (h:Cnt w q s v) (hk:Keeps zA w w'):Cnt w' q s v:=h.keeps hk (fun h=>h)
theorem Cnt.zG {w:World} {q l1 c1 l2 c2:Nat} {a1 a2:Option Addr} {t:TypeId} (h:w.heap[q]?=some (.cells #[.slice a1 l1 c1, .slice a2 l2 c2] t (0,0))):Cnt w q (.slice a1 l1 c1) (.slice a2 l2 c2):=by
 refine ⟨zC.zG h,fun o k e=>?_⟩
 rw [cell_of_row w q o _ t (0,0) h] at e;rcases o with _ | _ | o
 ·cases e
 ·cases e
 ·simp at e
theorem Cnt.set0 {w:World} {q l1 c1:Nat} {a1:Option Addr} {s v:Value} (h:Cnt w q s v):Cnt (w.setCell ⟨q,0,none⟩ (.slice a1 l1 c1)) q (.slice a1 l1 c1) v:=by
 refine ⟨h.row.set 0 (by simp) _,fun o k e=>?_⟩
 by_cases ho:o=0
 ·subst ho
  rw [World.cell?_setCell_same w ⟨q,0,none⟩ _ (h.row.cell (k:=0) rfl)] at e;cases e
 ·rw [World.cell?_setCell_other w ⟨q,0,none⟩ ⟨q,o,none⟩ _ (by simp <;> omega)] at e
  exact h.no o k e
theorem Cnt.set1 {w:World} {q l1 c1:Nat} {a1:Option Addr} {s v:Value} (h:Cnt w q s v):Cnt (w.setCell ⟨q,1,none⟩ (.slice a1 l1 c1)) q s (.slice a1 l1 c1):=by
 refine ⟨h.row.set 1 (by simp) _,fun o k e=>?_⟩
 by_cases ho:o=1
 ·subst ho
  rw [World.cell?_setCell_same w ⟨q,1,none⟩ _ (h.row.cell (k:=1) rfl)] at e;cases e
 ·rw [World.cell?_setCell_other w ⟨q,1,none⟩ ⟨q,o,none⟩ _ (by simp <;> omega)] at e
  exact h.no o k e
theorem Cnt.put {w:World} {q l1 c1 l2 c2:Nat} {a1 a2:Option Addr} {s v:Value} (h:Cnt w q s v):Cnt ((w.setCell ⟨q,0,none⟩ (.slice a1 l1 c1)).setCell ⟨q,1,none⟩ (.slice a2 l2 c2)) q (.slice a1 l1 c1) (.slice a2 l2 c2) /\ Keeps (fun k=>k=q) w ((w.setCell ⟨q,0,none⟩ (.slice a1 l1 c1)).setCell ⟨q,1,none⟩ (.slice a2 l2 c2)) :=
 ⟨h.set0.set1,((Keeps.refl (fun k=>k=q) w).setCell (p:=⟨q,0,none⟩) (fun _=>rfl) _).setCell (p:=⟨q,1,none⟩) (fun _=>rfl) _⟩
theorem zO.stored {w w':World} {b n q:Nat} {v s u:Value} (h:zO w (fun _=>True) b n v) (hr:Cnt w q s u) (hk:Keeps (fun k=>k=q) w w'):zO w' (fun _=>True) b n v:=by
 obtain ⟨ad,cap,e,h1⟩:=h;refine ⟨ad,cap,e,fun i hi=>?_⟩
 obtain ⟨g,o,e,hg,hcell⟩:=h1 i hi;refine ⟨g,o,e,trivial,hk.cell (p:=⟨g,_,none⟩) (fun hgq=>?_) hcell⟩
 have hgq':g=q:=hgq;subst hgq';exact hr.no _ _ hcell
theorem zA6 (x y xx yy:Nat) (w:World) (s v u1 u2:Value) (hs:zO w (fun _=>True) 1000000000 x s) (hv:zO w (fun _=>True) 1000000000 y v) (h1:zO w (fun _=>True) 1000000000 xx u1) (h2:zO w (fun _=>True) 1000000000 yy u2)
 (lx:(zw 1000000000 x).length <= 100000000000) (ly:(zw 1000000000 y).length <= 100000000000) (lxx:(zw 1000000000 xx).length <= 100000000000) (lyy:(zw 1000000000 yy).length <= 100000000000) :
 Calls Tryz.prog 46 #[.agg #[s,v],u1,u2] w fun e w'=>∃ z1 z2,e=.returned (.agg #[z1,z2]) /\ zO w' (fun _=>True) 1000000000 (x+xx) z1 /\ zO w' (fun _=>True) 1000000000 (y+yy) z2 /\ Keeps zA w w':=by
 have HP1:Hid (∀ W,Keeps zA w W -> Calls Tryz.prog 91 #[s,u1] W fun e w'=>∃ z,e=.returned z /\ zO w' (Since W.heap.size w') 1000000000 (x+xx) z /\ Keeps zA W w'):=fun W hk=>plusV (hs.zD hk) (h1.zD hk) lx lxx
 have HP2:Hid (∀ W,Keeps zA w W -> Calls Tryz.prog 91 #[v,u2] W fun e w'=>∃ z,e=.returned z /\ zO w' (Since W.heap.size w') 1000000000 (y+yy) z /\ Keeps zA W w'):=fun W hk=>plusV (hv.zD hk) (h2.zD hk) ly lyy
 obtain ⟨sa,sc,rfl,_⟩:=hs;obtain ⟨wa,wc,rfl,_⟩:=hv;generalize (zw 1000000000 x).length=n at HP1;generalize (zw 1000000000 y).length=m at HP2;clear h1 h2 lx ly lxx lyy;obtain ⟨Q,hQ⟩:=eX (α:=Ending -> World -> Prop) (fun e w'=>∃ z1 z2,e=.returned (.agg #[z1,z2]) /\ zO w' (fun _=>True) 1000000000 (x+xx) z1 /\ zO w' (fun _=>True) 1000000000 (y+yy) z2 /\ Keeps zA w w');have HQ:=Lib.hid hQ;rw [<- hQ];clear hQ;go_enter Tryz.func46,Tryz.ntmps46
 go_upto_region 1 with fail
 obtain ⟨b3,hb3⟩:=eX w.heap.size;obtain ⟨b6,hb6⟩:=eX (w.heap.size+1);rw [<- hb6,<- hb3];obtain ⟨wA,hwA⟩:=eX (w.alloc (.cells #[.slice sa n sc, .slice wa m wc] 53));obtain ⟨w1,hw1⟩:=eX (wA.alloc (.cells #[.slice none 0 0, .slice none 0 0] 53));rw [<- hwA,<- hw1];have kA:Keeps zA w wA:=J173 _;have k1:Keeps zA wA w1:=J180 _;have sA:wA.heap.size=w.heap.size+1:=by rw [hwA];simp
 have r3:zC wA b3 [.slice sa n sc, .slice wa m wc]:=by rw [hb3,hwA];exact zC.zG (heap_alloc_new w _)
 have r6:Cnt w1 b6 (.slice none 0 0) (.slice none 0 0):=by rw [hb6,<- sA,hw1];exact Cnt.zG (heap_alloc_new wA _)
 have R3:Hid (zC w1 b3 [.slice sa n sc, .slice wa m wc]):=r3.keeps k1 (fun h=>h);have R6:=Lib.hid r6;have K1:Hid (Keeps zA w w1):=kA.zB k1;have HS:Hid (w.heap.size <= b6):=by show _ <= _;omega
 clear hwA hw1 kA k1 sA r3 r6 hb3 hb6
 refine ze 9 (by kernel_rfl) (by kernel_rfl) (Keeps zA) (Keeps.refl zA) (fun a b c h h'=>Keeps.zB h h') (zA3 [some (.pointer (some ⟨b3,0,none⟩)),some (.slice sa n sc),some u1,none,some (.pointer (some ⟨b3,1,none⟩)),some (.slice wa m wc),some u2] (fun j v W=>match j with
  | 3=>zO W (fun _=>True) 1000000000 (x+xx) v
  | 7=>zO W (fun _=>True) 1000000000 (y+yy) v
  | _=>∃ z1 z2,v=.agg #[z1,z2] /\ zO W (fun _=>True) 1000000000 (x+xx) z1 /\ zO W (fun _=>True) 1000000000 (y+yy) z2)) (zA3.st (fun j v W W' h hk=>by
    revert h
    split
    ·exact fun h=>h.zD hk
    ·exact fun h=>h.zD hk
    ·rintro ⟨z1,z2,e,h1,h2⟩;exact ⟨z1,z2,e,h1.zD hk,h2.zD hk⟩)) ?_ ?_
 ·intro q oo hq ho vs W Q' hR0 hd hK
  have hR:Keeps zA w1 W:=((Keeps.refl zA w1).drew).zB hR0;obtain ⟨y30,y31⟩:=(R3.out.keeps hR (fun h=>h)).two;have HKW:Hid (Keeps zA w W):=K1.out.zB hR;clear hR hR0;rcases (show q=0 \/ q=1 \/ q=2 \/ q=3 \/ q=4 \/ q=5 \/ q=6 \/ q=7 \/ q=8 by omega) with rfl | rfl | rfl | rfl | rfl | rfl | rfl | rfl | rfl
  all_goals (simp only [List.getElem?_cons_zero,List.getElem?_cons_succ,Option.some.injEq] at ho;subst ho;simp only [zJ,List.getElem?_cons_zero,List.getElem?_cons_succ,Option.bind_some,Option.bind,Act.put,List.setIfInBounds_toArray,List.set_cons_zero,List.set_cons_succ] at hK ⊢;clear hq)
  ·exact J3 _
  ·exact J117 _
  ·exact J3 _
  ·have e1:vs 1=_:=hd 1 (by kernel_rfl)
   have e2:vs 2=_:=hd 2 (by kernel_rfl);rw [e1,e2] at hK ⊢;clear hd;go_wp2_with (go_at_call 91;refine (HP1.out W HKW.out).mono ?_;rintro e W1 ⟨z1,rfl,n1,g1⟩)
   exact J41 _
  ·exact J3 _
  ·exact J123 _
  ·exact J3 _
  ·have e5:vs 5=_:=hd 5 (by kernel_rfl)
   have e6:vs 6=_:=hd 6 (by kernel_rfl);rw [e5,e6] at hK ⊢;clear hd;go_wp2_with (go_at_call 91;refine (HP2.out W HKW.out).mono ?_;rintro e W1 ⟨z1,rfl,n1,g1⟩)
   exact J41 _
  ·obtain ⟨za,zc,e3,h3⟩:=(hd 3 (by kernel_rfl):zO W (fun _=>True) 1000000000 (x+xx) (vs 3))
   have H3:=Lib.hid h3;obtain ⟨ta,tc,e7,h7⟩:=(hd 7 (by kernel_rfl):zO W (fun _=>True) 1000000000 (y+yy) (vs 7));have H7:=Lib.hid h7;rw [e3,e7] at hK ⊢;clear h3 h7;clear hd;go_wp2_with fail
   exact hK _ _ (Keeps.refl _ _) ⟨_,_,rfl,⟨za,zc,rfl,H3.out⟩,⟨ta,tc,rfl,H7.out⟩⟩
 ·intro vs W hR0 hF
  have hR:Keeps zA w1 W:=((Keeps.refl zA w1).drew).zB hR0;obtain ⟨z1,z2,e8,n1,n2⟩:=(hF 8 (by decide):∃ z1 z2,vs 8=.agg #[z1,z2] /\ zO W (fun _=>True) 1000000000 (x+xx) z1 /\ zO W (fun _=>True) 1000000000 (y+yy) z2);have N1:=Lib.hid n1;have N2:=Lib.hid n2;obtain ⟨za,zc,rfl,_⟩:=n1;obtain ⟨ta,tc,rfl,_⟩:=n2;simp only [zJ,List.getElem?_cons_zero,List.getElem?_cons_succ,Option.bind_some,Option.bind,Act.put,List.setIfInBounds_toArray,List.set_cons_zero,List.set_cons_succ,List.drop_succ_cons,List.drop_zero];rw [e8];clear hF e8;generalize vs 0=y0;generalize vs 1=y1;generalize vs 2=y2;generalize vs 3=y3;generalize vs 4=y4;generalize vs 5=y5;generalize vs 6=y6;generalize vs 7=y7;have R6W:Hid (Cnt W b6 (.slice none 0 0) (.slice none 0 0)):=R6.out.zD hR;have KW:Hid (Keeps zA w W):=K1.out.zB hR;clear hR hR0 R3 R6;generalize (zw 1000000000 (x+xx)).length=p at N1 ⊢;generalize (zw 1000000000 (y+yy)).length=p2 at N2 ⊢;obtain ⟨z0,z1⟩:=R6W.out.row.two;have f0:=R6W.out.row.free (k:=0) (by simp);have f1:=R6W.out.row.free (k:=1) (by simp);go_wp2_with fail
  obtain ⟨hrow,hks⟩:=R6W.out.put (a1:=za) (l1:=p) (c1:=zc) (a2:=ta) (l2:=p2) (c2:=tc);generalize (W.setCell ⟨b6,0,none⟩ (.slice za p zc)).setCell ⟨b6,1,none⟩ (.slice ta p2 tc)=wE at hrow hks ⊢;refine bodyPost_ret (v:=.agg #[.slice za p zc, .slice ta p2 tc]) (by simp [results,Tryz.results46,go_sem,hrow.row.cell (k:=0) rfl,hrow.row.cell (k:=1) rfl]) rfl ?_
  rw [HQ.out];exact ⟨_,_,rfl,N1.out.stored R6W.out hks,N2.out.stored R6W.out hks,KW.out.trans hks (fun q hq e=>by have e':q=b6:=e;have:=HS.out;omega)⟩
theorem zMP (num:Int) (nm:ByteArray) (l:List Ex):Ex.pts (.mk 0 num nm l)=0:=by simp [Ex.pts]
theorem zN3 {k:Int} (h:¬ k=0) (num:Int) (nm:ByteArray) (l:List Ex):Ex.pts (.mk k num nm l)=1+Ex.zFF l:=by simp [Ex.pts,h]
theorem zI8:∀ (x:Ex) (w:World) (F:Nat -> Prop) (ad:Option Addr) (cap:Nat),zR w F x.args ad -> x.cnt < 1000000000 →
 Calls Tryz.prog 89 #[exV x ad cap] w fun e w'=>e=.returned (.int .i64 x.pts) /\ Keeps zA w w':=by
 refine Ex.ind (fun k num nm l ih w F ad cap h hb=>?_)
 have HL:Hid (zR w F l ad):=h;have IH:=Lib.hid ih;have hl:=Ex.zAY l;have hcn:Ex.cnt (.mk k num nm l)=1+Ex.zM l:=by simp [Ex.cnt]
 have hp:=Ex.zGQ l;rw [hcn] at hb;have HB:Hid (Ex.zM l < 1000000000):=by show _ < _;omega
 clear h ih hcn;obtain ⟨tot,ht⟩:=eX (Ex.zFF l);have HT:=Lib.hid ht;rw [<- ht] at hp;have htot:tot < 1000000000:=by omega
 have hll:l.length < 1000000000:=by omega
 clear hl hb hp;obtain ⟨r,hr⟩:=eX (Ex.pts (.mk k num nm l));rw [<- hr];have HR:Hid ((k=0 -> r=0) /\ (¬ k=0 -> r=1+tot)):=⟨fun e=>by rw [hr,e,zMP],fun e=>by rw [hr,zN3 e,HT.out]⟩;clear ht hr;show Calls _ _ #[.agg #[.int .i64 k, .int .i64 num, .string nm, .slice ad l.length cap]] _ _
 go_enter Tryz.func89,Tryz.ntmps89
 go_upto_region 1 with fail
 obtain ⟨b1,hb1⟩:=eX w.heap.size;have hr1:zC (w.alloc (.cells #[.int .i64 k, .int .i64 num, .string nm, .slice ad l.length cap] 144)) b1 [.int .i64 k, .int .i64 num, .string nm, .slice ad l.length cap]:=J150 _;have hk1:Keeps zA w (w.alloc (.cells #[.int .i64 k, .int .i64 num, .string nm, .slice ad l.length cap] 144)):=(Keeps.refl _ _).alloc _;rw [<- hb1];generalize w.alloc (.cells #[.int .i64 k, .int .i64 num, .string nm, .slice ad l.length cap] 144)=w1 at hr1 hk1 ⊢;have K1:=Lib.hid hk1;have c0:=hr1.cell (k:=0) (v:=.int .i64 k) rfl;have c3:=hr1.cell (k:=3) (v:=.slice ad l.length cap) rfl;clear hr1 hk1 hb1;rcases (show k=0 \/ ¬ k=0 by omega) with hk0 | hk0
 ·obtain rfl:=HR.out.1 hk0
  subst hk0;clear HR;exact J35 _
 ·obtain rfl:=HR.out.2 hk0
  clear HR;have hkb:(k==0)=false:=by simpa using hk0
  go_upto_region 5 with fail
  clear c0 c3;go_loopw [3,12] (fun nv iv wr=>∃ i n:Nat,i <= l.length /\ nv=.int .i64 n /\ iv=.int .i64 i /\ Hid (n+Ex.zFF (l.drop i)=1+tot) /\ Hid (Keeps zA w1 wr)) (fun _ iv _=>l.length - (intOf iv).toNat)
  case atStart=>exact ⟨0,1,Nat.zero_le _,rfl,rfl,by show _=_;rw [List.drop_zero,HT.out],Keeps.refl _ _⟩
  case round =>
   obtain ⟨i,n,hi,rfl,rfl,HN,HK⟩:=hrel;by_cases hlt:i < l.length
   ·have i1:(0:Int) <= i:=by omega
    have i2:(i:Int) < l.length:=by omega
    have hd:=HN.out;rw [drop_at hlt,Ex.zFF] at hd;obtain ⟨g,o,a,c,e1,hg,d0,d1,d2,d3,hx⟩:=(HL.out.keeps (K1.out.zB HK.out) (fun _ _ h=>h)).at hlt;subst e1;have hcm:=Ex.zBx (List.getElem_mem hlt);have HC:Hid (∀ W,Keeps zA wr W -> Calls Tryz.prog 89 #[.agg #[.int .i64 l[i].kind, .int .i64 l[i].num, .string l[i].nm, .slice a l[i].args.length c]] W fun e w'=>e=.returned (.int .i64 l[i].pts) /\ Keeps zA W w'):=fun W hk=>IH.out _ (List.getElem_mem hlt) W F a c (hx.keeps hk (fun _ _ h=>h)) (by have:=HB.out;omega)
    obtain ⟨m,hm⟩:=eX (l[i].pts);rw [<- hm] at HC hd;have HD:=Lib.hid hd;have b1:n+m < 1000000001:=by omega
    clear hx hm hd hcm;generalize l[i].kind=x0 at d0 HC;generalize l[i].num=x1 at d1 HC;generalize l[i].nm=x2 at d2 HC;generalize l[i].args.length=x3 at d3 HC;go_upto_region 7 with fail
    obtain ⟨b5,hb5⟩:=eX wr.heap.size;have hr5:zC (wr.alloc (.cells #[.int .i64 x0, .int .i64 x1, .string x2, .slice a x3 c] 144)) b5 [.int .i64 x0, .int .i64 x1, .string x2, .slice a x3 c]:=J175 _;have hk5:Keeps zA wr (wr.alloc (.cells #[.int .i64 x0, .int .i64 x1, .string x2, .slice a x3 c] 144)):=(Keeps.refl _ _).alloc _;rw [<- hb5];generalize wr.alloc (.cells #[.int .i64 x0, .int .i64 x1, .string x2, .slice a x3 c] 144)=w5 at hr5 hk5 ⊢;obtain ⟨y0,y1,y2,y3⟩:=hr5.four;have K5:=Lib.hid hk5;clear hr5 hk5 hb5 d0 d1 d2 d3;go_wp2_with (go_at_call 89;refine (HC.out _ K5.out).mono ?_;rintro e w2 ⟨rfl,g1⟩;have G1:=Lib.hid g1;clear g1)
    go_roundw
    case rel=>exact ⟨i+1,n+m,by omega,by go_num,by go_num,by show _=_;have:=HD.out;omega,HK.out.zB (K5.out.zB G1.out)⟩
    case measure=>simp [intOf];omega
   ·obtain rfl:i=l.length:=by omega
    have hd:=HN.out;rw [List.drop_length] at hd;simp only [Ex.zFF] at hd;exact J39 _
end Go.Proofs.YtoapgjjepiopbaaGreatDoor
