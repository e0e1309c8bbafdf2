/- Layer K: texts joined. -/
import Derived.Test.YtfokdllgnblamaaGreatDoorK21
set_option linter.all false
set_option maxRecDepth 8000
namespace Go.Proofs.YtfokdllgnblamaaGreatDoor
open Go.RowKit
abbrev vM:=@Ac.zBZ
abbrev uE:=@bne_iff_ne
theorem J57 (P:Prop) (h:P:=by
 have h1:=zJG bs h
 have h2:m < b ^ (11*zAy bs+1):=by
  have h3:=zFL (n:=11*zAy bs) hb;have h4:0 < b ^ (11*zAy bs):=vY (by omega);have h5:2*b ^ (11*zAy bs) <= b*b ^ (11*zAy bs):=vC _ hb;rw [uV,Nat.mul_comm];omega
 have:=zDL hb h2
 omega):P:=h
theorem J72 (P:Prop) (h:P:=by
 clear hc1 hc2 h1 HR;go_wp2_with (go_at_call 98;refine (HDG.out _ _ _ (by first | exact .inl ⟨rfl,rfl⟩ | exact .inr ⟨rfl,rfl⟩) rfl).mono ?_;rintro e w2 ⟨rfl,rfl⟩)
 go_ret
 exact ⟨by first | rfl | (simp;done) | (simp;omega),rfl⟩):P:=h
theorem J73 (P:Prop) (h:P:=by
 clear hc1 hc2 h1 HR;go_wp2_with fail
 go_quiet (fail)
 go_wp2_with fail
 go_quiet (fail)
 go_wp2_with fail
 go_ret
 exact ⟨by first | rfl | (simp;done) | (simp;omega),by first | exact (HK.out.drewN _) | exact (HK.out.drewN _).drewN _⟩):P:=h
theorem J109 (P:Prop) (h:P:=by
 clear HR hm1 hm2;go_enter Tryz.func57,Tryz.ntmps57
 go_wp2_with fail
 go_ret
 exact ⟨by first | rfl | (simp;done) | (simp;omega),yC _ _⟩):P:=h
theorem zGs (x y:Nat) (w:World) (F:Nat -> Prop) (xa ya:Option Addr) (xc yc:Nat) (hx:zAW w F 1000000000 x xa) (hy:zAW w F 1000000000 y ya) (lx:(dig 1000000000 x).length <= 100000000000) (ly:(dig 1000000000 y).length <= 100000000000) :
 Calls Tryz.prog 68 #[.slice xa (dig 1000000000 x).length xc, .slice ya (dig 1000000000 y).length yc] w fun e w'=>e=.returned (.bool (decide (y < x))) /\ w=w':=by
 have HX:=yB hx;have HY:=yB hy;obtain ⟨p,hp⟩:=eX ((dig 1000000000 x).length);obtain ⟨q,hq⟩:=eX ((dig 1000000000 y).length);have HPQ:Hid (p=(dig 1000000000 x).length /\ q=(dig 1000000000 y).length):=⟨hp,hq⟩;obtain ⟨L,hL⟩:=eX (max p q);have hmx:max (p:Int) (q:Int)=(L:Int):=by omega
 have H0:Hid (x / 1000000000 ^ L=y / 1000000000 ^ L):=by
  show _=_
  have h1:x < 1000000000 ^ L:=uO fun e=>by have:=(zl (by decide) L x).2 e;omega
  have h2:y < 1000000000 ^ L:=uO fun e=>by have:=(zl (by decide) L y).2 e;omega
  rw [yi h1,yi h2]
 obtain ⟨r,hr⟩:=eX (decide (y < x));have HR:=yB hr;rw [<- hr];rw [<- hp] at lx ⊢;rw [<- hq] at ly ⊢;have hL9:L <= 100000000000:=by omega
 clear hx hy hp hq hL hr;go_enter Tryz.func68,Tryz.ntmps68
 go_wp2_with fail
 go_loopw [5] (fun iv wr=>∃ (j:Nat) (z:Int),j <= L /\ iv=.int .i64 z /\ z=(j:Int) - 1 /\ wr=w /\ Hid (x / 1000000000 ^ j=y / 1000000000 ^ j)) (fun iv _=>(intOf iv+1).toNat)
 case atStart=>exact ⟨L,_,yV _,rfl,rfl,rfl,H0⟩
 case round =>
  obtain ⟨j,z,hj,rfl,hz,rfl,HE⟩:=hrel;cases j with
  | zero =>
    obtain rfl:z=-1:=by omega
    clear hz
    obtain rfl:r=false:=by
     have h:=HE.out;rw [Nat.pow_zero,Nat.div_one,Nat.div_one] at h;rw [HR.out,h];simp
    clear HR;go_wp2_with fail
    go_ret
    exact ⟨rfl,rfl⟩
  | succ m =>
    obtain rfl:z=(m:Int):=by omega
    clear hz;have i0:(0:Int) <= m:=by omega
    have HDG:Hid (∀ W s z,(s=.slice xa p xc /\ z=x / 1000000000 ^ m % 1000000000 \/ s=.slice ya q yc /\ z=y / 1000000000 ^ m % 1000000000) -> W=wr -> Calls Tryz.prog 98 #[s, .int .i64 m] W fun e w'=>e=.returned (.int .i64 (z:Nat)) /\ W=w'):=fun W s z h hW=>by
     subst hW;rcases h with ⟨rfl,rfl⟩ | ⟨rfl,rfl⟩
     ·rw [HPQ.out.1];exact zDE 1000000000 (by decide) x m _ F xa xc HX.out
     ·rw [HPQ.out.2];exact zDE 1000000000 (by decide) y m _ F ya yc HY.out
    have hc1:=zD2 (b:=1000000000) (by decide) HE.out;have hc2:=zD2 (b:=1000000000) (by decide) HE.out.symm;generalize x / 1000000000 ^ m % 1000000000=d1 at HDG hc1 hc2;generalize y / 1000000000 ^ m % 1000000000=d2 at HDG hc1 hc2;rcases Nat.lt_trichotomy d1 d2 with h | h | h
    ·have hb:((d1:Int) != (d2:Int))=true:=by rw [uE];omega
     have hn:¬ (d1:Int)=d2:=by omega
     have hl:¬ (d2:Int) < d1:=by omega
     have h1:=hc1.2 h;obtain rfl:r=false:=by rw [HR.out];simp;omega
     exact J72 _
    ·subst h
     have hb:((d1:Int) != (d1:Int))=false:=by simp
     have HN:Hid (x / 1000000000 ^ m=y / 1000000000 ^ m):=hc1.1 rfl;clear hc1 hc2;go_wp2_with (go_at_call 98;refine (HDG.out _ _ _ (by first | exact .inl ⟨rfl,rfl⟩ | exact .inr ⟨rfl,rfl⟩) rfl).mono ?_;rintro e w2 ⟨rfl,rfl⟩)
     go_roundw
     case rel=>exact ⟨m,_,by omega,rfl,by omega,by first | rfl | trivial,HN⟩
     case measure=>(try simp [intOf]) <;> (try omega)
    ·have hb:((d1:Int) != (d2:Int))=true:=by rw [uE];omega
     have hn:¬ (d1:Int)=d2:=by omega
     have hl:(d2:Int) < d1:=by omega
     have h1:=hc2.2 h;obtain rfl:r=true:=by rw [HR.out];simp;omega
     exact J72 _
theorem zHt (x y:Nat) (w:World) (F:Nat -> Prop) (xa ya:Option Addr) (xc yc:Nat) (hx:zAW w F 1000000000 x xa) (hy:zAW w F 1000000000 y ya) (lx:(dig 1000000000 x).length <= 100000000000) (ly:(dig 1000000000 y).length <= 100000000000) :
 Calls Tryz.prog 116 #[.slice xa (dig 1000000000 x).length xc, .slice ya (dig 1000000000 y).length yc] w fun e w'=>(∃ ad cap,e=.returned (.slice ad (dig 1000000000 (max x y)).length cap) /\ zAW w' F 1000000000 (max x y) ad) /\ w=w':=by
 have HA:Hid (∀ W,W=w -> Calls Tryz.prog 68 #[.slice ya (dig 1000000000 y).length yc, .slice xa (dig 1000000000 x).length xc] W fun e w'=>e=.returned (.bool (decide (x < y))) /\ W=w'):=fun W e=>by rw [e];exact zGs y x w F ya xa yc xc hy hx ly lx
 have HX:=yB hx;have HY:=yB hy;by_cases h:x < y
 ·have e:max x y=y:=by omega
  rw [e];rw [uB h] at HA;generalize (dig 1000000000 x).length=p at HA ⊢;obtain ⟨q,hq⟩:=eX ((dig 1000000000 y).length);rw [<- hq] at HA ⊢;clear hx hy lx ly hq;go_enter Tryz.func116,Tryz.ntmps116
  go_wp2_with (go_at_call 68;refine (HA.out _ rfl).mono ?_;rintro e w2 ⟨rfl,rfl⟩)
  go_ret
  exact ⟨⟨_,_,rfl,HY.out⟩,rfl⟩
 ·have e:max x y=x:=by omega
  rw [e];rw [xK h] at HA;generalize (dig 1000000000 y).length=q at HA ⊢;obtain ⟨p,hp⟩:=eX ((dig 1000000000 x).length);rw [<- hp] at HA ⊢;clear hx hy lx ly hp;go_enter Tryz.func116,Tryz.ntmps116
  go_wp2_with (go_at_call 68;refine (HA.out _ rfl).mono ?_;rintro e w2 ⟨rfl,rfl⟩)
  go_ret
  exact ⟨⟨_,_,rfl,HX.out⟩,rfl⟩
theorem zIN {b x y:Nat} (hb:2 <= b) (h:x <= y):(dig b x).length <= (dig b y).length:=by
 rcases xR (dig b y).length (dig b x).length with h1 | h1
 ·have h2:=(zl hb _ x).1 h1
  have h3:=(zl hb _ y).2 (yX h2 h);omega
 ·exact h1
theorem zIk (x y:Nat) (w:World) (F:Nat -> Prop) (xa ya:Option Addr) (xc yc:Nat) (hx:zAW w F 10 x xa) (hy:zAW w F 10 y ya) (lx:(dig 10 x).length <= 100000000000) (ly:(dig 10 y).length <= 100000000000) :
 Calls Tryz.prog 57 #[.slice xa (dig 10 x).length xc, .slice ya (dig 10 y).length yc] w fun e w'=>e=.returned (.bool (decide (x < y))) /\ Keeps zA w w':=by
 have HX:=yB hx;have HY:=yB hy;obtain ⟨p,hp⟩:=eX ((dig 10 x).length);obtain ⟨q,hq⟩:=eX ((dig 10 y).length);have HPQ:Hid (p=(dig 10 x).length /\ q=(dig 10 y).length):=⟨hp,hq⟩
 have H0:Hid (p=q -> x / 10 ^ p=y / 10 ^ p):=fun e=>by
  have h1:x < 10 ^ p:=uO fun e=>by exact J259 _
  have h2:y < 10 ^ p:=uO fun e=>by have:=(zl (by decide) p y).2 e;omega
  rw [yi h1,yi h2]
 have hm1:=zIN (b:=10) (x:=x) (y:=y) (by decide);have hm2:=zIN (b:=10) (x:=y) (y:=x) (by decide);rw [<- hp,<- hq] at hm1 hm2;obtain ⟨r,hr⟩:=eX (decide (x < y));have HR:=yB hr;rw [<- hr];rw [<- hp] at lx ⊢;rw [<- hq] at ly ⊢;clear hx hy hp hq hr;rcases Nat.lt_trichotomy p q with h | h | h
 ·have hb:((p:Int) != (q:Int))=true:=by rw [uE];omega
  have hl:(p:Int) < q:=by omega
  obtain rfl:r=true:=by rw [HR.out];simp;omega
  exact J109 _
 ·subst h
  have hb:((p:Int) != (p:Int))=false:=by simp
  have HE0:=yB (H0.out rfl);clear hm1 hm2 H0;go_enter Tryz.func57,Tryz.ntmps57
  go_wp2_with fail
  go_loopw [5] (fun iv wr=>∃ (j:Nat) (z:Int),j <= p /\ iv=.int .i64 z /\ z=(j:Int) - 1 /\ Hid (Keeps zA w wr) /\ Hid (x / 10 ^ j=y / 10 ^ j)) (fun iv _=>(intOf iv+1).toNat)
  case atStart=>exact ⟨p,_,yV _,rfl,rfl,yC _ _,HE0⟩
  case round =>
   obtain ⟨j,z,hj,rfl,hz,HK,HE⟩:=hrel;cases j with
   | zero =>
     obtain rfl:z=-1:=by omega
     clear hz
     obtain rfl:r=false:=by
      have h:=HE.out;rw [Nat.pow_zero,Nat.div_one,Nat.div_one] at h;rw [HR.out,h];simp
     clear HR;go_wp2_with fail
     go_ret
     exact ⟨rfl,HK.out⟩
   | succ m =>
     obtain rfl:z=(m:Int):=by omega
     clear hz;have i0:(0:Int) <= m:=by omega
     have i1:(m:Int) < p:=by omega
     obtain ⟨g,o,e1,hg,c1⟩:=(HX.out.keeps HK.out (fun _ _ h=>h)) m (by have:=HPQ.out.1;omega);obtain ⟨g2,o2,e2,hg2,c2⟩:=(HY.out.keeps HK.out (fun _ _ h=>h)) m (by have:=HPQ.out.2;omega);have hc1:=zD2 (b:=10) (by decide) HE.out;have hc2:=zD2 (b:=10) (by decide) HE.out.symm;generalize x / 10 ^ m % 10=d1 at c1 hc1 hc2;generalize y / 10 ^ m % 10=d2 at c2 hc1 hc2;have HKK:=HK;subst e1 e2;clear hg hg2;rcases Nat.lt_trichotomy d1 d2 with h | h | h
     ·have hb:((d1:Int) != (d2:Int))=true:=by rw [uE];omega
      have hn:¬ (d1:Int)=d2:=by omega
      have hl:(d1:Int) < d2:=by omega
      have h1:=hc1.2 h;obtain rfl:r=true:=by rw [HR.out];simp;omega
      exact J73 _
     ·subst h
      have hb:((d1:Int) != (d1:Int))=false:=by simp
      have HN:Hid (x / 10 ^ m=y / 10 ^ m):=hc1.1 rfl;clear hc1 hc2;go_wp2_with fail
      go_quiet (fail)
      go_wp2_with fail
      go_roundw
      case rel=>exact ⟨m,_,by omega,rfl,by omega,HK.out.drewN _,HN⟩
      case measure=>(try simp [intOf]) <;> (try omega)
     ·have hb:((d1:Int) != (d2:Int))=true:=by rw [uE];omega
      have hn:¬ (d1:Int)=d2:=by omega
      have hl:¬ (d1:Int) < d2:=by omega
      have h1:=hc2.2 h;obtain rfl:r=false:=by rw [HR.out];simp;omega
      exact J73 _
 ·have hb:((p:Int) != (q:Int))=true:=by rw [uE];omega
  have hl:¬ (p:Int) < q:=by omega
  obtain rfl:r=false:=by rw [HR.out];simp;omega
  exact J109 _
theorem zHb (x y:Nat) (w:World) (F:Nat -> Prop) (xa ya:Option Addr) (xc yc:Nat) (hx:zAW w F 10 x xa) (hy:zAW w F 10 y ya) (lx:(dig 10 x).length <= 100000000000) (ly:(dig 10 y).length <= 100000000000) :
 Calls Tryz.prog 106 #[.slice xa (dig 10 x).length xc, .slice ya (dig 10 y).length yc] w fun e w'=>∃ ad cap,e=.returned (.slice ad (dig 10 (max x y)).length cap) /\ zAW w' F 10 (max x y) ad /\ Keeps zA w w':=by
 have HA:Hid (∀ W,W=w -> Calls Tryz.prog 57 #[.slice xa (dig 10 x).length xc, .slice ya (dig 10 y).length yc] W fun e w'=>e=.returned (.bool (decide (x < y))) /\ Keeps zA W w'):=fun W e=>by rw [e];exact zIk x y w F xa ya xc yc hx hy lx ly
 have HX:=yB hx;have HY:=yB hy;obtain ⟨p,hp⟩:=eX ((dig 10 x).length);obtain ⟨q,hq⟩:=eX ((dig 10 y).length);by_cases h:x < y
 ·have e:max x y=y:=by omega
  rw [e];rw [uB h] at HA;rw [<- hp,<- hq] at HA ⊢;clear hx hy lx ly hq hp;go_enter Tryz.func106,Tryz.ntmps106
  go_wp2_with (go_at_call 57;refine (HA.out _ rfl).mono ?_;rintro e w2 ⟨rfl,g2⟩;have G2:=yB g2;clear g2)
  go_ret
  first
   | exact ⟨_,_,rfl,HY.out.keeps G2.out (fun _ _ h=>h),G2.out⟩
   | exact ⟨_,⟨_,rfl⟩,HY.out.keeps G2.out (fun _ _ h=>h),G2.out⟩
   | exact ⟨HY.out.keeps G2.out (fun _ _ h=>h),G2.out⟩
 ·have e:max x y=x:=by omega
  rw [e];rw [xK h] at HA;rw [<- hp,<- hq] at HA ⊢;clear hx hy lx ly hp hq;go_enter Tryz.func106,Tryz.ntmps106
  go_wp2_with (go_at_call 57;refine (HA.out _ rfl).mono ?_;rintro e w2 ⟨rfl,g2⟩;have G2:=yB g2;clear g2)
  go_ret
  first
   | exact ⟨_,_,rfl,HX.out.keeps G2.out (fun _ _ h=>h),G2.out⟩
   | exact ⟨_,⟨_,rfl⟩,HX.out.keeps G2.out (fun _ _ h=>h),G2.out⟩
   | exact ⟨HX.out.keeps G2.out (fun _ _ h=>h),G2.out⟩
def unS:List Bd -> Nat
 | []=>0
 | b :: r=>(Ac.zk b.acts+1)+unS r
def unW:List Bd -> Nat
 | []=>0
 | b :: r=>(Ac.zY b.acts+1)+unW r
theorem zGC:(bs:List Bd) -> unS bs <= unW bs
 | []=>yV _
 | b :: r=>by
   have h1:=vM b.acts;have h2:=zGC r;simp only [unS,unW];omega
theorem zES:(a b:List Bd) -> unS (a++b)=unS a+unS b
 | [],b=>by simp [unS]
 | x :: r,b=>by have:=zES r b;simp only [List.cons_append,unS,this];omega
theorem zEI:(a b:List Bd) -> unW (a++b)=unW a+unW b
 | [],b=>by simp [unW]
 | x :: r,b=>by have:=zEI r b;simp only [List.cons_append,unW,this];omega
theorem zEq {l:List Bd} {i:Nat} (hi:i < l.length):unS (l.take (i+1))=unS (l.take i)+(Ac.zk l[i].acts+1):=by
 rw [take_at hi,zES];simp [unS]
theorem zEb {l:List Bd} {i:Nat} (hi:i < l.length):unW (l.take (i+1))=unW (l.take i)+(Ac.zY l[i].acts+1):=by
 rw [take_at hi,zEI];simp [unW]
theorem zH6 (l:List Bd) (i:Nat):unS (l.take i) <= unS l:=by
 have h:=zES (l.take i) (l.drop i);rw [List.take_append_drop] at h;omega
theorem zIR (l:List Bd) (i:Nat):unW (l.take i) <= unW l:=by
 have h:=zEI (l.take i) (l.drop i);rw [List.take_append_drop] at h;omega
def zKm (bs:List Bd):Prop:=∀ b,b ∈ bs -> Ac.zD5 b.acts
theorem zDO {u:Un} (h:zX u=true):zKm u.threads:=by
 intro b hb
 have h1:Ac.zAM u b.regs b.acts=true:=by
  rcases hq:Ac.zAM u b.regs b.acts
  ·rw [zGp hb hq] at h;cases h
  ·rfl
 exact Ac.zEf u b.regs b.acts h1
theorem zJG:(bs:List Bd) -> zKm bs -> unW bs+1 <= 2 ^ (11*zAy bs)
 | [],_=>by simp [unW,zAy]
 | b :: r,h=>by
   have h1:=Ac.zEo b.acts (h b uR);have h2:=zJG r (fun x hx=>h x (uS _ hx));have e0:zAy (b :: r)=1+Ac.szL b.acts+zAy r:=rfl;have e:11*zAy (b :: r)=(11+11*Ac.szL b.acts)+11*zAy r:=by rw [e0];omega
   rw [e,Nat.pow_add,Nat.pow_add];simp only [unW];generalize 2 ^ (11*Ac.szL b.acts)=A at h1 ⊢;generalize 2 ^ (11*zAy r)=B at h2 ⊢
   have h3:A+B <= A*B+1:=by
    have ha:1 <= A:=by omega
    have hb:1 <= B:=by omega
    obtain ⟨a,rfl⟩:∃ a,A=a+1:=⟨A - 1,by omega⟩
    obtain ⟨b,rfl⟩:∃ b,B=b+1:=⟨B - 1,by omega⟩
    rw [uY,Nat.mul_add];omega
   have h4:2 ^ 11*A*B=2048*(A*B):=by rw [Nat.mul_assoc]
   have h5:A <= A*B:=vS A (by omega);rw [h4];omega
theorem zHf {b:Nat} (hb:2 <= b) {bs:List Bd} (h:zKm bs) (hs:zAy bs < 900000000) (hl:bs.length < 1000000000) {m:Nat} (hm:m <= unW bs+1):(dig b m).length <= 12000000000:=by
 exact J57 _
theorem zLP {b:Nat} (hb:2 <= b) {bs:List Bd} (h:zKm bs) (hs:zAy bs < 900000000) (hl:bs.length <= 8) {m:Nat} (hm:m <= unW bs+1):(dig b m).length <= 9900000010:=by
 exact J57 _
theorem plusV {x y:Nat} {w:World} {F:Nat -> Prop} {v u:Value} (hx:zQ w F 1000000000 x v) (hy:zQ w F 1000000000 y u) (lx:(dig 1000000000 x).length <= 100000000000) (ly:(dig 1000000000 y).length <= 100000000000) :
 Calls Tryz.prog 117 #[v,u] w fun e w'=>∃ z,e=.returned z /\ zQ w' (Since w.heap.size w') 1000000000 (x+y) z /\ Keeps zA w w':=by
 obtain ⟨xa,xc,rfl,h1⟩:=hx;obtain ⟨ya,yc,rfl,h2⟩:=hy;exact (zMB x y w F xa ya xc yc h1 h2 lx ly).mono fun e w' h=>h.v
theorem zMe {x k:Nat} {w:World} {F:Nat -> Prop} {v:Value} (hx:zQ w F 1000000000 x v) (lx:(dig 1000000000 x).length <= 100000000000) (hk:k <= 1000) :
 Calls Tryz.prog 118 #[v, .int .i64 k] w fun e w'=>∃ z,e=.returned z /\ zQ w' (Since w.heap.size w') 1000000000 (x*k) z /\ Keeps zA w w':=by
 obtain ⟨xa,xc,rfl,h1⟩:=hx;exact (zKC x k w F xa xc h1 lx hk).mono fun e w' h=>h.v
theorem zHs {x y:Nat} {w:World} {F:Nat -> Prop} {v u:Value} (hx:zQ w F 1000000000 x v) (hy:zQ w F 1000000000 y u) (lx:(dig 1000000000 x).length <= 100000000000) (ly:(dig 1000000000 y).length <= 100000000000) :
 Calls Tryz.prog 116 #[v,u] w fun e w'=>∃ z,e=.returned z /\ zQ w' F 1000000000 (max x y) z /\ Keeps zA w w':=by
 obtain ⟨xa,xc,rfl,h1⟩:=hx;obtain ⟨ya,yc,rfl,h2⟩:=hy
 exact (zHt x y w F xa ya xc yc h1 h2 lx ly).mono fun e w' h=>by
  obtain ⟨⟨ad,cap,he,h3⟩,rfl⟩:=h;exact ⟨_,he,⟨ad,cap,rfl,h3⟩,yC _ _⟩
theorem zFO (n:Nat) (hn:n < 9000000000000000000) (w:World):Calls Tryz.prog 69 #[.int .i64 n] w fun e w'=>∃ z,e=.returned z /\ zQ w' (Since w.heap.size w') 1000000000 n z /\ Keeps zA w w' :=
 (zKr n hn w).mono fun e w' h=>h.v
theorem zK5 {x y:Nat} {w:World} {F:Nat -> Prop} {v u:Value} (hx:zQ w F 1000000000 x v) (hy:zQ w F 1000000000 y u) (lx:(dig 1000000000 x).length <= 100000000000) (ly:(dig 1000000000 y).length <= 100000000000) :
 Calls Tryz.prog 68 #[v,u] w fun e w'=>e=.returned (.bool (decide (y < x))) /\ w=w':=by
 obtain ⟨xa,xc,rfl,h1⟩:=hx;obtain ⟨ya,yc,rfl,h2⟩:=hy;exact zGs x y w F xa ya xc yc h1 h2 lx ly
end Go.Proofs.YtfokdllgnblamaaGreatDoor
namespace Go.Proofs.YtfokdllgnblamaaGreatDoor
theorem zKI {u:Un} {m:zm} {i j:Nat} (hij:i ≠ j) (a:Ac):(doM u m i a).1.get j=m.get j \/ (a.kind=7 /\ a.obj.toNat=j /\ (doM u m i a).2.2=0 /\ (m.get j).st=1 /\ (doM u m i a).1.get j=zHU (u.body j)) \/ m.zM.length <= j:=by
 have hs:∀ (c:List Int) (o:List Int) (t:WTh),(zm.zAT ⟨c,o,m.zM⟩ i t).get j=m.get j:=fun c o t=>zm.zEg _ _ hij
 unfold doM;simp only
 split
 ·exact .inl (hs _ _ _)
 ·split
  ·exact .inl rfl
  ·split
   ·exact .inl (hs _ _ _)
   ·split
    ·exact .inl rfl
    ·split
     ·split <;> exact .inl rfl
     ·split
      ·rename_i h7
       split
       ·rename_i q
        by_cases e:a.obj.toNat=j
        ·rw [e] at q ⊢
         by_cases hj:j < m.zM.length
         ·exact .inr (.inl ⟨h7,rfl,rfl,q,zm.zDm _ _ _ hj⟩)
         ·exact .inr (.inr (by omega))
        ·exact .inl (zm.zEg _ _ e)
       ·exact .inl rfl
      ·split
       ·split <;> exact .inl rfl
       ·exact .inl rfl
theorem zm.ok.run {u:Un} {m:zm} (h:m.ok u) {i:Int} (h0:zBh m i=0):0 <= i /\ i.toNat < m.zM.length /\ (m.get i.toNat).st=2:=by
 obtain ⟨h1,h2,h3,h4,h5,_⟩:=zE1 h0;have hi:i.toNat < m.zM.length:=by omega
 obtain ⟨b,_,hok,_⟩:=h.th hi;exact ⟨h1,hi,by exact J244 _⟩
def zm.idle (m:zm):Prop:=∀ j,j < m.zM.length -> (m.get j).st=1 -> (m.get j).regs=[] /\ (m.get j).fs=[]
theorem zKM {u:Un} (hr:zX u=true):(zCY u).idle:=by
 intro j hj h1
 have hb:=(zJj hr).zM;by_cases h0:j=0
 ·subst h0
  have h8:0 < u.threads.length:=by have:=(zAq hr).1;omega
  have e:(zCY u).get 0=zHU (u.body 0):=by unfold zCY zEP;exact zm.zDm _ _ _ (by simpa using h8)
  rw [e] at h1;unfold zHU at h1;cases h1
 ·have e:(zCY u).get j=(⟨1,[],[]⟩:WTh):=by
   unfold zCY zEP;rw [zm.zEg _ _ (fun h=>h0 h.symm)];have hj':j < u.threads.length:=by rw [<- hb];exact hj
   simp [zm.get,List.getD,hj']
  rw [e];exact ⟨rfl,rfl⟩
theorem zJT {u:Un} (hr:zX u=true) {m:zm} (h:m.ok u) (hi:m.idle) (i:Int):(stepM u m i).1.idle:=by
 unfold stepM;by_cases h0:zBh m i=0
 ·rw [if_pos h0]
  obtain ⟨_,hl,h2⟩:=h.run h0;generalize i.toNat=k at hl h2;have hlen:=(zH7 hr h hl h2).2;intro j hj h1
  rw [hlen] at hj;show ((zAs u m k).1.get j).regs=[] /\ ((zAs u m k).1.get j).fs=[]
  replace h1:((zAs u m k).1.get j).st=1:=h1
  have key:∀ (m1:zm) (t:WTh),m1.zM.length=m.zM.length -> t.st ≠ 1 -> (∀ q,q ≠ k -> q < m.zM.length -> (m1.get q).st=1 -> (m1.get q).regs=[] /\ (m1.get q).fs=[]) -> ((m1.zAT k t).get j).st=1 -> ((m1.zAT k t).get j).regs=[] /\ ((m1.zAT k t).get j).fs=[]:=by
   intro m1 t hl1 ht ho h1
   by_cases e:j=k
   ·subst e
    rw [zm.zDm _ _ _ (by rw [hl1];exact hl)] at h1;exact absurd h1 ht
   ·rw [zm.zEg _ _ (fun h=>e h.symm)] at h1 ⊢
    exact ho j e hj h1
  revert h1
  unfold zAs;cases hn:(m.get k).next with
  | none =>
    simp only
    exact key m _ rfl (by show (3:Int) ≠ 1;decide) (fun q _ hq=>hi q hq)
  | some a =>
    simp only
    have hd:=(zG6 hr h hl a).2;have hs:=(zEy (u:=u) hl h2 a).1
    have ho:∀ q,q ≠ k -> q < m.zM.length -> ((doM u m k a).1.get q).st=1 -> ((doM u m k a).1.get q).regs=[] /\ ((doM u m k a).1.get q).fs=[]:=fun q hq hlq hq1=>by
     rcases zKI (u:=u) (m:=m) (fun e=>hq e.symm) a with e | ⟨_,_,_,_,e⟩ | e
     ·rw [e] at hq1 ⊢;exact hi q hlq hq1
     ·rw [e] at hq1;unfold zHU at hq1;cases hq1
     ·omega
    split
    ·exact key _ _ hd (by show (4:Int) ≠ 1;decide) ho
    ·refine key _ _ hd ?_ ho
     have e:((doM u m k a).1.get k).on.local.st=2:=by
      unfold WTh.local WTh.on;split <;> exact hs
     rw [e];decide
 ·rw [if_neg h0];exact hi
end Go.Proofs.YtfokdllgnblamaaGreatDoor
