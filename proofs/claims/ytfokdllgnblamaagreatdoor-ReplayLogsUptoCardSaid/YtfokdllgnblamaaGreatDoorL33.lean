/- Layer L: texts joined. -/
import Derived.Test.YtfokdllgnblamaaGreatDoorL32
import Derived.Test.YtfokdllgnblamaaGreatDoorL31
set_option linter.all false
set_option maxHeartbeats 4000000
set_option maxRecDepth 8000
namespace Go.Proofs.YtfokdllgnblamaaGreatDoor
open Go.RowKit
abbrev vD:=@ze.zBM
abbrev uS:=@ze.zA7
abbrev uC:=@not_true_eq_false
theorem J44 (P:Prop) (h:P:=by
 have h1:=zIT bs h
 have h2:m < b ^ (11*zAi bs+1):=by
  have h3:=zE0 (n:=11*zAi bs) hb;have h4:0 < b ^ (11*zAi bs):=vT (by omega);have h5:2*b ^ (11*zAi bs) <= b*b ^ (11*zAi bs):=vM _ hb;rw [uL,Nat.mul_comm];omega
 have:=zC4 hb h2
 omega):P:=h
theorem J93 (P:Prop) (h:P:=by
 rw [vD _ _ e];rcases hd with hd | ⟨_,_,_,h1,hd⟩ | hd
 ·rw [hd];exact yV _
 ·exact hbeg _ hd h1
 ·omega):P:=h
def unS:List Bd -> Nat
 | []=>0
 | b :: r=>(Ac.zX b.acts+1)+unS r
def unW:List Bd -> Nat
 | []=>0
 | b :: r=>(Ac.zU b.acts+1)+unW r
theorem zEj:(bs:List Bd) -> unS bs <= unW bs
 | []=>yV _
 | b :: r=>by
   have h1:=Ac.zBP b.acts;have h2:=zEj r;simp only [unS,unW];omega
theorem zD1:(a b:List Bd) -> unS (a++b)=unS a+unS b
 | [],b=>by simp [unS]
 | x :: r,b=>by have:=zD1 r b;simp only [vU,unS,this];omega
theorem zD2:(a b:List Bd) -> unW (a++b)=unW a+unW b
 | [],b=>by simp [unW]
 | x :: r,b=>by have:=zD2 r b;simp only [vU,unW,this];omega
theorem zDR {l:List Bd} {i:Nat} (hi:i < l.length):unS (l.take (i+1))=unS (l.take i)+(Ac.zX l[i].acts+1):=by
 rw [take_at hi,zD1];simp [unS]
theorem zEK {l:List Bd} {i:Nat} (hi:i < l.length):unW (l.take (i+1))=unW (l.take i)+(Ac.zU l[i].acts+1):=by
 rw [take_at hi,zD2];simp [unW]
theorem zHp (l:List Bd) (i:Nat):unS (l.take i) <= unS l:=by
 have h:=zD1 (l.take i) (l.drop i);rw [List.take_append_drop] at h;omega
theorem zHk (l:List Bd) (i:Nat):unW (l.take i) <= unW l:=by
 have h:=zD2 (l.take i) (l.drop i);rw [List.take_append_drop] at h;omega
def zJx (bs:List Bd):Prop:=∀ b,b ∈ bs -> Ac.zDq b.acts
theorem zBy {u:Un} (h:zV u=true):zJx u.threads:=by
 intro b hb
 have h1:Ac.zAC u b.regs b.acts=true:=by
  rcases hq:Ac.zAC u b.regs b.acts
  ·rw [zGO hb hq] at h;cases h
  ·rfl
 exact Ac.zEa u b.regs b.acts h1
theorem zIT:(bs:List Bd) -> zJx bs -> unW bs+1 <= 2 ^ (11*zAi bs)
 | [],_=>by simp [unW,zAi]
 | b :: r,h=>by
   have h1:=Ac.zEU b.acts (h b vW);have h2:=zIT r (fun x hx=>h x (vJ _ hx));have e0:zAi (b :: r)=1+Ac.szL b.acts+zAi r:=rfl;have e:11*zAi (b :: r)=(11+11*Ac.szL b.acts)+11*zAi r:=by rw [e0];omega
   rw [e,Nat.pow_add,Nat.pow_add];simp only [unW];generalize 2 ^ (11*Ac.szL b.acts)=A at h1 ⊢;generalize 2 ^ (11*zAi r)=B at h2 ⊢
   have h3:A+B <= A*B+1:=by
    have ha:1 <= A:=by omega
    have hb:1 <= B:=by omega
    obtain ⟨a,rfl⟩:∃ a,A=a+1:=⟨A - 1,by omega⟩
    obtain ⟨b,rfl⟩:∃ b,B=b+1:=⟨B - 1,by omega⟩
    rw [vH,kR];omega
   have h4:2 ^ 11*A*B=2048*(A*B):=by rw [Nat.mul_assoc]
   have h5:A <= A*B:=vQ A (by omega);rw [h4];omega
theorem zFR {b:Nat} (hb:2 <= b) {bs:List Bd} (h:zJx bs) (hs:zAi bs < 900000000) (hl:bs.length < 1000000000) {m:Nat} (hm:m <= unW bs+1):(zn b m).length <= 12000000000:=by
 exact J44 _
theorem zML {b:Nat} (hb:2 <= b) {bs:List Bd} (h:zJx bs) (hs:zAi bs < 900000000) (hl:bs.length <= 8) {m:Nat} (hm:m <= unW bs+1):(zn b m).length <= 9900000010:=by
 exact J44 _
theorem zN.lt {w:World} {F:Nat -> Prop} {b n:Nat} {v:Value} (h:zN w F b n v):zN w (fun k=>k < w.heap.size) b n v:=by
 obtain ⟨ad,cap,e,h1⟩:=h;refine ⟨ad,cap,e,fun i hi=>?_⟩
 obtain ⟨g,o,e1,hg,hc⟩:=h1 i hi;exact ⟨g,o,e1,xP w ⟨g,_,none⟩ hc,hc⟩
theorem plusV {x y:Nat} {w:World} {F:Nat -> Prop} {v u:Value} (hx:zN w F 1000000000 x v) (hy:zN w F 1000000000 y u) (lx:(zn 1000000000 x).length <= 100000000000) (ly:(zn 1000000000 y).length <= 100000000000) :
 Calls Tryz.prog 117 #[v,u] w fun e w'=>∃ z,e=.returned z /\ zN w' (Since w.heap.size w') 1000000000 (x+y) z /\ Keeps zA w w':=by
 obtain ⟨xa,xc,rfl,h1⟩:=hx;obtain ⟨ya,yc,rfl,h2⟩:=hy;exact (zLw x y w F xa ya xc yc h1 h2 lx ly).mono fun e w' h=>h.v
theorem zLp {x k:Nat} {w:World} {F:Nat -> Prop} {v:Value} (hx:zN w F 1000000000 x v) (lx:(zn 1000000000 x).length <= 100000000000) (hk:k <= 1000) :
 Calls Tryz.prog 118 #[v, .int .i64 k] w fun e w'=>∃ z,e=.returned z /\ zN w' (Since w.heap.size w') 1000000000 (x*k) z /\ Keeps zA w w':=by
 obtain ⟨xa,xc,rfl,h1⟩:=hx;exact (zKI x k w F xa xc h1 lx hk).mono fun e w' h=>h.v
theorem zHQ {x y:Nat} {w:World} {F:Nat -> Prop} {v u:Value} (hx:zN w F 1000000000 x v) (hy:zN w F 1000000000 y u) (lx:(zn 1000000000 x).length <= 100000000000) (ly:(zn 1000000000 y).length <= 100000000000) :
 Calls Tryz.prog 116 #[v,u] w fun e w'=>∃ z,e=.returned z /\ zN w' F 1000000000 (max x y) z /\ Keeps zA w w':=by
 obtain ⟨xa,xc,rfl,h1⟩:=hx;obtain ⟨ya,yc,rfl,h2⟩:=hy
 exact (zHm x y w F xa ya xc yc h1 h2 lx ly).mono fun e w' h=>by
  obtain ⟨⟨ad,cap,he,h3⟩,rfl⟩:=h;exact ⟨_,he,⟨ad,cap,rfl,h3⟩,yB _ _⟩
theorem zEh (n:Nat) (hn:n < 9000000000000000000) (w:World):Calls Tryz.prog 69 #[.int .i64 n] w fun e w'=>∃ z,e=.returned z /\ zN w' (Since w.heap.size w') 1000000000 n z /\ Keeps zA w w' :=
 (zKO n hn w).mono fun e w' h=>h.v
theorem zKu {x y:Nat} {w:World} {F:Nat -> Prop} {v u:Value} (hx:zN w F 1000000000 x v) (hy:zN w F 1000000000 y u) (lx:(zn 1000000000 x).length <= 100000000000) (ly:(zn 1000000000 y).length <= 100000000000) :
 Calls Tryz.prog 68 #[v,u] w fun e w'=>e=.returned (.bool (decide (y < x))) /\ w=w':=by
 obtain ⟨xa,xc,rfl,h1⟩:=hx;obtain ⟨ya,yc,rfl,h2⟩:=hy;exact zGL x y w F xa ya xc yc h1 h2 lx ly
end Go.Proofs.YtfokdllgnblamaaGreatDoor
namespace Go.Proofs.YtfokdllgnblamaaGreatDoor
def zx.pot (f:zx):Nat:=Ac.zX f.rest+Ac.zX f.all*(f.left - 1)
def zBR:List zx -> Nat
 | []=>0
 | f :: r=>f.pot+zBR r
theorem zAT:(a b:List zx) -> zBR (a++b)=zBR a+zBR b
 | [],b=>by simp [zBR]
 | x :: r,b=>by have:=zAT r b;simp only [vU,zBR,this];omega
theorem zLm {regs regs':List Int} {fs fs':List zx} (h:zA3 regs fs=some (regs',fs')):zBR fs' <= zBR fs:=by
 unfold zA3 at h;cases hl:fs.getLast? with
 | none=>rw [hl] at h;cases h
 | some f =>
   have hs:=zAY hl
   have hm:zBR fs=zBR fs.dropLast+f.pot:=by
    have:=kK zBR hs
    rw [zAT] at this;simpa [zBR] using this
   rw [hl] at h;simp only at h;cases hr:f.rest with
   | nil =>
     rw [hr] at h;simp only [yP,xW] at h;obtain ⟨_,rfl⟩:=h;split
     ·rw [zAT,hm]
      simp only [zBR,zx.pot,hr,Ac.zX];obtain ⟨q,hq⟩:∃ q,f.left - 1=q+1:=⟨f.left - 2,by omega⟩
      rw [hq,kR];simp only [Nat.add_sub_cancel,Nat.mul_one,xC,Nat.add_zero];omega
     ·omega
   | cons a r =>
     rw [hr] at h;have hf:f.pot=a.stp+Ac.zX r+Ac.zX f.all*(f.left - 1):=by simp only [zx.pot,hr,Ac.zX]
     have ha:=Ac.zE1 a;simp only at h;split at h
     ·simp only [yP,xW] at h
      obtain ⟨_,rfl⟩:=h;rw [zAT,hm,hf];simp only [zBR,zx.pot];omega
     ·rename_i h1
      rw [if_neg h1] at ha;split at h
      ·rename_i h10
       rw [if_pos h10] at ha;simp only [yP,xW] at h;obtain ⟨_,rfl⟩:=h;rw [zAT,zAT,hm,hf];simp only [zBR,zx.pot];split <;> omega
      ·rename_i h10
       split at h
       ·rename_i h11
        rw [if_neg h10,if_pos h11] at ha;simp only [yP,xW] at h;obtain ⟨_,rfl⟩:=h;split
        ·rename_i hc
         rw [zAT,zAT,hm,hf];simp only [zBR,zx.pot];obtain ⟨q,hq⟩:∃ q,a.count.toNat=q+1:=⟨a.count.toNat - 1,by omega⟩
         rw [hq] at ha ⊢;rw [kR] at ha;simp only [Nat.add_sub_cancel,Nat.mul_one] at ha ⊢;omega
        ·rw [zAT,hm,hf]
         simp only [zBR,zx.pot];omega
       ·cases h
theorem zJb (r:List Int) (fs:List zx):zBR (loc r fs).2 <= zBR fs :=
 (zJC (P:=fun _ fs'=>zBR fs' <= zBR fs) (fun _ _ _ _ h h1=>yU (zLm h1) h) (yV _)).1
def WTh.pot (b:Bd) (t:WTh):Nat:=if t.st=1 then Ac.zX b.acts+1 else if t.st=2 then zBR t.fs+1 else 0
def zFu (f:Nat -> Nat):Nat -> Nat
 | 0=>0
 | n+1=>zFu f n+f n
theorem zGh {f g:Nat -> Nat}:(n:Nat) -> (∀ i,i < n -> f i <= g i) -> zFu f n <= zFu g n
 | 0,_=>yV _
 | n+1,h=>by
   have h1:=zGh n (fun i hi=>h i (by omega));have h2:=h n (by omega);simp only [zFu];omega
theorem zJZ {f g:Nat -> Nat} {k:Nat}:(n:Nat) -> k < n -> (∀ i,i < n -> f i <= g i) -> f k < g k -> zFu f n < zFu g n
 | 0,h,_,_=>absurd h (vY _)
 | n+1,hk,h,hl=>by
   have h2:=h n (by omega);simp only [zFu];by_cases e:k=n
   ·subst e
    have h1:=zGh k (fun i hi=>h i (by omega));omega
   ·have h1:=zJZ n (by omega) (fun i hi=>h i (by omega)) hl
    omega
def zB9 (u:Un) (m:ze):Nat:=zFu (fun i=>(m.get i).pot (u.body i)) m.zL.length
theorem zJI (l:List Bd):(n:Nat) -> n <= l.length -> unS (l.take n)=zFu (fun i=>Ac.zX (l.getD i ⟨0,[]⟩).acts+1) n
 | 0,_=>by simp [unS,zFu]
 | n+1,h=>by
   rw [zDR (by omega),zJI l n (by omega)];simp only [zFu,List.getD];rw [yJ (by omega)];rfl
theorem zHI (b:Bd):(zC9 b).pot b <= Ac.zX b.acts+1:=by
 have h:=zJb (List.replicate b.regs.toNat 0) [⟨b.acts,b.acts,1⟩];unfold WTh.pot zC9 WTh.local;simp only
 simp only [zBR,zx.pot,kE,Nat.mul_zero] at h;simp
 omega
theorem zFb (u:Un):(zAU u).zL=(u.threads.map fun _=>(⟨1,[],[]⟩:WTh)).set 0 (zC9 (u.body 0)):=rfl
theorem zHS (u:Un):zB9 u (zAU u) <= unS u.threads:=by
 have h:=zJI u.threads u.threads.length (yV _);rw [xJ] at h;have hl:(zAU u).zL.length=u.threads.length:=by rw [zFb];simp
 rw [h];unfold zB9;rw [hl];refine zGh _ (fun i hi=>?_)
 have hg:((zAU u).get i).pot (u.body i) <= Ac.zX (u.body i).acts+1:=by
  by_cases e:i=0
  ·subst e
   have:(zAU u).get 0=zC9 (u.body 0):=ze.get_eq (by rw [zFb];exact yX (by simp;omega))
   rw [this];exact zHI _
  ·have:(zAU u).get i=⟨1,[],[]⟩:=ze.get_eq (by rw [zFb,uB (fun h=>e h.symm)];simp [hi])
   rw [this];simp [WTh.pot]
 exact hg
theorem zNf {t:WTh} {a:Ac} {f:zx} {r:List Ac} (h1:t.fs.getLast?=some f) (h2:f.rest=a :: r) (hk:2 <= a.kind /\ a.kind <= 9):zBR t.on.local.fs < zBR t.fs:=by
 have hs:=zAY h1
 have hm:zBR t.fs=zBR t.fs.dropLast+f.pot:=by
  have:=kK zBR hs
  rw [zAT] at this;simpa [zBR] using this
 have e:t.on.fs=t.fs.dropLast++[⟨r,f.all,f.left⟩]:=by unfold WTh.on;rw [h1];simp [h2]
 have h3:zBR t.on.local.fs <= zBR t.on.fs:=zJb _ _;have ha:=Ac.zE1 a;rw [if_neg (by omega),if_neg (by omega),if_neg (by omega)] at ha;rw [e,zAT] at h3;have hf:f.pot=a.stp+Ac.zX r+Ac.zX f.all*(f.left - 1):=by simp only [zx.pot,h2,Ac.zX]
 simp only [zBR,zx.pot] at h3;omega
theorem zGY {u:Un} {m:ze} {i j:Nat} (hij:i ≠ j) (a:Ac):(doM u m i a).1.get j=m.get j \/ (a.kind=7 /\ a.obj.toNat=j /\ (doM u m i a).2.2=0 /\ (m.get j).st=1 /\ (doM u m i a).1.get j=zC9 (u.body j)) \/ m.zL.length <= j:=by
 have hs:∀ (c:List Int) (o:List Int) (t:WTh),(ze.zAj ⟨c,o,m.zL⟩ i t).get j=m.get j:=fun c o t=>vD _ _ hij
 unfold doM;simp only
 split
 ·exact .inl (hs _ _ _)
 ·split
  ·exact .inl rfl
  ·split
   ·exact .inl (hs _ _ _)
   ·split
    ·exact .inl rfl
    ·split
     ·split <;> exact .inl rfl
     ·split
      ·rename_i h7
       split
       ·rename_i q
        by_cases e:a.obj.toNat=j
        ·rw [e] at q ⊢
         by_cases hj:j < m.zL.length
         ·exact .inr (.inl ⟨h7,rfl,rfl,q,uS _ _ _ hj⟩)
         ·exact .inr (.inr (by omega))
        ·exact .inl (vD _ _ e)
       ·exact .inl rfl
      ·split
       ·split <;> exact .inl rfl
       ·exact .inl rfl
theorem zJt {u:Un} (hr:zV u=true) {m:ze} (h:m.ok u) {i:Nat} (hi:i < m.zL.length) (h2:(m.get i).st=2):zB9 u (zAK u m i).1 < zB9 u m:=by
 have hlen:=(zFo hr h hi h2).2;obtain ⟨b,hb,hok,hbe⟩:=h.th hi;unfold zB9;rw [hlen]
 have hself:((zAK u m i).1.get i).pot (u.body i) < (m.get i).pot (u.body i):=by
  have hp:(m.get i).pot (u.body i)=zBR (m.get i).fs+1:=by unfold WTh.pot;rw [h2];rfl
  rw [hp];unfold zAK;cases hn:(m.get i).next with
  | none =>
    simp only
    rw [uS _ _ _ hi];unfold WTh.pot;simp
  | some a =>
    obtain ⟨s1,s2⟩:=zEP (u:=u) hi h2 a;have hi':i < (doM u m i a).1.zL.length:=by rw [(zG5 hr h hi a).2];exact hi
    simp only
    split
    ·rw [uS _ _ _ hi']
     unfold WTh.pot;simp
    ·rw [uS _ _ _ hi']
     obtain ⟨h3,h4⟩ | ⟨a',f,r,h3,h4,h5,h6,h7⟩:=zCR (hok.2.2 h2) (hok.2.1 (by rw [h2];decide)).2
     ·rw [h3] at hn;cases hn
     ·rw [hn] at h3;cases h3
      have hst:((doM u m i a).1.get i).on.local.st=2:=by
       show ((doM u m i a).1.get i).on.st=2
       unfold WTh.on;split <;> exact s1
      have h8:=zNf (t:=(doM u m i a).1.get i) (by rw [s2];exact h4) h5 h7;unfold WTh.pot;rw [hst];simp only [Int.reduceEq,uU,kG];rw [s2] at h8;omega
 refine zJZ _ hi (fun j hj=>?_) hself
 by_cases e:i=j
 ·subst e;exact Nat.le_of_lt hself
 have hbeg:∀ t:WTh,t=zC9 (u.body j) -> (m.get j).st=1 -> t.pot (u.body j) <= (m.get j).pot (u.body j):=fun t ht h1=>by
  rw [ht];refine yU (zHI _) ?_
  unfold WTh.pot;rw [h1];simp
 show ((zAK u m i).1.get j).pot (u.body j) <= (m.get j).pot (u.body j)
 unfold zAK;cases hn:(m.get i).next with
 | none=>simp only;rw [vD _ _ e];exact yV _
 | some a =>
   simp only
   have hd:=zGY (u:=u) (m:=m) e a;split
   ·exact J93 _
   ·exact J93 _
theorem ze.ok.run {u:Un} {m:ze} (h:m.ok u) {i:Int} (h0:zBp m i=0):0 <= i /\ i.toNat < m.zL.length /\ (m.get i.toNat).st=2:=by
 obtain ⟨h1,h2,h3,h4,h5,_⟩:=zE4 h0;have hi:i.toNat < m.zL.length:=by omega
 obtain ⟨b,_,hok,_⟩:=h.th hi;exact ⟨h1,hi,by exact J204 _⟩
theorem zGa {u:Un} (hr:zV u=true) {m:ze} (h:m.ok u) {i:Int} (h0:zBp m i=0):zB9 u (stepM u m i).1 < zB9 u m:=by
 obtain ⟨h1,hi,h2⟩:=h.run h0;unfold stepM;rw [if_pos h0];exact zJt hr h hi h2
theorem zKc {u:Un} {m:ze} (h:m.ok u) {i:Int} (hi:i ∈ zBD m):zBp m i=0:=by
 unfold zBD at hi;obtain ⟨k,hk,rfl⟩:=List.mem_map.1 hi;obtain ⟨hk1,hk2⟩:=List.mem_filter.1 hk;have hlt:=xR.1 hk1;obtain ⟨b,_,hok,_⟩:=h.th hlt
 have h2:(m.get k).st=2:=by
  refine uN fun hn=>?_
  have:zAy m k=false:=by unfold zAy zAa;simp [hn]
  rw [this] at hk2;cases hk2
 unfold zBp;rw [if_neg (by omega)];simp [h2,hk2]
def ze.idle (m:ze):Prop:=∀ j,j < m.zL.length -> (m.get j).st=1 -> (m.get j).regs=[] /\ (m.get j).fs=[]
theorem zJu {u:Un} (hr:zV u=true):(zAU u).idle:=by
 intro j hj h1
 have hb:=(zEW hr).zL;by_cases h0:j=0
 ·subst h0
  have h8:0 < u.threads.length:=by have:=(zAt hr).1;omega
  have e:(zAU u).get 0=zC9 (u.body 0):=by unfold zAU zER;exact uS _ _ _ (by simpa using h8)
  rw [e] at h1;unfold zC9 at h1;cases h1
 ·have e:(zAU u).get j=(⟨1,[],[]⟩:WTh):=by
   unfold zAU zER;rw [vD _ _ (fun h=>h0 h.symm)];have hj':j < u.threads.length:=by rw [<- hb];exact hj
   simp [ze.get,List.getD,hj']
  rw [e];exact ⟨rfl,rfl⟩
theorem zIu {u:Un} (hr:zV u=true) {m:ze} (h:m.ok u) (hi:m.idle) (i:Int):(stepM u m i).1.idle:=by
 unfold stepM;by_cases h0:zBp m i=0
 ·rw [if_pos h0]
  obtain ⟨_,hl,h2⟩:=h.run h0;generalize i.toNat=k at hl h2;have hlen:=(zFo hr h hl h2).2;intro j hj h1
  rw [hlen] at hj;show ((zAK u m k).1.get j).regs=[] /\ ((zAK u m k).1.get j).fs=[]
  replace h1:((zAK u m k).1.get j).st=1:=h1
  have key:∀ (m1:ze) (t:WTh),m1.zL.length=m.zL.length -> t.st ≠ 1 -> (∀ q,q ≠ k -> q < m.zL.length -> (m1.get q).st=1 -> (m1.get q).regs=[] /\ (m1.get q).fs=[]) -> ((m1.zAj k t).get j).st=1 -> ((m1.zAj k t).get j).regs=[] /\ ((m1.zAj k t).get j).fs=[]:=by
   intro m1 t hl1 ht ho h1
   by_cases e:j=k
   ·subst e
    rw [uS _ _ _ (by rw [hl1];exact hl)] at h1;exact absurd h1 ht
   ·rw [vD _ _ (fun h=>e h.symm)] at h1 ⊢
    exact ho j e hj h1
  revert h1
  unfold zAK;cases hn:(m.get k).next with
  | none =>
    simp only
    exact key m _ rfl (by show (3:Int) ≠ 1;decide) (fun q _ hq=>hi q hq)
  | some a =>
    simp only
    have hd:=(zG5 hr h hl a).2;have hs:=(zEP (u:=u) hl h2 a).1
    have ho:∀ q,q ≠ k -> q < m.zL.length -> ((doM u m k a).1.get q).st=1 -> ((doM u m k a).1.get q).regs=[] /\ ((doM u m k a).1.get q).fs=[]:=fun q hq hlq hq1=>by
     rcases zGY (u:=u) (m:=m) (fun e=>hq e.symm) a with e | ⟨_,_,_,_,e⟩ | e
     ·rw [e] at hq1 ⊢;exact hi q hlq hq1
     ·rw [e] at hq1;unfold zC9 at hq1;cases hq1
     ·omega
    split
    ·exact key _ _ hd (by show (4:Int) ≠ 1;decide) ho
    ·refine key _ _ hd ?_ ho
     have e:((doM u m k a).1.get k).on.local.st=2:=by
      unfold WTh.local WTh.on;split <;> exact hs
     rw [e];decide
 ·rw [if_neg h0];exact hi
end Go.Proofs.YtfokdllgnblamaaGreatDoor
namespace Go.Proofs.YtfokdllgnblamaaGreatDoor
open Go.RowKit
abbrev RM (w:World) (T:zS) (F:Nat -> Prop) (id b:Nat) (u:Un) (p:zBE) (m:ze) (H:List HTh):Prop:=MaP zGx 3 138 zBZ w T F id b u p m H
def zGs (W:World) (g o:Nat) (a:Ac) (xa:Option Addr) (xc:Nat) (ta:Option Addr) (tc:Nat) (ea:Option Addr) (ec:Nat):Prop:=W.cell? ⟨g,o,none⟩=some (.int .i64 a.kind) /\ W.cell? ⟨g,o+1,none⟩=some (.int .i64 a.reg) /\ W.cell? ⟨g,o+2,none⟩=some (.int .i64 a.obj) /\ W.cell? ⟨g,o+3,none⟩=some (.int .i64 a.ex.kind) /\ W.cell? ⟨g,o+4,none⟩=some (.int .i64 a.ex.num) /\ W.cell? ⟨g,o+5,none⟩=some (.string a.ex.nm) /\ W.cell? ⟨g,o+6,none⟩=some (.slice xa a.ex.args.length xc) /\ W.cell? ⟨g,o+7,none⟩=some (.int .i64 a.count) /\ W.cell? ⟨g,o+8,none⟩=some (.slice ta a.thn.length tc) /\ W.cell? ⟨g,o+9,none⟩=some (.slice ea a.els.length ec)
theorem zAR.cells {w:World} {F:Nat -> Prop} {l:List Ac} {ad:Option Addr} (h:zAR w F l ad) {i:Nat} (hi:i < l.length):∃ g o xa xc ta tc ea ec,ad=some ⟨g,o,none⟩ /\ F g /\ (∀ W,Keeps zA w W -> zGs W g (o+i*10) l[i] xa xc ta tc ea ec) /\ zQ w F l[i].ex.args xa /\ zAR w F l[i].thn ta /\ zAR w F l[i].els ea:=by
 obtain ⟨g,o,xa,xc,ta,tc,ea,ec,e,hg,c0,c1,c2,c3,c4,c5,c6,c7,c8,c9,h1,h2,h3⟩:=h.at hi;exact ⟨g,o,xa,xc,ta,tc,ea,ec,e,hg,fun W q=>⟨q.cell (fun h=>h) c0,q.cell (fun h=>h) c1,q.cell (fun h=>h) c2,q.cell (fun h=>h) c3,q.cell (fun h=>h) c4,q.cell (fun h=>h) c5,q.cell (fun h=>h) c6,q.cell (fun h=>h) c7,q.cell (fun h=>h) c8,q.cell (fun h=>h) c9⟩,h1,h2,h3⟩
section
variable {w w' W:World} {T:zS} {F:Nat -> Prop} {id b i:Nat} {u:Un} {p:zBE} {m:ze} {H:List HTh}
theorem MaP.thc {R:zA0 zx} {sz:Nat} {ty:TypeId} {B:zCY} (h:MaP R sz ty B w T F id b u p m H) (hi:i < m.zL.length):∃ rv fv,H[i]?=some ⟨(m.get i).st,rv,fv⟩ /\ (∀ W,Keeps zA w W -> W.cell? ⟨p.gt,i*3,none⟩=some (.int .i64 (m.get i).st) /\ W.cell? ⟨p.gt,i*3+1,none⟩=some rv /\ W.cell? ⟨p.gt,i*3+2,none⟩=some fv) ∧
 (∀ j,j < 3 -> ∀ W,Keeps zA w W -> W.frozen? ⟨p.gt,i*3+j,none⟩=false):=by
 obtain ⟨rv,fv,hH,_⟩:=h.zL.get (xT hi);have th:=zAF h.zL.row hH;refine ⟨rv,fv,hH,fun W q=>⟨q.cell (fun h=>h) th.1,q.cell (fun h=>h) th.2.1,q.cell (fun h=>h) th.2.2⟩,fun j hj=>zK (zCw h.zL.row (by rw [h.zL.len];exact hi) j hj) ?_⟩
 rcases (show j=0 \/ j=1 \/ j=2 by omega) with rfl | rfl | rfl
 ·exact ⟨_,th.1⟩
 ·exact ⟨_,th.2.1⟩
 ·exact ⟨_,th.2.2⟩
end
end Go.Proofs.YtfokdllgnblamaaGreatDoor
namespace Go.Proofs.YtfokdllgnblamaaGreatDoor
structure zCf where
 t:Int
 c:Int
 e:Evt
def plN (u:Un):ze -> List Int -> List zCf × ze
 | m,[]=>([],m)
 | m,t :: r=>(⟨t,(stepM u m t).2.2,(stepM u m t).2.1⟩ :: (plN u (stepM u m t).1 r).1,(plN u (stepM u m t).1 r).2)
theorem zLo (u:Un):∀ (l:List Int) (m:ze) (t:Int),plN u m (l++[t])=((plN u m l).1++[⟨t,(stepM u (plN u m l).2 t).2.2,(stepM u (plN u m l).2 t).2.1⟩],(stepM u (plN u m l).2 t).1):=by
 intro l
 induction l with
 | nil=>intro m t;rfl
 | cons a r ih=>intro m t;simp only [vU,plN,ih]
theorem zHF (u:Un):∀ (l:List Int) (m:ze),(plN u m l).1.length=l.length:=by
 intro l
 induction l with
 | nil=>intro m;rfl
 | cons a r ih=>intro m;simp only [plN,xQ,ih]
def chN (ch:List Int) (k n:Nat):Nat:=if k < ch.length then (ch.getD k 0 % (n:Int)).toNat else 0
theorem zKr (ch:List Int) (k:Nat) {n:Nat} (h:0 < n):chN ch k n < n:=by
 unfold chN;split
 ·have h1:=Int.emod_nonneg (ch.getD k 0) (b:=(n:Int)) (by omega)
  have h2:=Int.emod_lt_of_pos (ch.getD k 0) (b:=(n:Int)) (by omega);omega
 ·exact h
def whT (ch:List Int) (k:Nat) (m:ze):Int:=(zBD m).getD (chN ch k (zBD m).length) 0
def whN (u:Un) (ch:List Int):Nat -> Nat -> ze -> List Evt × ze
 | 0,_,m=>([],m)
 | f+1,k,m=>if zBD m=[] then ([],m) else ((stepM u m (whT ch k m)).2.1 :: (whN u ch f (k+1) (stepM u m (whT ch k m)).1).1,(whN u ch f (k+1) (stepM u m (whT ch k m)).1).2)
theorem zMm (ch:List Int) (k:Nat) {m:ze} (h:zBD m ≠ []):whT ch k m ∈ zBD m:=by
 unfold whT
 have hl:0 < (zBD m).length:=by cases hm:zBD m with
  | nil=>exact absurd hm h
  | cons=>simp
 have:=zKr ch k hl
 simp [List.getD,this]
theorem zLy {u:Un} (hr:zV u=true) (ch:List Int) {f k:Nat} {m:ze} (hm:m.ok u) (he:zBD m ≠ []) (hf:zB9 u m <= f) :
 ∃ f',whN u ch f k m=((stepM u m (whT ch k m)).2.1 :: (whN u ch f' (k+1) (stepM u m (whT ch k m)).1).1,(whN u ch f' (k+1) (stepM u m (whT ch k m)).1).2) /\ zB9 u (stepM u m (whT ch k m)).1 <= f' /\ zB9 u (stepM u m (whT ch k m)).1 < zB9 u m /\ zBp m (whT ch k m)=0:=by
 have h0:=zKc hm (zMm ch k he);have hp:=zGa hr hm h0;cases f with
 | zero=>omega
 | succ f=>exact ⟨f,by rw [whN,if_neg he],by omega,hp,h0⟩
theorem zNE {u:Un} (hr:zV u=true) (ch:List Int) {f k:Nat} {m:ze} (he:zBD m=[]):whN u ch f k m=([],m):=by
 cases f with
 | zero=>rfl
 | succ f=>rw [whN,if_pos he]
def whole (u:Un) (ch:List Int):List Evt × ze:=whN u ch (zB9 u (zAU u)) 0 (zAU u)
theorem zLu {u:Un} {m:ze} {t:Int} (h:zBp m t ≠ 0):stepM u m t=(m,Evt.zero,zBp m t):=by unfold stepM;rw [if_neg h]
structure zFK where
 t:WTh
 cw:Option Int
 ow:Option Int
 bg:Bool
 v:Int
 bad:Int
def zFs (i:Nat) (t:WTh) (a:Ac) (c o s:Int):zFK :=
 if a.kind=2 then ⟨({ t with regs:=t.regs.set a.reg.toNat c }:WTh).on.local,none,none,false,c,0⟩
 else if a.kind=3 then ⟨t.on.local,some (a.ex.val t.regs),none,false,a.ex.val t.regs,0⟩
 else if a.kind=4 then ⟨({ t with regs:=t.regs.set a.reg.toNat c }:WTh).on.local,some (w64 (c+a.ex.val t.regs)),none,false,c,0⟩
 else if a.kind=5 then ⟨t.on.local,none,some i,false,0,0⟩
 else if a.kind=6 then (if o=i then ⟨t.on.local,none,some (-1),false,0,0⟩ else ⟨{ t with st:=4 },none,none,false,0,2⟩)
 else if a.kind=7 then (if s=1 then ⟨t.on.local,none,none,true,0,0⟩ else ⟨{ t with st:=4 },none,none,false,0,4⟩)
 else if a.kind=8 then (if s=1 then ⟨{ t with st:=4 },none,none,false,0,3⟩ else ⟨t.on.local,none,none,false,0,0⟩)
 else if a.ex.val t.regs=0 then ⟨{ t with st:=4 },none,none,false,a.ex.val t.regs,1⟩ else ⟨t.on.local,none,none,false,a.ex.val t.regs,0⟩
def outT (i:Nat) (t:WTh) (c o s:Int):zFK:=match t.next with
 | none=>⟨{ t with st:=3 },none,none,false,0,0⟩
 | some a=>zFs i t a c o s
def zIR (l:List Int) (k:Nat) (v:Option Int):List Int:=match v with
 | some v=>l.set k v
 | none=>l
def zC8 (u:Un) (m:ze) (i k:Nat) (r:zFK):ze:=⟨zIR m.cells k r.cw,zIR m.owners k r.ow,(if r.bg then m.zL.set k (zC9 (u.body k)) else m.zL).set i r.t⟩
def obM (m:ze) (i:Nat):Nat:=(zAa m i).2.toNat
def zGq (m:ze) (i:Nat):zFK:=outT i (m.get i) (m.cells.getD (obM m i) 0) (m.owners.getD (obM m i) 0) (m.get (obM m i)).st
theorem zHH (t:WTh):t.on.local.st=t.st:=by unfold WTh.local WTh.on;split <;> rfl
theorem zKE {u:Un} {m:ze} {i:Nat} (hi:i < m.zL.length) (h2:(m.get i).st=2):zAK u m i=(zC8 u m i (obM m i) (zGq m i),⟨i,(zAa m i).1,(zAa m i).2,(zGq m i).v,(zGq m i).bad⟩):=by
 unfold zAK zGq outT;cases hn:(m.get i).next with
 | none=>rfl
 | some a =>
   have ea:zAa m i=(a.kind - 1,a.obj):=by unfold zAa;rw [h2,hn];rfl
   unfold obM;rw [ea];simp only
   unfold zFs doM;by_cases e2:a.kind=2
   ·simp only [if_pos e2,zC8,zIR,ne_eq,uC,uU,uM]
    rw [uS _ _ _ hi];simp only [ze.zAj,vS]
   by_cases e3:a.kind=3
   ·simp only [if_neg e2,if_pos e3,zC8,zIR,ze.zAj,ne_eq,uC,uU,uM];rfl
   by_cases e4:a.kind=4
   ·simp only [if_neg e2,if_neg e3,if_pos e4,zC8,zIR,ne_eq,uC,uU,uM]
    rw [uS _ _ _ (show i < ({ m with cells:=m.cells.set a.obj.toNat (w64 (m.cells.getD a.obj.toNat 0+a.ex.val (m.get i).regs)) }:ze).zL.length from hi)];simp only [ze.zAj,vS]
   by_cases e5:a.kind=5
   ·simp only [if_neg e2,if_neg e3,if_neg e4,if_pos e5,zC8,zIR,ze.zAj,ne_eq,uC,uU,uM];rfl
   by_cases e6:a.kind=6
   ·simp only [if_neg e2,if_neg e3,if_neg e4,if_neg e5,if_pos e6]
    by_cases ho:m.owners.getD a.obj.toNat 0=i
    ·simp only [if_pos ho,zC8,zIR,ze.zAj,ne_eq,uC,uU,uM];rfl
    ·simp only [if_neg ho];rfl
   by_cases e7:a.kind=7
   ·simp only [if_neg e2,if_neg e3,if_neg e4,if_neg e5,if_neg e6,if_pos e7]
    by_cases hs:(m.get a.obj.toNat).st=1
    ·have hne:a.obj.toNat ≠ i:=fun e=>by rw [e,h2] at hs;cases hs
     simp only [if_pos hs,ne_eq,uC,uU,zER];rw [vD _ _ hne];rfl
    ·simp only [if_neg hs];rfl
   by_cases e8:a.kind=8
   ·simp only [if_neg e2,if_neg e3,if_neg e4,if_neg e5,if_neg e6,if_neg e7,if_pos e8]
    by_cases hs:(m.get a.obj.toNat).st=1
    ·simp only [if_pos hs];rfl
    ·simp only [if_neg hs];rfl
   ·simp only [if_neg e2,if_neg e3,if_neg e4,if_neg e5,if_neg e6,if_neg e7,if_neg e8]
    by_cases hv:a.ex.val (m.get i).regs=0
    ·simp only [if_pos hv];rfl
    ·simp only [if_neg hv];rfl
theorem zJn {u:Un} {m:ze} {i k:Nat} {r:zFK} (hi:i < m.zL.length):(zC8 u m i k r).get i=r.t:=by
 refine uS (⟨[],[],if r.bg then m.zL.set k (zC9 (u.body k)) else m.zL⟩:ze) i r.t ?_
 show i < List.length (if r.bg=true then _ else _)
 split
 ·rw [xA];exact hi
 ·exact hi
theorem zJF {u:Un} {m:ze} {i j k:Nat} {r:zFK} (h:i ≠ j) (hb:r.bg=true -> k ≠ j):(zC8 u m i k r).get j=m.get j:=by
 refine (vD (⟨[],[],if r.bg then m.zL.set k (zC9 (u.body k)) else m.zL⟩:ze) r.t h).trans ?_
 cases hr:r.bg with
 | false=>rfl
 | true=>exact vD m _ (hb hr)
theorem zNc {u:Un} (hr:zV u=true):∀ (l:List Int) (m:ze),m.ok u -> (plN u m l).2.ok u:=by
 intro l
 induction l with
 | nil=>intro m h;exact h
 | cons a r ih=>intro m h;simp only [plN];exact ih _ (zFk hr h a).1
end Go.Proofs.YtfokdllgnblamaaGreatDoor
namespace Go.Proofs.YtfokdllgnblamaaGreatDoor
open Go.RowKit
inductive Abt where
 | read (n:Int)
 | write (n:Int)
 | atomic (n:Int)
 | mutex (n:Int)
 | begin (n:Int)
 | wait (n:Int)
 | fin (n:Int)
 | none
def Abt.val:Abt -> Value
 | .read n=>.iface 188 (.agg #[.int .i64 n])
 | .write n=>.iface 189 (.agg #[.int .i64 n])
 | .atomic n=>.iface 190 (.agg #[.int .i64 n])
 | .mutex n=>.iface 192 (.agg #[.int .i64 n])
 | .begin n=>.iface 194 (.agg #[.int .i64 n])
 | .wait n=>.iface 195 (.agg #[.int .i64 n])
 | .fin n=>.iface 196 (.agg #[.int .i64 n])
 | .none=>.iface 198 (.agg #[])
def zL0 (x:Evt):Abt :=
 if x.kind=1 then .read x.obj else if x.kind=2 then .write x.obj else if x.kind=3 then .atomic x.obj else if x.kind=4 \/ x.kind=5 then .mutex x.obj
 else if x.kind=6 then .begin x.obj else if x.kind=7 then .wait x.obj else if x.kind=9 then .fin x.thread else .none
def Abt.dep:Abt -> Abt -> Bool
 | .read a, .write b=>decide (a=b)
 | .read a, .atomic b=>decide (a=b)
 | .write a, .read b=>decide (a=b)
 | .write a, .write b=>decide (a=b)
 | .write a, .atomic b=>decide (a=b)
 | .atomic a, .read b=>decide (a=b)
 | .atomic a, .write b=>decide (a=b)
 | .atomic a, .atomic b=>decide (a=b)
 | .mutex a, .mutex b=>decide (a=b)
 | .begin a, .begin b=>decide (a=b)
 | .begin a, .wait b=>decide (a=b)
 | .fin a, .wait b=>decide (a=b)
 | .wait a, .begin b=>decide (a=b)
 | .wait a, .fin b=>decide (a=b)
 | _,_=>false
section
variable {w:World} {b gt nm ct:Nat}
theorem zMc (i:Int) (hi:i < 0):Calls Tryz.prog 47 #[.pointer (some ⟨b,0,none⟩), .int .i64 i] w fun e w'=>e=.returned (.int .i64 2) /\ Keeps zA w w':=by
 have e1:decide (i < 0)=true:=xZ hi;go_enter Tryz.func47,Tryz.ntmps47
 exact J31 _
theorem zKj (i:Int) (hi:0 <= i) (hn:(nm:Int) <= i) (k5:w.cell? ⟨b,5,none⟩=some (.slice (some ⟨gt,0,none⟩) nm ct)) :
 Calls Tryz.prog 47 #[.pointer (some ⟨b,0,none⟩), .int .i64 i] w fun e w'=>e=.returned (.int .i64 2) /\ Keeps zA w w':=by
 have e1:decide (i < 0)=false:=xY (by omega);go_enter Tryz.func47,Tryz.ntmps47
 go_wp2_with fail
 go_ret
 exact ⟨rfl,yB _ _⟩
theorem zJm (i:Nat) (st:Int) (hst:st=1 \/ st=3 \/ st=4) (hi:i < nm) (k5:w.cell? ⟨b,5,none⟩=some (.slice (some ⟨gt,0,none⟩) nm ct)) (t0:w.cell? ⟨gt,i*3,none⟩=some (.int .i64 st)) :
 Calls Tryz.prog 47 #[.pointer (some ⟨b,0,none⟩), .int .i64 i] w fun e w'=>e=.returned (.int .i64 (if st=1 then 80 else if st=3 then 81 else 82)) /\ Keeps zA w w':=by
 have i0:(0:Int) <= i:=by omega
 have e1:decide ((i:Int) < 0)=false:=xY (by omega);have i2:(i:Int) < nm:=by omega
 rcases hst with rfl | rfl | rfl
 all_goals (
  go_enter Tryz.func47,Tryz.ntmps47
  go_wp2_with fail
  go_ret
  exact ⟨rfl,yB _ _⟩)
theorem zNL (i:Nat) (a:Bool) (hi:i < nm) (k5:w.cell? ⟨b,5,none⟩=some (.slice (some ⟨gt,0,none⟩) nm ct)) (t0:w.cell? ⟨gt,i*3,none⟩=some (.int .i64 2))
 (HA:Ret w 72 #[.pointer (some ⟨b,0,none⟩), .int .i64 i] (.bool a)) :
 Calls Tryz.prog 47 #[.pointer (some ⟨b,0,none⟩), .int .i64 i] w fun e w'=>e=.returned (.int .i64 (if a=true then 0 else 83)) /\ Keeps zA w w':=by
 have i0:(0:Int) <= i:=by omega
 have e1:decide ((i:Int) < 0)=false:=xY (by omega);have i2:(i:Int) < nm:=by omega
 have k0:=zI w;cases a
 all_goals (
  go_enter Tryz.func47,Tryz.ntmps47
  go_wp2_with (go_at_call 72;refine HA.call k0 ?_;intro w1 K1 k1;have HK1:=yA K1;clear K1)
  go_ret
  exact ⟨rfl,HK1.out⟩)
end
section
variable {w:World} {T:zS} {F:Nat -> Prop} {id b:Nat} {u:Un} {p:zBE} {m:ze} {H:List HTh}
theorem zFF (h:MaP zi 1 103 zBW w T F id b u p m H) (hm:m.ok u) (i:Int) :
 Calls Tryz.prog 47 #[.pointer (some ⟨b,0,none⟩), .int .i64 i] w fun e w'=>e=.returned (.int .i64 (zBp m i)) /\ Keeps zA w w':=by
 have k5:=h.zB2 w (zI w);by_cases hlo:i < 0
 ·have e:zBp m i=2:=by unfold zBp;rw [if_pos (.inl hlo)]
  rw [e];exact zMc i hlo
 ·by_cases hhi:(m.zL.length:Int) <= i
  ·have e:zBp m i=2:=by unfold zBp;rw [if_pos (.inr hhi)]
   rw [e];exact zKj i (by omega) hhi k5
  ·obtain ⟨k,rfl⟩:∃ k:Nat,i=k:=⟨i.toNat,by omega⟩
   have hk:k < m.zL.length:=by omega
   have t0:=h.st hk w (zI w);obtain ⟨bd,hbd,hok,_⟩:=hm.th hk;by_cases h2:(m.get k).st=2
   ·have HA:Ret w 72 #[.pointer (some ⟨b,0,none⟩), .int .i64 k] (.bool (zAy m k)):=fun W hq=>zHV (uW zR zAD h hq) hm hk
    rw [h2] at t0;have:=zNL k (zAy m k) hk k5 t0 HA
    have e:zBp m k=if zAy m k=true then 0 else 83:=by
     unfold zBp;rw [if_neg (by omega)];simp only [Int.toNat_natCast,h2];rfl
    rw [e];exact this
   ·have hst:(m.get k).st=1 \/ (m.get k).st=3 \/ (m.get k).st=4:=by rcases hok.1 with e | e | e | e <;> omega
    have:=zJm k _ hst hk k5 t0
    have e:zBp m k=if (m.get k).st=1 then 80 else if (m.get k).st=3 then 81 else 82:=by
     unfold zBp;rw [if_neg (by omega)];simp only [Int.toNat_natCast];rcases hst with e | e | e <;> rw [e] <;> rfl
    rw [e];exact this
end
def zG9 (w:World) (xs:List Int) (e:Ending) (w':World):Prop :=
 ∃ v,e=.returned v /\ w'.ownsRow 0 3 1 v xs.length (ints xs) /\ Keeps zA w w' /\ ∀ kb,v.ownBlock=some kb -> w.heap.size <= kb
def enK (m:ze) (k:Nat):List Int:=((List.range k).filter (zAy m)).map fun (i:Nat)=>(i:Int)
theorem zMF (m:ze) (k:Nat):enK m (k+1)=if zAy m k=true then enK m k++[(k:Int)] else enK m k:=by
 unfold enK;rw [List.range_succ,List.filter_append,kD];by_cases h:zAy m k=true
 ·simp [h]
 ·simp [h]
theorem zJL (m:ze) (k:Nat):(enK m k).length <= k:=by
 unfold enK;rw [vC];exact yU (List.length_filter_le _ _) (by simp)
theorem zNI (m:ze):enK m m.zL.length=zBD m:=rfl
theorem zGk (w:World) (b gt nm ct:Nat) (m:ze) (h8:nm <= 8) (k5:∀ W,Keeps zA w W -> W.cell? ⟨b,5,none⟩=some (.slice (some ⟨gt,0,none⟩) nm ct))
 (HA:∀ i,i < nm -> Ret w 72 #[.pointer (some ⟨b,0,none⟩), .int .i64 i] (.bool (zAy m i))) :
 Calls Tryz.prog 36 #[.pointer (some ⟨b,0,none⟩)] w (zG9 w (enK m nm)):=by
 obtain ⟨i0,hi0,hz0,hz1,hz2⟩:=info_parts zBs;have n1:(0:Int) <= nm:=by omega
 have HAA:Hid (∀ i,i < nm -> Ret w 72 #[.pointer (some ⟨b,0,none⟩), .int .i64 i] (.bool (zAy m i))):=HA;have k0:=zI w;clear HA;go_enter Tryz.func36,Tryz.ntmps36
 go_wp2_with fail
 go_loopw [3,10] (fun v i wr=>∃ k mm adv capv,k <= nm /\ i=.int .i64 (k:Nat) /\ v=.slice adv mm capv /\ Hid (mm=(enK m k).length /\ wr.ownsRow 0 3 1 (.slice adv mm capv) mm (ints (enK m k))) /\ Hid (Keeps zA w wr) /\ Hid (∀ kb,(Value.slice adv mm capv).ownBlock=some kb -> w.heap.size <= kb)) (fun _ i _=>nm - (intOf i).toNat)
 case atStart=>exact ⟨0,0,none,0,yH _,rfl,rfl,⟨rfl,xB _ _ _ _⟩,yB _ _,fun kb e=>by exact J153 _⟩
 case round =>
  obtain ⟨k,mm,adv,capv,hk,rfl,rfl,hown,hb,hq⟩:=hrel;have k5r:=k5 wr hb.out;by_cases hlt:k < nm
  ·have i1:(0:Int) <= k:=by omega
   have i2:(k:Int) < (nm:Int):=by omega
   have hm:Hid (mm <= 8):=by
    have h1:=zJL m k;have h2:=hown.out.1;show mm <= 8
    omega
   have HP:=yA (zMF m k);have HR:=HAA.out k hlt;generalize hr:zAy m k=r at HP HR;clear hr;cases r
   ·have HQ:Hid (mm=(enK m (k+1)).length /\ wr.ownsRow 0 3 1 (.slice adv mm capv) mm (ints (enK m (k+1)))):=by rw [HP.out];exact hown.out
    clear HP hown;go_wp2_with (go_at_call 72;refine HR.call hb.out ?_;intro w1 g0 g1;have G0:=yA g0;have G1:=yA g1;clear g0 g1)
    go_roundw
    case rel=>exact ⟨k+1,mm,adv,capv,by omega,by go_num,rfl,⟨HQ.out.1,zF HQ.out.2 G1.out (fun _ _ h=>h)⟩,G0.out,hq.out⟩
    case measure=>simp [intOf];omega
   ·have HQ:Hid (enK m (k+1)=enK m k++[(k:Int)]):=by rw [HP.out];exact rfl
    clear HP;go_wp2_with (first | (go_at_call 72;refine HR.call hb.out ?_;intro w1 g0 g1;have G0:=yA g0;have G1:=yA g1;have hs1:wr.heap.size <= w1.heap.size:=g1.size;have ho1:Hid (w1.ownsRow 0 3 1 (.slice adv mm capv) mm (ints (enK m k))):=(by exact zF hown.out.2 g1 (fun _ _ h=>h));clear g0 g1) | (at_builtin;refine wpList_append_lies _ (by rfl) _ _ 22 (by rfl) 0 3 i0 _ 1 8 xO hi0 hz0 hz1 hz2 rfl (by decide) (.slice adv mm capv) mm _ (by rfl) (by exact ho1.out.alloc _) ⟨w1.heap.size,0,none⟩ 1 1 [.int .i64 k] (by rfl) (by rfl) (World.news_of_block (cs:=#[.int .i64 k]) (t:=3) (fr:=(0,0)) (yG w1 _)) (by simp [Value.oneCell']) (by decide) (by have:=hm.out;unfold maxLen;omega) (by have:=hm.out;omega) (yH _) (w1.heap.size+1) (by simp) ?_;intro gg cm' w6 hown6 hgr6 hat6 hlt6;have hB6:Hid (Keeps zA w w6):=(by exact ((G0.out.alloc _).grown hgr6 (fun kb e hlt=>absurd (hq.out kb e) (by omega))));have hO6:Hid (mm+1=(enK m (k+1)).length /\ w6.ownsRow 0 3 1 (.slice (some ⟨gg,0,none⟩) (mm+1) cm') (mm+1) (ints (enK m (k+1)))):=(by rw [HQ.out];refine ⟨by rw [xE,hown.out.1];rfl,?_⟩;unfold ints;rw [kD];exact hown6);have hG6:Hid (∀ kb,(Value.slice (some ⟨gg,0,none⟩) (mm+1) cm').ownBlock=some kb -> w.heap.size <= kb):=(by intro kb e;simp [Value.ownBlock] at e;subst e;rcases hat6 with h | h;exact hq.out _ h;have:=hb.out.size;omega);clear hown6 hgr6 hat6 hlt6))
    go_roundw
    case rel=>exact ⟨k+1,mm+1,_,_,by omega,by go_num,rfl,hO6,hB6,hG6⟩
    case measure=>simp [intOf];omega
  ·have hkn:k=nm:=by omega
   subst hkn;clear hlt;go_wp2_with fail
   go_ret
   obtain ⟨e,ho⟩:=hown.out;subst e;exact ⟨_,rfl,ho,hb.out,hq.out⟩
section
variable {w:World} {T:zS} {F:Nat -> Prop} {id b:Nat} {u:Un} {p:zBE} {m:ze} {H:List HTh}
theorem zHX (h:MaP zi 1 103 zBW w T F id b u p m H) (hr:zV u=true) (hm:m.ok u):Calls Tryz.prog 36 #[.pointer (some ⟨b,0,none⟩)] w (zG9 w (zBD m)):=by
 have h8:m.zL.length <= 8:=by rw [hm.zL];exact (zAt hr).2.1
 exact zGk w b p.gt m.zL.length p.ct m h8 h.zB2 (fun i hi W hq=>zHV (uW zR zAD h hq) hm hi)
end
end Go.Proofs.YtfokdllgnblamaaGreatDoor
