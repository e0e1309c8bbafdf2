/- Layer S: texts joined. -/
import Derived.Test.YtfjgcedkfnmdkaaGreatDoorS25
import Derived.Test.YtfjgcedkfnmdkaaGreatDoorS26
set_option linter.all false
namespace Go.Proofs.YtfjgcedkfnmdkaaGreatDoor
abbrev vW:=@Int.toNat_natCast
abbrev vK:=@zW.zBY
abbrev vF:=@zW.zBL
theorem J89 (P:Prop) (h:P:=by
 rw [vF _ _ e];rcases hd with hd | ⟨_,_,_,h1,hd⟩ | hd
 ·rw [hd];exact yV _
 ·exact hbeg _ hd h1
 ·omega):P:=h
theorem J105 (P:Prop) (h:P:=by
 split
 ·split <;> exact .inl rfl
 ·exact .inl rfl):P:=h
theorem J108 (P:Prop) (h:P:=by
 rename_i h
 by_cases e:a.obj.toNat=k
 ·exact .inr ⟨.inl h,e.symm⟩
 ·exact .inl (zDX _ e)):P:=h
theorem J111 (P:Prop) (h:P:=by
 by_cases e:a.obj.toNat=k
 ·exact .inr ⟨.inr h,e.symm⟩
 ·exact .inl (zDX _ e)):P:=h
theorem J182 (P:Prop) (h:P:=by unfold ze;rw [h2,h3];rfl):P:=h
def zx.pot (f:zx):Nat:=Ac.zZ f.rest+Ac.zZ f.all*(f.left - 1)
def zBR:List zx -> Nat
 | []=>0
 | f :: r=>f.pot+zBR r
theorem zAV:(a b:List zx) -> zBR (a++b)=zBR a+zBR b
 | [],b=>by simp [zBR]
 | x :: r,b=>by have:=zAV r b;simp only [vH,zBR,this];omega
theorem zLK {regs regs':List Int} {fs fs':List zx} (h:zA0 regs fs=some (regs',fs')):zBR fs' <= zBR fs:=by
 unfold zA0 at h;cases hl:fs.getLast? with
 | none=>rw [hl] at h;cases h
 | some f =>
   have hs:=zAZ hl
   have hm:zBR fs=zBR fs.dropLast+f.pot:=by
    have:=kK zBR hs
    rw [zAV] at this;simpa [zBR] using this
   rw [hl] at h;simp only at h;cases hr:f.rest with
   | nil =>
     rw [hr] at h;simp only [yP,xW] at h;obtain ⟨_,rfl⟩:=h;split
     ·rw [zAV,hm]
      simp only [zBR,zx.pot,hr,Ac.zZ];obtain ⟨q,hq⟩:∃ q,f.left - 1=q+1:=⟨f.left - 2,by omega⟩
      rw [hq,yg];simp only [Nat.add_sub_cancel,Nat.mul_one,xA,Nat.add_zero];omega
     ·omega
   | cons a r =>
     rw [hr] at h;have hf:f.pot=a.stp+Ac.zZ r+Ac.zZ f.all*(f.left - 1):=by simp only [zx.pot,hr,Ac.zZ]
     have ha:=Ac.zEr a;simp only at h;split at h
     ·simp only [yP,xW] at h
      obtain ⟨_,rfl⟩:=h;rw [zAV,hm,hf];simp only [zBR,zx.pot];omega
     ·rename_i h1
      rw [if_neg h1] at ha;split at h
      ·rename_i h10
       rw [if_pos h10] at ha;simp only [yP,xW] at h;obtain ⟨_,rfl⟩:=h;rw [zAV,zAV,hm,hf];simp only [zBR,zx.pot];split <;> omega
      ·rename_i h10
       split at h
       ·rename_i h11
        rw [if_neg h10,if_pos h11] at ha;simp only [yP,xW] at h;obtain ⟨_,rfl⟩:=h;split
        ·rename_i hc
         rw [zAV,zAV,hm,hf];simp only [zBR,zx.pot];obtain ⟨q,hq⟩:∃ q,a.count.toNat=q+1:=⟨a.count.toNat - 1,by omega⟩
         rw [hq] at ha ⊢;rw [yg] at ha;simp only [Nat.add_sub_cancel,Nat.mul_one] at ha ⊢;omega
        ·rw [zAV,hm,hf]
         simp only [zBR,zx.pot];omega
       ·cases h
theorem zJf (r:List Int) (fs:List zx):zBR (loc r fs).2 <= zBR fs :=
 (zJT (P:=fun _ fs'=>zBR fs' <= zBR fs) (fun _ _ _ _ h h1=>yX (zLK h1) h) (yV _)).1
def WTh.pot (b:Bd) (t:WTh):Nat:=if t.st=1 then Ac.zZ b.acts+1 else if t.st=2 then zBR t.fs+1 else 0
def zFZ (f:Nat -> Nat):Nat -> Nat
 | 0=>0
 | n+1=>zFZ f n+f n
theorem zHF {f g:Nat -> Nat}:(n:Nat) -> (∀ i,i < n -> f i <= g i) -> zFZ f n <= zFZ g n
 | 0,_=>yV _
 | n+1,h=>by
   have h1:=zHF n (fun i hi=>h i (by omega));have h2:=h n (by omega);simp only [zFZ];omega
theorem zJC {f g:Nat -> Nat} {k:Nat}:(n:Nat) -> k < n -> (∀ i,i < n -> f i <= g i) -> f k < g k -> zFZ f n < zFZ g n
 | 0,h,_,_=>absurd h (vY _)
 | n+1,hk,h,hl=>by
   have h2:=h n (by omega);simp only [zFZ];by_cases e:k=n
   ·subst e
    have h1:=zHF k (fun i hi=>h i (by omega));omega
   ·have h1:=zJC n (by omega) (fun i hi=>h i (by omega)) hl
    omega
def zCW (u:Un) (m:zW):Nat:=zFZ (fun i=>(m.get i).pot (u.body i)) m.zL.length
theorem zJd (l:List Bd):(n:Nat) -> n <= l.length -> unS (l.take n)=zFZ (fun i=>Ac.zZ (l.getD i ⟨0,[]⟩).acts+1) n
 | 0,_=>by simp [unS,zFZ]
 | n+1,h=>by
   rw [zDP (by omega),zJd l n (by omega)];simp only [zFZ,List.getD];rw [yM (by omega)];rfl
theorem zHh (b:Bd):(zDk b).pot b <= Ac.zZ b.acts+1:=by
 have h:=zJf (List.replicate b.regs.toNat 0) [⟨b.acts,b.acts,1⟩];unfold WTh.pot zDk WTh.local;simp only
 simp only [zBR,zx.pot,uX,Nat.mul_zero] at h;simp
 omega
theorem zFY (u:Un):(zAk u).zL=(u.threads.map fun _=>(⟨1,[],[]⟩:WTh)).set 0 (zDk (u.body 0)):=rfl
theorem zIH (u:Un):zCW u (zAk u) <= unS u.threads:=by
 have h:=zJd u.threads u.threads.length (yV _);rw [xL] at h;have hl:(zAk u).zL.length=u.threads.length:=by rw [zFY];simp
 rw [h];unfold zCW;rw [hl];refine zHF _ (fun i hi=>?_)
 have hg:((zAk u).get i).pot (u.body i) <= Ac.zZ (u.body i).acts+1:=by
  by_cases e:i=0
  ·subst e
   have:(zAk u).get 0=zDk (u.body 0):=zW.get_eq (by rw [zFY];exact yY (by simp;omega))
   rw [this];exact zHh _
  ·have:(zAk u).get i=⟨1,[],[]⟩:=zW.get_eq (by rw [zFY,uD (fun h=>e h.symm)];simp [hi])
   rw [this];simp [WTh.pot]
 exact hg
theorem zNw {t:WTh} {a:Ac} {f:zx} {r:List Ac} (h1:t.fs.getLast?=some f) (h2:f.rest=a :: r) (hk:2 <= a.kind /\ a.kind <= 9):zBR t.on.local.fs < zBR t.fs:=by
 have hs:=zAZ h1
 have hm:zBR t.fs=zBR t.fs.dropLast+f.pot:=by
  have:=kK zBR hs
  rw [zAV] at this;simpa [zBR] using this
 have e:t.on.fs=t.fs.dropLast++[⟨r,f.all,f.left⟩]:=by unfold WTh.on;rw [h1];simp [h2]
 have h3:zBR t.on.local.fs <= zBR t.on.fs:=zJf _ _;have ha:=Ac.zEr a;rw [if_neg (by omega),if_neg (by omega),if_neg (by omega)] at ha;rw [e,zAV] at h3;have hf:f.pot=a.stp+Ac.zZ r+Ac.zZ f.all*(f.left - 1):=by simp only [zx.pot,h2,Ac.zZ]
 simp only [zBR,zx.pot] at h3;omega
theorem zEi {u:Un} {m:zW} {i j:Nat} (hij:i ≠ j) (a:Ac):(doM u m i a).1.get j=m.get j \/ (a.kind=7 /\ a.obj.toNat=j /\ (doM u m i a).2.2=0 /\ (m.get j).st=1 /\ (doM u m i a).1.get j=zDk (u.body j)) \/ m.zL.length <= j:=by
 have hs:∀ (c:List Int) (o:List Int) (t:WTh),(zW.zAj ⟨c,o,m.zL⟩ i t).get j=m.get j:=fun c o t=>vF _ _ hij
 unfold doM;simp only
 split
 ·exact .inl (hs _ _ _)
 ·split
  ·exact .inl rfl
  ·split
   ·exact .inl (hs _ _ _)
   ·split
    ·exact .inl rfl
    ·split
     ·split <;> exact .inl rfl
     ·split
      ·rename_i h7
       split
       ·rename_i q
        by_cases e:a.obj.toNat=j
        ·rw [e] at q ⊢
         by_cases hj:j < m.zL.length
         ·exact .inr (.inl ⟨h7,rfl,rfl,q,vK _ _ _ hj⟩)
         ·exact .inr (.inr (by omega))
        ·exact .inl (vF _ _ e)
       ·exact .inl rfl
      ·exact J105 _
theorem zJz {u:Un} (hr:zV u=true) {m:zW} (h:m.ok u) {i:Nat} (hi:i < m.zL.length) (h2:(m.get i).st=2):zCW u (zi u m i).1 < zCW u m:=by
 have hlen:=(zBq hr h hi h2).2;obtain ⟨b,hb,hok,hbe⟩:=h.th hi;unfold zCW;rw [hlen]
 have hself:((zi u m i).1.get i).pot (u.body i) < (m.get i).pot (u.body i):=by
  have hp:(m.get i).pot (u.body i)=zBR (m.get i).fs+1:=by unfold WTh.pot;rw [h2];rfl
  rw [hp];unfold zi;cases hn:(m.get i).next with
  | none =>
    simp only
    rw [vK _ _ _ hi];unfold WTh.pot;simp
  | some a =>
    obtain ⟨s1,s2⟩:=zEK (u:=u) hi h2 a;have hi':i < (doM u m i a).1.zL.length:=by rw [(zHM hr h hi a).2];exact hi
    simp only
    split
    ·rw [vK _ _ _ hi']
     unfold WTh.pot;simp
    ·rw [vK _ _ _ hi']
     obtain ⟨h3,h4⟩ | ⟨a',f,r,h3,h4,h5,h6,h7⟩:=zB3 (hok.2.2 h2) (hok.2.1 (by rw [h2];decide)).2
     ·rw [h3] at hn;cases hn
     ·rw [hn] at h3;cases h3
      have hst:((doM u m i a).1.get i).on.local.st=2:=by
       show ((doM u m i a).1.get i).on.st=2
       unfold WTh.on;split <;> exact s1
      have h8:=zNw (t:=(doM u m i a).1.get i) (by rw [s2];exact h4) h5 h7;unfold WTh.pot;rw [hst];simp only [Int.reduceEq,uR,kD];rw [s2] at h8;omega
 refine zJC _ hi (fun j hj=>?_) hself
 by_cases e:i=j
 ·subst e;exact Nat.le_of_lt hself
 have hbeg:∀ t:WTh,t=zDk (u.body j) -> (m.get j).st=1 -> t.pot (u.body j) <= (m.get j).pot (u.body j):=fun t ht h1=>by
  rw [ht];refine yX (zHh _) ?_
  unfold WTh.pot;rw [h1];simp
 show ((zi u m i).1.get j).pot (u.body j) <= (m.get j).pot (u.body j)
 unfold zi;cases hn:(m.get i).next with
 | none=>simp only;rw [vF _ _ e];exact yV _
 | some a =>
   simp only
   have hd:=zEi (u:=u) (m:=m) e a;split
   ·exact J89 _
   ·exact J89 _
theorem zW.ok.run {u:Un} {m:zW} (h:m.ok u) {i:Int} (h0:zBQ m i=0):0 <= i /\ i.toNat < m.zL.length /\ (m.get i.toNat).st=2:=by
 obtain ⟨h1,h2,h3,h4,h5,_⟩:=zDZ h0;have hi:i.toNat < m.zL.length:=by omega
 obtain ⟨b,_,hok,_⟩:=h.th hi;exact ⟨h1,hi,by exact J202 _⟩
theorem zGX {u:Un} (hr:zV u=true) {m:zW} (h:m.ok u) {i:Int} (h0:zBQ m i=0):zCW u (stepM u m i).1 < zCW u m:=by
 obtain ⟨h1,hi,h2⟩:=h.run h0;unfold stepM;rw [if_pos h0];exact zJz hr h hi h2
theorem zGe {u:Un} {m:zW} (h:m.ok u) {i:Int} (hi:i ∈ zAy m):zBQ m i=0:=by
 unfold zAy at hi;obtain ⟨k,hk,rfl⟩:=List.mem_map.1 hi;obtain ⟨hk1,hk2⟩:=List.mem_filter.1 hk;have hlt:=xP.1 hk1;obtain ⟨b,_,hok,_⟩:=h.th hlt
 have h2:(m.get k).st=2:=by
  refine uP fun hn=>?_
  have:zAX m k=false:=by unfold zAX ze;simp [hn]
  rw [this] at hk2;cases hk2
 unfold zBQ;rw [if_neg (by omega)];simp [h2,hk2]
theorem zFO {m m':zW} {i:Nat} (h:m'.get i=m.get i):ze m' i=ze m i:=by unfold ze;rw [h]
structure Apart (m m':zW) (x:Evt):Prop where
 nc:m.cells.length=m'.cells.length
 no:m.owners.length=m'.owners.length
 nt:m.zL.length=m'.zL.length
 cells:∀ k,k < m.cells.length -> m.cells.getD k 0=m'.cells.getD k 0 \/ ((x.kind=2 \/ x.kind=3) /\ (k:Int)=x.obj)
 owners:∀ k,k < m.owners.length -> m.owners.getD k 0=m'.owners.getD k 0 \/ ((x.kind=4 \/ x.kind=5) /\ (k:Int)=x.obj)
 zL:∀ k,k < m.zL.length -> ((m.get k).st=(m'.get k).st /\ ze m k=ze m' k) \/ (k:Int)=x.thread \/ (x.kind=6 /\ x.bad=0 /\ (k:Int)=x.obj)
theorem zDX {l:List Int} {k j:Nat} (v:Int) (h:k ≠ j):(l.set k v).getD j 0=l.getD j 0:=by rw [List.getD,List.getD,uD h]
theorem zKb {u:Un} {m:zW} {i:Nat} (a:Ac) (k:Nat):(doM u m i a).1.cells.getD k 0=m.cells.getD k 0 \/ ((a.kind=3 \/ a.kind=4) /\ k=a.obj.toNat):=by
 unfold doM;simp only
 split
 ·exact .inl rfl
 ·split
  ·exact J108 _
  ·split
   ·rename_i h
    exact J111 _
   ·split
    ·exact .inl rfl
    ·split
     ·split <;> exact .inl rfl
     ·split
      ·split <;> exact .inl rfl
      ·exact J105 _
theorem zIW {u:Un} {m:zW} {i:Nat} (a:Ac) (k:Nat):(doM u m i a).1.owners.getD k 0=m.owners.getD k 0 \/ ((a.kind=5 \/ a.kind=6) /\ k=a.obj.toNat):=by
 unfold doM;simp only
 split
 ·exact .inl rfl
 ·split
  ·exact .inl rfl
  ·split
   ·exact .inl rfl
   ·split
    ·exact J108 _
    ·split
     ·rename_i h
      split
      ·exact J111 _
      ·exact .inl rfl
     ·split
      ·split <;> exact .inl rfl
      ·exact J105 _
theorem zIC {u:Un} (hr:zV u=true) {m:zW} (h:m.ok u) {i:Int} (h0:zBQ m i=0):Apart m (stepM u m i).1 (stepM u m i).2.1 /\ (stepM u m i).2.1.thread=i:=by
 obtain ⟨h1,hi,h2⟩:=h.run h0;obtain ⟨k,rfl⟩:∃ k:Nat,i=k:=⟨i.toNat,by omega⟩
 rw [vW] at hi h2;obtain ⟨b,hb,hok,hbe⟩:=h.th hi;have g:=(zDN hr h (k:Int)).1;have hth:∀ (m':zW) (j:Nat),(m.get j=m'.get j) -> ((m.get j).st=(m'.get j).st /\ ze m j=ze m' j):=fun m' j e=>⟨by rw [e],(zFO e.symm).symm⟩
 have hcl:m.cells.length=(stepM u m k).1.cells.length:=by rw [h.cells,g.cells]
 have hol:m.owners.length=(stepM u m k).1.owners.length:=by rw [h.owners,g.owners]
 have htl:m.zL.length=(stepM u m k).1.zL.length:=by rw [h.zL,g.zL]
 have hx:(stepM u m k)=((zi u m k).1,(zi u m k).2,0):=by unfold stepM;rw [if_pos h0,vW]
 have key:(zi u m k).2.thread=(k:Int) /\ (∀ j,m.cells.getD j 0=(zi u m k).1.cells.getD j 0 \/ (((zi u m k).2.kind=2 \/ (zi u m k).2.kind=3) /\ (j:Int)=(zi u m k).2.obj)) ∧
  (∀ j,m.owners.getD j 0=(zi u m k).1.owners.getD j 0 \/ (((zi u m k).2.kind=4 \/ (zi u m k).2.kind=5) /\ (j:Int)=(zi u m k).2.obj)) ∧
  (∀ j,j < m.zL.length -> m.get j=(zi u m k).1.get j \/ j=k \/ ((zi u m k).2.kind=6 /\ (zi u m k).2.bad=0 /\ (j:Int)=(zi u m k).2.obj)):=by
  unfold zi;rcases zB3 (hok.2.2 h2) (hok.2.1 (by rw [h2];decide)).2 with ⟨h3,_⟩ | ⟨a,f,r,h3,h4,h5,h6,h7⟩
  ·rw [h3]
   refine ⟨rfl,fun j=>.inl rfl,fun j=>.inl rfl,fun j hj=>?_⟩
   by_cases e:k=j
   ·exact .inr (.inl e.symm)
   ·exact .inl (vF _ _ e).symm
  ·have e:ze m k=(a.kind - 1,a.obj):=J182 _
   have hob:∀ j:Nat,j=a.obj.toNat -> 2 <= a.kind /\ a.kind <= 8 -> (j:Int)=a.obj:=fun j e1 e2=>by have:=(Ac.zEX h6 e2).1;omega
   rw [h3];simp only
   have hot:∀ (x:WTh) (j:Nat),j < m.zL.length -> m.get j=((doM u m k a).1.zAj k x).get j \/ j=k \/ (a.kind - 1=6 /\ (doM u m k a).2.2=0 /\ (j:Int)=a.obj):=fun x j hj=>by
    by_cases e:k=j
    ·exact .inr (.inl e.symm)
    ·rw [vF _ _ e]
     rcases zEi (u:=u) (m:=m) e a with hd | ⟨q1,q2,q3,_,_⟩ | hd
     ·exact .inl hd.symm
     ·exact .inr (.inr ⟨by omega,q3,hob j q2.symm (by omega)⟩)
     ·omega
   have hce:∀ j,m.cells.getD j 0=(doM u m k a).1.cells.getD j 0 \/ ((a.kind - 1=2 \/ a.kind - 1=3) /\ (j:Int)=a.obj):=fun j=>by
    rcases zKb (u:=u) (m:=m) (i:=k) a j with q | ⟨q1,q2⟩
    ·exact .inl q.symm
    ·exact .inr ⟨by omega,hob j q2 (by omega)⟩
   have how:∀ j,m.owners.getD j 0=(doM u m k a).1.owners.getD j 0 \/ ((a.kind - 1=4 \/ a.kind - 1=5) /\ (j:Int)=a.obj):=fun j=>by
    rcases zIW (u:=u) (m:=m) (i:=k) a j with q | ⟨q1,q2⟩
    ·exact .inl q.symm
    ·exact .inr ⟨by omega,hob j q2 (by omega)⟩
   split
   ·rename_i hbad
    refine ⟨rfl,by rw [e];exact hce,by rw [e];exact how,fun j hj=>?_⟩
    rw [e];rcases hot _ j hj with q | q | ⟨_,q,_⟩
    ·exact .inl q
    ·exact .inr (.inl q)
    ·exact absurd q hbad
   ·rename_i hbad
    refine ⟨rfl,by rw [e];exact hce,by rw [e];exact how,fun j hj=>?_⟩
    rw [e];rcases hot _ j hj with q | q | ⟨q1,_,q2⟩
    ·exact .inl q
    ·exact .inr (.inl q)
    ·exact .inr (.inr ⟨q1,rfl,q2⟩)
 rw [hx] at hcl hol htl ⊢;obtain ⟨k1,k2,k3,k4⟩:=key;refine ⟨⟨hcl,hol,htl,fun j _=>k2 j,fun j _=>k3 j,fun j hj=>?_⟩,k1⟩
 rcases k4 j hj with q | q | q
 ·exact .inl (hth _ j q)
 ·exact .inr (.inl (by rw [k1,q]))
 ·exact .inr (.inr q)
def zW.idle (m:zW):Prop:=∀ j,j < m.zL.length -> (m.get j).st=1 -> (m.get j).fs=[]
theorem zJu {u:Un} (hr:zV u=true):(zAk u).idle:=by
 intro j hj h1
 have hb:=(zFU hr).zL;by_cases h0:j=0
 ·subst h0
  have h8:0 < u.threads.length:=by have:=(zBK hr).1;omega
  have e:(zAk u).get 0=zDk (u.body 0):=by unfold zAk zFF;exact vK _ _ _ (by simpa using h8)
  rw [e] at h1;unfold zDk at h1;cases h1
 ·have e:(zAk u).get j=(⟨1,[],[]⟩:WTh):=by
   unfold zAk zFF;rw [vF _ _ (fun h=>h0 h.symm)];have hj':j < u.threads.length:=by rw [<- hb];exact hj
   simp [zW.get,List.getD,hj']
  rw [e]
theorem zI0 {u:Un} (hr:zV u=true) {m:zW} (h:m.ok u) (hi:m.idle) (i:Int):(stepM u m i).1.idle:=by
 unfold stepM;by_cases h0:zBQ m i=0
 ·rw [if_pos h0]
  obtain ⟨_,hl,h2⟩:=h.run h0;generalize i.toNat=k at hl h2;have hlen:=(zBq hr h hl h2).2;intro j hj h1
  rw [hlen] at hj;show ((zi u m k).1.get j).fs=[]
  replace h1:((zi u m k).1.get j).st=1:=h1
  have key:∀ (m1:zW) (t:WTh),m1.zL.length=m.zL.length -> t.st ≠ 1 -> (∀ q,q ≠ k -> q < m.zL.length -> (m1.get q).st=1 -> (m1.get q).fs=[]) -> ((m1.zAj k t).get j).st=1 -> ((m1.zAj k t).get j).fs=[]:=by
   intro m1 t hl1 ht ho h1
   by_cases e:j=k
   ·subst e
    rw [vK _ _ _ (by rw [hl1];exact hl)] at h1;exact absurd h1 ht
   ·rw [vF _ _ (fun h=>e h.symm)] at h1 ⊢
    exact ho j e hj h1
  revert h1
  unfold zi;cases hn:(m.get k).next with
  | none =>
    simp only
    exact key m _ rfl (by show (3:Int) ≠ 1;decide) (fun q _ hq=>hi q hq)
  | some a =>
    simp only
    have hd:=(zHM hr h hl a).2;have hs:=(zEK (u:=u) hl h2 a).1
    have ho:∀ q,q ≠ k -> q < m.zL.length -> ((doM u m k a).1.get q).st=1 -> ((doM u m k a).1.get q).fs=[]:=fun q hq hlq hq1=>by
     rcases zEi (u:=u) (m:=m) (fun e=>hq e.symm) a with e | ⟨_,_,_,_,e⟩ | e
     ·rw [e] at hq1 ⊢;exact hi q hlq hq1
     ·rw [e] at hq1;unfold zDk at hq1;cases hq1
     ·omega
    split
    ·exact key _ _ hd (by show (4:Int) ≠ 1;decide) ho
    ·refine key _ _ hd ?_ ho
     have e:((doM u m k a).1.get k).on.local.st=2:=by
      unfold WTh.local WTh.on;split <;> exact hs
     rw [e];decide
 ·rw [if_neg h0];exact hi
structure zCL where
 t:Int
 c:Int
 e:Evt
def plN (u:Un):zW -> List Int -> List zCL × zW
 | m,[]=>([],m)
 | m,t :: r=>(⟨t,(stepM u m t).2.2,(stepM u m t).2.1⟩ :: (plN u (stepM u m t).1 r).1,(plN u (stepM u m t).1 r).2)
theorem zL9 (u:Un):∀ (l:List Int) (m:zW) (t:Int),plN u m (l++[t])=((plN u m l).1++[⟨t,(stepM u (plN u m l).2 t).2.2,(stepM u (plN u m l).2 t).2.1⟩],(stepM u (plN u m l).2 t).1):=by
 intro l
 induction l with
 | nil=>intro m t;rfl
 | cons a r ih=>intro m t;simp only [vH,plN,ih]
theorem zGl (u:Un):∀ (l:List Int) (m:zW),(plN u m l).1.length=l.length:=by
 intro l
 induction l with
 | nil=>intro m;rfl
 | cons a r ih=>intro m;simp only [plN,xT,ih]
def chN (ch:List Int) (k n:Nat):Nat:=if k < ch.length then (ch.getD k 0 % (n:Int)).toNat else 0
theorem zKw (ch:List Int) (k:Nat) {n:Nat} (h:0 < n):chN ch k n < n:=by
 unfold chN;split
 ·have h1:=Int.emod_nonneg (ch.getD k 0) (b:=(n:Int)) (by omega)
  have h2:=Int.emod_lt_of_pos (ch.getD k 0) (b:=(n:Int)) (by omega);omega
 ·exact h
def whT (ch:List Int) (k:Nat) (m:zW):Int:=(zAy m).getD (chN ch k (zAy m).length) 0
def whN (u:Un) (ch:List Int):Nat -> Nat -> zW -> List Evt × zW
 | 0,_,m=>([],m)
 | f+1,k,m=>if zAy m=[] then ([],m) else ((stepM u m (whT ch k m)).2.1 :: (whN u ch f (k+1) (stepM u m (whT ch k m)).1).1,(whN u ch f (k+1) (stepM u m (whT ch k m)).1).2)
theorem zJQ (ch:List Int) (k:Nat) {m:zW} (h:zAy m ≠ []):whT ch k m ∈ zAy m:=by
 unfold whT
 have hl:0 < (zAy m).length:=by cases hm:zAy m with
  | nil=>exact absurd hm h
  | cons=>simp
 have:=zKw ch k hl
 simp [List.getD,this]
theorem zHc {u:Un} (hr:zV u=true) (ch:List Int) {f k:Nat} {m:zW} (hm:m.ok u) (he:zAy m ≠ []) (hf:zCW u m <= f) :
 ∃ f',whN u ch f k m=((stepM u m (whT ch k m)).2.1 :: (whN u ch f' (k+1) (stepM u m (whT ch k m)).1).1,(whN u ch f' (k+1) (stepM u m (whT ch k m)).1).2) /\ zCW u (stepM u m (whT ch k m)).1 <= f' /\ zCW u (stepM u m (whT ch k m)).1 < zCW u m /\ zBQ m (whT ch k m)=0:=by
 have h0:=zGe hm (zJQ ch k he);have hp:=zGX hr hm h0;cases f with
 | zero=>omega
 | succ f=>exact ⟨f,by rw [whN,if_neg he],by omega,hp,h0⟩
theorem zHE {u:Un} (hr:zV u=true) (ch:List Int) {f k:Nat} {m:zW} (he:zAy m=[]):whN u ch f k m=([],m):=by
 cases f with
 | zero=>rfl
 | succ f=>rw [whN,if_pos he]
def whole (u:Un) (ch:List Int):List Evt × zW:=whN u ch (zCW u (zAk u)) 0 (zAk u)
theorem zNP {u:Un} (hr:zV u=true) (ch:List Int):∀ (f k:Nat) (m:zW),m.ok u -> zCW u m <= f →
 (whN u ch f k m).1.length <= zCW u m /\ (whN u ch f k m).2.ok u /\ zAy (whN u ch f k m).2=[] /\ plN u m ((whN u ch f k m).1.map Evt.thread)=((whN u ch f k m).1.map fun x=>⟨x.thread,0,x⟩,(whN u ch f k m).2):=by
 intro f
 induction f with
 | zero =>
   intro k m hm hf
   by_cases he:zAy m=[]
   ·rw [zHE hr ch he]
    exact ⟨yG _,hm,he,rfl⟩
   ·obtain ⟨f',_,_,h,_⟩:=zHc hr ch (k:=k) hm he hf
    omega
 | succ f ih =>
   intro k m hm hf
   by_cases he:zAy m=[]
   ·rw [zHE hr ch he]
    exact ⟨yG _,hm,he,rfl⟩
   ·have h0:=zGe hm (zJQ ch k he)
    have hp:=zGX hr hm h0;have ho:=(zDN hr hm (whT ch k m)).1;obtain ⟨q1,q2,q3,q4⟩:=ih (k+1) _ ho (by omega);have e:whN u ch (f+1) k m=((stepM u m (whT ch k m)).2.1 :: (whN u ch f (k+1) (stepM u m (whT ch k m)).1).1,(whN u ch f (k+1) (stepM u m (whT ch k m)).1).2):=by rw [whN,if_neg he]
    have ht:(stepM u m (whT ch k m)).2.1.thread=whT ch k m:=(zIC hr hm h0).2;have hc:(stepM u m (whT ch k m)).2.2=0:=by unfold stepM;rw [if_pos h0]
    rw [e];refine ⟨by simp only [xT];omega,q2,q3,?_⟩
    simp only [uN,plN,ht,hc,q4]
end Go.Proofs.YtfjgcedkfnmdkaaGreatDoor
namespace Go.Proofs.YtfjgcedkfnmdkaaGreatDoor
open Go.RowKit
def zFv (gs:Nat -> Nat × Nat) (i:Nat) (p:Nat × Nat) (j:Nat):Nat × Nat:=if j=i then p else gs j
def zEZ (md:Region.Mode) (l:List Oper) (n:Nat) (D:Nat -> List Nat):Bool :=
 (List.range n).all fun i=>((l[i]?).map fun o=>(D i).all fun a=>decide (a=i) || o.after.any fun e=>Region.binds md e&&(D e.on).contains a).getD true
def zLA (md:Region.Mode) (ops:Array Oper) (n p:Nat):Bool :=
 (List.range n).all fun i=>decide (i=p) || (List.range (n+1)).any fun j=>decide (i < j)&&decide (j ≠ p)&&Region.waitsFor md ops j i
theorem zHk {md:Region.Mode} {ops:Array Oper} {n p:Nat} {listed:Array Bool} (hs:zLA md ops n p=true) (hc:Region.chainB md ops n=true) (hn:n < ops.size) (inv:HeadInv md ops n listed) :
 ∀ (d i:Nat),n - i=d -> i ≠ p -> i < n -> listed.getD i true=false -> ∀ t,n <= t -> t ∉ Region.ready md ops listed:=by
 intro d
 induction d using Nat.strongRecOn with
 | _ d ih =>
   intro i hd hip hi hun t ht hr
   obtain ⟨_,ot,hot,hall⟩:=vE.1 hr;have htlt:t < ops.size:=(Array.getElem?_eq_some_iff.1 hot).1;by_cases htn:t=n
   ·exact J20 _
   ·exact J23 _
def zEY (n g p:Nat):Array Bool:=(zm n g).setIfInBounds p false
def zIB (md:Region.Mode) (l:List Oper) (n p:Nat):Bool :=
 decide (n < l.length)&&zLA md l.toArray n p&&Region.chainB md l.toArray n&&zJe md l n&&((List.range (n+1)).all fun m=>zB4 l m)&&Region.seqB md l.toArray (l.length - n) n (zm n (l.length - n)) &&
  (decide (n <= p) || (Region.free md l.toArray (zEY n (l.length - n) p) p&&(Region.ready md l.toArray (zEY n (l.length - n) p)).contains p&&Region.noSelect l.toArray))
section
variable {P:Program}
theorem zNR {id:Nat} {Q:Exit -> Act -> World -> Prop} {a:Act} {w:World} {l:List Oper} (n p:Nat) (hm:P.follows .mixedOrders=true) (hB:zIB .any l n p=true) (D:Nat -> List Nat) (hDB:zEZ .any l n D=true)
 (F:Nat -> Value -> (Nat -> Nat × Nat) -> World -> Prop) (hst:∀ j v gs W W',F j v gs W -> Keeps zA W W' -> F j v gs W') (hloc:∀ j v gs gs' W,(∀ a,a ∈ D j -> gs a=gs' a) -> F j v gs W -> F j v gs' W)
 (hp:p < n -> ∃ op,l[p]?=some op /\ (∀ c a w v,Q (.panic c) (a.put op.dst v) w -> Q (.panic c) a w) /\ ∀ (vs:Nat -> Value) gs W,Keeps zA w.drew W -> (∀ j,j < n -> j ≠ p -> F j (vs j) gs W) -> ∃ v,Yields P l.toArray op v (zI l vs a n) /\ F p v (zFv gs p (W.heap.size,W.heap.size)) W)
 (hstep:∀ i o,i < n -> l[i]?=some o -> ∀ (vs:Nat -> Value) (gs:Nat -> Nat × Nat) (W:World) (Q':Exit -> Act -> World -> Prop),Keeps zA w.drew W -> (∀ e,e ∈ o.after.toList -> Region.binds .any e=true -> F e.on (vs e.on) gs W) →
   (∀ v W',Keeps zA W W' -> F i v (zFv gs i (W.heap.size,W'.heap.size)) W' -> Q' .normal ((zI l vs a n).put o.dst v) W') -> wpList P l.toArray Q' [o] (zI l vs a n) W)
 (htail:∀ (vs:Nat -> Value) (gs:Nat -> Nat × Nat) (W:World),Keeps zA w.drew W -> (∀ j,j < n -> F j (vs j) gs W) -> (∀ j,j < n -> (gs j).2 <= W.heap.size) -> (∀ i j,i < n -> j < n -> i ≠ j -> (gs i).2 <= (gs j).1 \/ (gs j).2 <= (gs i).1) -> wpList P l.toArray Q (l.drop n) (zI l vs a n) W):(Code.region id l.toArray true).wp P Q a w:=by
 simp only [zIB,yR,kP,yS,yZ,xP] at hB;obtain ⟨⟨⟨⟨⟨⟨hn,hs⟩,hc⟩,hback⟩,hdis⟩,hseq⟩,hpB⟩:=hB
 have key:∀ (f:Nat) (listed:Array Bool) (vs:Nat -> Value) (gs:Nat -> Nat × Nat) (W:World),HeadInv .any l.toArray n listed -> zBe listed n=f -> Keeps zA w.drew W -> (∀ j,j < n -> listed.getD j true=true -> F j (vs j) gs W) -> (∀ j,j < n -> listed.getD j true=true -> ∀ a,a ∈ D j -> listed.getD a true=true) -> (∀ j,j < n -> listed.getD j true=true -> (gs j).2 <= W.heap.size) -> (∀ i j,i < n -> j < n -> i ≠ j -> listed.getD i true=true -> listed.getD j true=true -> (gs i).2 <= (gs j).1 \/ (gs j).2 <= (gs i).1) →
  wpAny P .any l.toArray Q (f+(l.length - n)) listed (zI l vs a n) W:=by
  intro f
  induction f with
  | zero =>
    intro listed vs gs W inv hcnt hR hF hL hG hD
    have hall:=zB0 n hcnt
    have he:listed=zm n (l.length - n):=by
     exact J9 _
    have h1:=htail vs gs W hR (fun j hj=>hF j hj (hall j hj)) (fun j hj=>hG j hj (hall j hj)) (fun i j hi hj hne=>hD i j hi hj hne (hall i hi) (hall j hj));have hdl:(l.drop n).length=l.length - n:=by simp
    have:=wpAny_of_seq (P:=P) (md:=.any) (ops:=l.toArray) (Q':=Q) (l.drop n) n listed (zI l vs a n) W (fun j=>by simp [yi]) (by rw [hdl,he];exact hseq) h1
    rw [hdl] at this;rw [xA];exact this
  | succ f ih =>
    intro listed vs gs W inv hcnt hR hF hL hG hD
    have hle:∀ {i o},i < n -> l[i]?=some o -> ∀ e,e ∈ o.after -> Region.binds .any e=true -> e.on < i:=fun {i o} hin ho' e he hb=>by
     have h1:=yZ.1 hback i (xP.2 hin);simp only [ho',uT,yd,uY] at h1;have h2:=h1 e he;simpa only [hb,Bool.not_true,Bool.false_or,yS] using h2
    have adv:∀ i o v W',i ∈ Region.ready .any l.toArray listed -> i < n -> l[i]?=some o -> Keeps zA W W' -> F i v (zFv gs i (W.heap.size,W'.heap.size)) W' -> wpAny P .any l.toArray Q (f+(l.length - n)) (listed.setIfInBounds i true) ((zI l vs a n).put o.dst v) W':=by
     intro i o v W' hi hin ho' hR' hF'
     have hun:=(vE.1 hi).1;obtain ⟨_,o2,ho2,hafter⟩:=vE.1 hi;have ho2':l[i]?=some o2:=by simpa using ho2
     have e2:o2=o:=yl (ho2'.symm.trans ho');subst e2;have hd:o2.dst=(l[i]?).bind (·.dst):=by rw [ho'];rfl
     rw [hd,zBJ v n vs hin (hdis n (by omega)) (fun m hm=>hdis m (by omega))];refine ih _ _ (zFv gs i (W.heap.size,W'.heap.size)) _ (inv.set hi hin) ?_ (hR.trans hR' (fun _ _ h=>h.elim)) (fun j hj hl=>?_) (fun j hj hl b hb=>?_) (fun j hj hl=>?_) (fun i1 j1 hi1 hj1 hne hl1 hl2=>?_)
     ·exact J60 _
     ·exact J43 _
     ·by_cases eb:b=i
      ·subst eb
       by_cases hs2:b < listed.size
       ·simp [hs2]
       ·simp [hs2]
      ·rw [uH true (fun h=>eb h.symm)]
       by_cases e:j=i
       ·subst e
        have h1:=yZ.1 hDB j (xP.2 hin);simp only [ho',uT,yd,yZ] at h1;have h2:=h1 b hb;simp only [kP,yS,Array.any_eq_true',yR,List.contains_iff_mem] at h2;rcases h2 with h2 | ⟨e,he,hbe,h3⟩
        ·exact absurd h2 eb
        ·have h4:=hafter e he hbe
         have h6:=hle hin ho' e he hbe;exact J97 _
       ·rw [uH true (fun h=>e h.symm)] at hl
        exact hL j hj hl b hb
     ·by_cases e:j=i
      ·subst e;unfold zFv;rw [if_pos rfl];exact yV _
      ·rw [uH true (fun h=>e h.symm)] at hl
       unfold zFv;rw [if_neg e];exact yX (hG j hj hl) hR'.size
     ·by_cases e1:i1=i
      ·subst e1
       have e2:¬ j1=i1:=fun h=>hne h.symm
       rw [uH true hne] at hl2;unfold zFv;rw [if_pos rfl,if_neg e2];exact .inr (hG j1 hj1 hl2)
      ·rw [uH true (fun h=>e1 h.symm)] at hl1
       by_cases e2:j1=i
       ·subst e2
        unfold zFv;rw [if_pos rfl,if_neg e1];exact .inl (hG i1 hi1 hl1)
       ·rw [uH true (fun h=>e2 h.symm)] at hl2
        unfold zFv;rw [if_neg e1,if_neg e2];exact hD i1 j1 hi1 hj1 hne hl1 hl2
    rw [show f+1+(l.length - n)=(f+(l.length - n))+1 by omega];by_cases hall:∀ i,i < n -> i ≠ p -> listed.getD i true=true
    ·obtain ⟨i,hi1,hup,_⟩:=zBE n (by omega:zBe listed n ≠ 0)
     have ei:i=p:=uP fun ei=>by rw [hall i hi1 ei] at hup;cases hup
     subst ei;rcases hpB with hpB | ⟨⟨hfr,hrd⟩,hsel⟩
     ·omega
     have he:listed=zEY n (l.length - n) i:=by
      apply Array.ext
      ·rw [inv.size];simp [zEY,zm];omega
      ·intro k h1 h2
       unfold zEY;have hkl:k < l.toArray.size:=by rw [<- inv.size];exact h1
       by_cases hkp:k=i
       ·exact J62 _
       ·have hpk:¬ i=k:=fun e=>hkp e.symm
        by_cases hk:k < n
        ·have:=hall k hk hkp
         simp only [Array.getD,h1,dif_pos] at this;rw [show listed[k]=true from this];exact J58 _
        ·have:=inv.tail k (by omega) hkl
         simp only [Array.getD,h1,dif_pos] at this;rw [show listed[k]=false from this];exact J58 _
     have hrp:i ∈ Region.ready .any l.toArray listed:=by rw [he];simpa using hrd
     obtain ⟨op,hop,hQ,hy⟩:=hp hi1;obtain ⟨v,hyv,hFp⟩:=hy vs gs W hR (fun j hj hjp=>hF j hj (hall j hj hjp));have hop':l.toArray[i]?=some op:=by simpa using hop
     exact wpAny_first (P:=P) (ops:=l.toArray) (Q:=Q) (md:=.any) hop' (Region.noSelect_spec hsel) (fun c a w=>hQ c a w v) (f+(l.length - n)) listed (zI l vs a n) W (by rw [he];exact Region.free_spec hop' hfr) hrp hyv (adv i op v W hrp hi1 hop (yB _ _) hFp)
    obtain ⟨iu,hiu,hiup,hiuu⟩:∃ i,i < n /\ i ≠ p /\ listed.getD i true=false:=uP fun hno=>hall fun i hi hip=>by
     exact J112 _
    obtain ⟨i0,hi0,hu0,hb0⟩:=zBE n (by omega:zBe listed n ≠ 0)
    have hr0:i0 ∈ Region.ready .any l.toArray listed:=by
     have hil:i0 < l.length:=by omega
     rw [vE];refine ⟨hu0,l[i0],by simp [hil],fun e he hb=>?_⟩
     have h3:=hb0 e.on (hle hi0 (yM hil) e he hb);have h2:=hle hi0 (yM hil) e he hb;have h4:e.on < listed.size:=by rw [inv.size];simp;omega
     simpa [h4] using h3
    refine ⟨fun h0=>by exact J176 _,fun i hi=>?_⟩
    have hin:i < n:=by
     rcases xM i n with h | h
     ·exact h
     ·exact absurd hi (zHk hs hc (by simpa using hn) inv _ iu rfl hiup hiu hiuu i h)
    obtain ⟨_,o,ho,hafter⟩:=vE.1 hi;have ho':l[i]?=some o:=by simpa using ho
    refine zBs ho (hstep i o hin ho' vs gs W _ hR (fun e he hb=>?_) (fun v W' hR' hF'=>adv i o v W' hi hin ho' hR' hF'))
    have he:e ∈ o.after:=by simpa using he
    have h1:=hafter e he hb;have h2:=hle hin ho' e he hb;have h4:e.on < listed.size:=by rw [inv.size];simp;omega
    exact hF e.on (by omega) (by simpa [h4] using h1)
 refine wp_region_any hm ?_
 have inv0:HeadInv .any l.toArray n (Array.replicate l.toArray.size false) :=
  ⟨by simp,fun j oj _ hl=>(J179 _),fun t _ ht=>getD_in (by simpa using ht) (vQ _ _)⟩
 have hz:∀ m,m < l.length -> (Array.replicate l.toArray.size false).getD m true=false:=fun m hm=>by simp [hm]
 have hcn:∀ m,m <= l.length -> zBe (Array.replicate l.toArray.size false) m=m:=by
  intro m
  induction m with
  | zero=>intro _;rfl
  | succ m ih =>
    intro hm
    unfold zBe;rw [ih (by omega),hz m (by omega)];simp
 have hno:∀ j,j < n -> (Array.replicate l.toArray.size false).getD j true=true -> False:=fun j hj hl=>by
  rw [hz j (by omega)] at hl;cases hl
 have:=key n (Array.replicate l.toArray.size false) (slotsOf l a) (fun _=>(0,0)) w.drew inv0 (hcn n (by omega)) (yB _ _) (fun j hj hl=>(hno j hj hl).elim) (fun j hj hl=>(hno j hj hl).elim) (fun j hj hl=>(hno j hj hl).elim) (fun i j hi hj _ hl _=>(hno i hi hl).elim)
 rw [zBp l a n,show n+(l.length - n)=l.toArray.size by simp;omega] at this;exact this
end
end Go.Proofs.YtfjgcedkfnmdkaaGreatDoor
