/- Layer H: texts joined. -/
import Derived.Test.YtfjgcedkfnmdkaaGreatDoorH24
set_option linter.all false
namespace Go.Proofs.YtfjgcedkfnmdkaaGreatDoor
abbrev kR:=@zZ.zB8
abbrev kQ:=@zZ.zCF
abbrev uP:=@Int.toNat_natCast
theorem J118 (P:Prop) (h:P:=by
 rw [kR _ _ e];rcases hd with hd | ⟨_,_,_,h1,hd⟩ | hd
 ·rw [hd];exact xA _
 ·exact hbeg _ hd h1
 ·omega):P:=h
theorem J137 (P:Prop) (h:P:=by
 split
 ·split <;> exact .inl rfl
 ·exact .inl rfl):P:=h
theorem J140 (P:Prop) (h:P:=by
 rename_i h
 by_cases e:a.obj.toNat=k
 ·exact .inr ⟨.inl h,e.symm⟩
 ·exact .inl (zEU _ e)):P:=h
theorem J147 (P:Prop) (h:P:=by
 by_cases e:a.obj.toNat=k
 ·exact .inr ⟨.inr h,e.symm⟩
 ·exact .inl (zEU _ e)):P:=h
theorem J210 (P:Prop) (h:P:=by unfold zAG;rw [h2,h3];rfl):P:=h
def WFr.pot (f:WFr):Nat:=Ac.zh f.rest+Ac.zh f.all*(f.left - 1)
def zBZ:List WFr -> Nat
 | []=>0
 | f :: r=>f.pot+zBZ r
theorem zAk:(a b:List WFr) -> zBZ (a++b)=zBZ a+zBZ b
 | [],b=>by simp [zBZ]
 | x :: r,b=>by have:=zAk r b;simp only [kY,zBZ,this];omega
theorem zLY {regs regs':List Int} {fs fs':List WFr} (h:zA8 regs fs=some (regs',fs')):zBZ fs' <= zBZ fs:=by
 unfold zA8 at h;cases hl:fs.getLast? with
 | none=>rw [hl] at h;cases h
 | some f =>
   have hs:=zAe hl
   have hm:zBZ fs=zBZ fs.dropLast+f.pot:=by
    have:=vW zBZ hs
    rw [zAk] at this;simpa [zBZ] using this
   rw [hl] at h;simp only at h;cases hr:f.rest with
   | nil =>
     rw [hr] at h;simp only [yM,uC] at h;obtain ⟨_,rfl⟩:=h;split
     ·rw [zAk,hm]
      simp only [zBZ,WFr.pot,hr,Ac.zh];obtain ⟨q,hq⟩:∃ q,f.left - 1=q+1:=⟨f.left - 2,by omega⟩
      rw [hq,yg];simp only [Nat.add_sub_cancel,yh,yY,vX];omega
     ·omega
   | cons a r =>
     rw [hr] at h;have hf:f.pot=a.stp+Ac.zh r+Ac.zh f.all*(f.left - 1):=by simp only [WFr.pot,hr,Ac.zh]
     have ha:=Ac.zFD a;simp only at h;split at h
     ·simp only [yM,uC] at h
      obtain ⟨_,rfl⟩:=h;rw [zAk,hm,hf];simp only [zBZ,WFr.pot];omega
     ·rename_i h1
      rw [if_neg h1] at ha;split at h
      ·rename_i h10
       rw [if_pos h10] at ha;simp only [yM,uC] at h;obtain ⟨_,rfl⟩:=h;rw [zAk,zAk,hm,hf];simp only [zBZ,WFr.pot];split <;> omega
      ·rename_i h10
       split at h
       ·rename_i h11
        rw [if_neg h10,if_pos h11] at ha;simp only [yM,uC] at h;obtain ⟨_,rfl⟩:=h;split
        ·rename_i hc
         rw [zAk,zAk,hm,hf];simp only [zBZ,WFr.pot];obtain ⟨q,hq⟩:∃ q,a.count.toNat=q+1:=⟨a.count.toNat - 1,by omega⟩
         rw [hq] at ha ⊢;rw [yg] at ha;simp only [Nat.add_sub_cancel,yh] at ha ⊢;omega
        ·rw [zAk,hm,hf]
         simp only [zBZ,WFr.pot];omega
       ·cases h
theorem zJp (r:List Int) (fs:List WFr):zBZ (loc r fs).2 <= zBZ fs :=
 (zJL (P:=fun _ fs'=>zBZ fs' <= zBZ fs) (fun _ _ _ _ h h1=>yV (zLY h1) h) (xA _)).1
def WTh.pot (b:Bd) (t:WTh):Nat:=if t.st=1 then Ac.zh b.acts+1 else if t.st=2 then zBZ t.fs+1 else 0
def zFq (f:Nat -> Nat):Nat -> Nat
 | 0=>0
 | n+1=>zFq f n+f n
theorem zG0 {f g:Nat -> Nat}:(n:Nat) -> (∀ i,i < n -> f i <= g i) -> zFq f n <= zFq g n
 | 0,_=>xA _
 | n+1,h=>by
   have h1:=zG0 n (fun i hi=>h i (by omega));have h2:=h n (by omega);simp only [zFq];omega
theorem zJO {f g:Nat -> Nat} {k:Nat}:(n:Nat) -> k < n -> (∀ i,i < n -> f i <= g i) -> f k < g k -> zFq f n < zFq g n
 | 0,h,_,_=>absurd h (vT _)
 | n+1,hk,h,hl=>by
   have h2:=h n (by omega);simp only [zFq];by_cases e:k=n
   ·subst e
    have h1:=zG0 k (fun i hi=>h i (by omega));omega
   ·have h1:=zJO n (by omega) (fun i hi=>h i (by omega)) hl
    omega
def zBr (u:Un) (m:zZ):Nat:=zFq (fun i=>(m.get i).pot (u.body i)) m.zL.length
theorem zJd (l:List Bd):(n:Nat) -> n <= l.length -> unS (l.take n)=zFq (fun i=>Ac.zh (l.getD i ⟨0,[]⟩).acts+1) n
 | 0,_=>by simp [unS,zFq]
 | n+1,h=>by
   rw [zDW (by omega),zJd l n (by omega)];simp only [zFq,List.getD];rw [yQ (by omega)];rfl
theorem zH9 (b:Bd):(zEh b).pot b <= Ac.zh b.acts+1:=by
 have h:=zJp (List.replicate b.regs.toNat 0) [⟨b.acts,b.acts,1⟩];unfold WTh.pot zEh WTh.local;simp only
 simp only [zBZ,WFr.pot,Nat.sub_self,Nat.mul_zero] at h;simp
 omega
theorem zF6 (u:Un):(zBA u).zL=(u.threads.map fun _=>(⟨1,[],[]⟩:WTh)).set 0 (zEh (u.body 0)):=rfl
theorem zFl (u:Un):zBr u (zBA u) <= unS u.threads:=by
 have h:=zJd u.threads u.threads.length (xA _);rw [xY] at h;have hl:(zBA u).zL.length=u.threads.length:=by rw [zF6];simp
 rw [h];unfold zBr;rw [hl];refine zG0 _ (fun i hi=>?_)
 have hg:((zBA u).get i).pot (u.body i) <= Ac.zh (u.body i).acts+1:=by
  by_cases e:i=0
  ·subst e
   have:(zBA u).get 0=zEh (u.body 0):=zZ.get_eq (by rw [zF6];exact xC (by simp;omega))
   rw [this];exact zH9 _
  ·have:(zBA u).get i=⟨1,[],[]⟩:=zZ.get_eq (by rw [zF6,uF (fun h=>e h.symm)];simp [hi])
   rw [this];simp [WTh.pot]
 exact hg
theorem zNm {t:WTh} {a:Ac} {f:WFr} {r:List Ac} (h1:t.fs.getLast?=some f) (h2:f.rest=a :: r) (hk:2 <= a.kind /\ a.kind <= 9):zBZ t.on.local.fs < zBZ t.fs:=by
 have hs:=zAe h1
 have hm:zBZ t.fs=zBZ t.fs.dropLast+f.pot:=by
  have:=vW zBZ hs
  rw [zAk] at this;simpa [zBZ] using this
 have e:t.on.fs=t.fs.dropLast++[⟨r,f.all,f.left⟩]:=by unfold WTh.on;rw [h1];simp [h2]
 have h3:zBZ t.on.local.fs <= zBZ t.on.fs:=zJp _ _;have ha:=Ac.zFD a;rw [if_neg (by omega),if_neg (by omega),if_neg (by omega)] at ha;rw [e,zAk] at h3;have hf:f.pot=a.stp+Ac.zh r+Ac.zh f.all*(f.left - 1):=by simp only [WFr.pot,h2,Ac.zh]
 simp only [zBZ,WFr.pot] at h3;omega
theorem zEr {u:Un} {m:zZ} {i j:Nat} (hij:i ≠ j) (a:Ac):(doM u m i a).1.get j=m.get j \/ (a.kind=7 /\ a.obj.toNat=j /\ (doM u m i a).2.2=0 /\ (m.get j).st=1 /\ (doM u m i a).1.get j=zEh (u.body j)) \/ m.zL.length <= j:=by
 have hs:∀ (c:List Int) (o:List Int) (t:WTh),(zZ.zAR ⟨c,o,m.zL⟩ i t).get j=m.get j:=fun c o t=>kR _ _ hij
 unfold doM;simp only
 split
 ·exact .inl (hs _ _ _)
 ·split
  ·exact .inl rfl
  ·split
   ·exact .inl (hs _ _ _)
   ·split
    ·exact .inl rfl
    ·split
     ·split <;> exact .inl rfl
     ·split
      ·rename_i h7
       split
       ·rename_i q
        by_cases e:a.obj.toNat=j
        ·rw [e] at q ⊢
         by_cases hj:j < m.zL.length
         ·exact .inr (.inl ⟨h7,rfl,rfl,q,kQ _ _ _ hj⟩)
         ·exact .inr (.inr (by omega))
        ·exact .inl (kR _ _ e)
       ·exact .inl rfl
      ·exact J137 _
theorem zKQ {u:Un} (hr:zU u=true) {m:zZ} (h:m.ok u) {i:Nat} (hi:i < m.zL.length) (h2:(m.get i).st=2):zBr u (zAC u m i).1 < zBr u m:=by
 have hlen:=(zFo hr h hi h2).2;obtain ⟨b,hb,hok,hbe⟩:=h.th hi;unfold zBr;rw [hlen]
 have hself:((zAC u m i).1.get i).pot (u.body i) < (m.get i).pot (u.body i):=by
  have hp:(m.get i).pot (u.body i)=zBZ (m.get i).fs+1:=by unfold WTh.pot;rw [h2];rfl
  rw [hp];unfold zAC;cases hn:(m.get i).next with
  | none =>
    simp only
    rw [kQ _ _ _ hi];unfold WTh.pot;simp
  | some a =>
    obtain ⟨s1,s2⟩:=zDc (u:=u) hi h2 a;have hi':i < (doM u m i a).1.zL.length:=by rw [(zFs hr h hi a).2];exact hi
    simp only
    split
    ·rw [kQ _ _ _ hi']
     unfold WTh.pot;simp
    ·rw [kQ _ _ _ hi']
     obtain ⟨h3,h4⟩ | ⟨a',f,r,h3,h4,h5,h6,h7⟩:=zCW (hok.2.2 h2) (hok.2.1 (by rw [h2];decide)).2
     ·rw [h3] at hn;cases hn
     ·rw [hn] at h3;cases h3
      have hst:((doM u m i a).1.get i).on.local.st=2:=by
       show ((doM u m i a).1.get i).on.st=2
       unfold WTh.on;split <;> exact s1
      have h8:=zNm (t:=(doM u m i a).1.get i) (by rw [s2];exact h4) h5 h7;unfold WTh.pot;rw [hst];simp only [Int.reduceEq,if_false,if_true];rw [s2] at h8;omega
 refine zJO _ hi (fun j hj=>?_) hself
 by_cases e:i=j
 ·subst e;exact Nat.le_of_lt hself
 have hbeg:∀ t:WTh,t=zEh (u.body j) -> (m.get j).st=1 -> t.pot (u.body j) <= (m.get j).pot (u.body j):=fun t ht h1=>by
  rw [ht];refine yV (zH9 _) ?_
  unfold WTh.pot;rw [h1];simp
 show ((zAC u m i).1.get j).pot (u.body j) <= (m.get j).pot (u.body j)
 unfold zAC;cases hn:(m.get i).next with
 | none=>simp only;rw [kR _ _ e];exact xA _
 | some a =>
   simp only
   have hd:=zEr (u:=u) (m:=m) e a;split
   ·exact J118 _
   ·exact J118 _
theorem zZ.ok.run {u:Un} {m:zZ} (h:m.ok u) {i:Int} (h0:zBM m i=0):0 <= i /\ i.toNat < m.zL.length /\ (m.get i.toNat).st=2:=by
 obtain ⟨h1,h2,h3,h4,h5,_⟩:=zEp h0;have hi:i.toNat < m.zL.length:=by omega
 obtain ⟨b,_,hok,_⟩:=h.th hi;exact ⟨h1,hi,by exact J244 _⟩
theorem zGj {u:Un} (hr:zU u=true) {m:zZ} (h:m.ok u) {i:Int} (h0:zBM m i=0):zBr u (stepM u m i).1 < zBr u m:=by
 obtain ⟨h1,hi,h2⟩:=h.run h0;unfold stepM;rw [if_pos h0];exact zKQ hr h hi h2
theorem zGk {u:Un} {m:zZ} (h:m.ok u) {i:Int} (hi:i ∈ zAl m):zBM m i=0:=by
 unfold zAl at hi;obtain ⟨k,hk,rfl⟩:=List.mem_map.1 hi;obtain ⟨hk1,hk2⟩:=List.mem_filter.1 hk;have hlt:=xU.1 hk1;obtain ⟨b,_,hok,_⟩:=h.th hlt
 have h2:(m.get k).st=2:=by
  refine uV fun hn=>?_
  have:zAT m k=false:=by unfold zAT zAG;simp [hn]
  rw [this] at hk2;cases hk2
 unfold zBM;rw [if_neg (by omega)];simp [h2,hk2]
theorem zMu {m m':zZ} {i:Nat} (h:m'.get i=m.get i):zAG m' i=zAG m i:=by unfold zAG;rw [h]
structure Apart (m m':zZ) (x:Evt):Prop where
 nc:m.cells.length=m'.cells.length
 no:m.owners.length=m'.owners.length
 nt:m.zL.length=m'.zL.length
 cells:∀ k,k < m.cells.length -> m.cells.getD k 0=m'.cells.getD k 0 \/ ((x.kind=2 \/ x.kind=3) /\ (k:Int)=x.obj)
 owners:∀ k,k < m.owners.length -> m.owners.getD k 0=m'.owners.getD k 0 \/ ((x.kind=4 \/ x.kind=5) /\ (k:Int)=x.obj)
 zL:∀ k,k < m.zL.length -> ((m.get k).st=(m'.get k).st /\ zAG m k=zAG m' k) \/ (k:Int)=x.thread \/ (x.kind=6 /\ x.bad=0 /\ (k:Int)=x.obj)
theorem zEU {l:List Int} {k j:Nat} (v:Int) (h:k ≠ j):(l.set k v).getD j 0=l.getD j 0:=by rw [List.getD,List.getD,uF h]
theorem zKi {u:Un} {m:zZ} {i:Nat} (a:Ac) (k:Nat):(doM u m i a).1.cells.getD k 0=m.cells.getD k 0 \/ ((a.kind=3 \/ a.kind=4) /\ k=a.obj.toNat):=by
 unfold doM;simp only
 split
 ·exact .inl rfl
 ·split
  ·exact J140 _
  ·split
   ·rename_i h
    exact J147 _
   ·split
    ·exact .inl rfl
    ·split
     ·split <;> exact .inl rfl
     ·split
      ·split <;> exact .inl rfl
      ·exact J137 _
theorem zJE {u:Un} {m:zZ} {i:Nat} (a:Ac) (k:Nat):(doM u m i a).1.owners.getD k 0=m.owners.getD k 0 \/ ((a.kind=5 \/ a.kind=6) /\ k=a.obj.toNat):=by
 unfold doM;simp only
 split
 ·exact .inl rfl
 ·split
  ·exact .inl rfl
  ·split
   ·exact .inl rfl
   ·split
    ·exact J140 _
    ·split
     ·rename_i h
      split
      ·exact J147 _
      ·exact .inl rfl
     ·split
      ·split <;> exact .inl rfl
      ·exact J137 _
theorem zHY {u:Un} (hr:zU u=true) {m:zZ} (h:m.ok u) {i:Int} (h0:zBM m i=0):Apart m (stepM u m i).1 (stepM u m i).2.1 /\ (stepM u m i).2.1.thread=i:=by
 obtain ⟨h1,hi,h2⟩:=h.run h0;obtain ⟨k,rfl⟩:∃ k:Nat,i=k:=⟨i.toNat,by omega⟩
 rw [uP] at hi h2;obtain ⟨b,hb,hok,hbe⟩:=h.th hi;have g:=(zF9 hr h (k:Int)).1;have hth:∀ (m':zZ) (j:Nat),(m.get j=m'.get j) -> ((m.get j).st=(m'.get j).st /\ zAG m j=zAG m' j):=fun m' j e=>⟨by rw [e],(zMu e.symm).symm⟩
 have hcl:m.cells.length=(stepM u m k).1.cells.length:=by rw [h.cells,g.cells]
 have hol:m.owners.length=(stepM u m k).1.owners.length:=by rw [h.owners,g.owners]
 have htl:m.zL.length=(stepM u m k).1.zL.length:=by rw [h.zL,g.zL]
 have hx:(stepM u m k)=((zAC u m k).1,(zAC u m k).2,0):=by unfold stepM;rw [if_pos h0,uP]
 have key:(zAC u m k).2.thread=(k:Int) /\ (∀ j,m.cells.getD j 0=(zAC u m k).1.cells.getD j 0 \/ (((zAC u m k).2.kind=2 \/ (zAC u m k).2.kind=3) /\ (j:Int)=(zAC u m k).2.obj)) ∧
  (∀ j,m.owners.getD j 0=(zAC u m k).1.owners.getD j 0 \/ (((zAC u m k).2.kind=4 \/ (zAC u m k).2.kind=5) /\ (j:Int)=(zAC u m k).2.obj)) ∧
  (∀ j,j < m.zL.length -> m.get j=(zAC u m k).1.get j \/ j=k \/ ((zAC u m k).2.kind=6 /\ (zAC u m k).2.bad=0 /\ (j:Int)=(zAC u m k).2.obj)):=by
  unfold zAC;rcases zCW (hok.2.2 h2) (hok.2.1 (by rw [h2];decide)).2 with ⟨h3,_⟩ | ⟨a,f,r,h3,h4,h5,h6,h7⟩
  ·rw [h3]
   refine ⟨rfl,fun j=>.inl rfl,fun j=>.inl rfl,fun j hj=>?_⟩
   by_cases e:k=j
   ·exact .inr (.inl e.symm)
   ·exact .inl (kR _ _ e).symm
  ·have e:zAG m k=(a.kind - 1,a.obj):=J210 _
   have hob:∀ j:Nat,j=a.obj.toNat -> 2 <= a.kind /\ a.kind <= 8 -> (j:Int)=a.obj:=fun j e1 e2=>by have:=(Ac.zFX h6 e2).1;omega
   rw [h3];simp only
   have hot:∀ (x:WTh) (j:Nat),j < m.zL.length -> m.get j=((doM u m k a).1.zAR k x).get j \/ j=k \/ (a.kind - 1=6 /\ (doM u m k a).2.2=0 /\ (j:Int)=a.obj):=fun x j hj=>by
    by_cases e:k=j
    ·exact .inr (.inl e.symm)
    ·rw [kR _ _ e]
     rcases zEr (u:=u) (m:=m) e a with hd | ⟨q1,q2,q3,_,_⟩ | hd
     ·exact .inl hd.symm
     ·exact .inr (.inr ⟨by omega,q3,hob j q2.symm (by omega)⟩)
     ·omega
   have hce:∀ j,m.cells.getD j 0=(doM u m k a).1.cells.getD j 0 \/ ((a.kind - 1=2 \/ a.kind - 1=3) /\ (j:Int)=a.obj):=fun j=>by
    rcases zKi (u:=u) (m:=m) (i:=k) a j with q | ⟨q1,q2⟩
    ·exact .inl q.symm
    ·exact .inr ⟨by omega,hob j q2 (by omega)⟩
   have how:∀ j,m.owners.getD j 0=(doM u m k a).1.owners.getD j 0 \/ ((a.kind - 1=4 \/ a.kind - 1=5) /\ (j:Int)=a.obj):=fun j=>by
    rcases zJE (u:=u) (m:=m) (i:=k) a j with q | ⟨q1,q2⟩
    ·exact .inl q.symm
    ·exact .inr ⟨by omega,hob j q2 (by omega)⟩
   split
   ·rename_i hbad
    refine ⟨rfl,by rw [e];exact hce,by rw [e];exact how,fun j hj=>?_⟩
    rw [e];rcases hot _ j hj with q | q | ⟨_,q,_⟩
    ·exact .inl q
    ·exact .inr (.inl q)
    ·exact absurd q hbad
   ·rename_i hbad
    refine ⟨rfl,by rw [e];exact hce,by rw [e];exact how,fun j hj=>?_⟩
    rw [e];rcases hot _ j hj with q | q | ⟨q1,_,q2⟩
    ·exact .inl q
    ·exact .inr (.inl q)
    ·exact .inr (.inr ⟨q1,rfl,q2⟩)
 rw [hx] at hcl hol htl ⊢;obtain ⟨k1,k2,k3,k4⟩:=key;refine ⟨⟨hcl,hol,htl,fun j _=>k2 j,fun j _=>k3 j,fun j hj=>?_⟩,k1⟩
 rcases k4 j hj with q | q | q
 ·exact .inl (hth _ j q)
 ·exact .inr (.inl (by rw [k1,q]))
 ·exact .inr (.inr q)
def zZ.idle (m:zZ):Prop:=∀ j,j < m.zL.length -> (m.get j).st=1 -> (m.get j).fs=[]
theorem zKe {u:Un} (hr:zU u=true):(zBA u).idle:=by
 intro j hj h1
 have hb:=(zHQ hr).zL;by_cases h0:j=0
 ·subst h0
  have h8:0 < u.threads.length:=by have:=(zAh hr).1;omega
  have e:(zBA u).get 0=zEh (u.body 0):=by unfold zBA zEJ;exact kQ _ _ _ (by simpa using h8)
  rw [e] at h1;unfold zEh at h1;cases h1
 ·have e:(zBA u).get j=(⟨1,[],[]⟩:WTh):=by
   unfold zBA zEJ;rw [kR _ _ (fun h=>h0 h.symm)];have hj':j < u.threads.length:=by rw [<- hb];exact hj
   simp [zZ.get,List.getD,hj']
  rw [e]
theorem zI4 {u:Un} (hr:zU u=true) {m:zZ} (h:m.ok u) (hi:m.idle) (i:Int):(stepM u m i).1.idle:=by
 unfold stepM;by_cases h0:zBM m i=0
 ·rw [if_pos h0]
  obtain ⟨_,hl,h2⟩:=h.run h0;generalize i.toNat=k at hl h2;have hlen:=(zFo hr h hl h2).2;intro j hj h1
  rw [hlen] at hj;show ((zAC u m k).1.get j).fs=[]
  replace h1:((zAC u m k).1.get j).st=1:=h1
  have key:∀ (m1:zZ) (t:WTh),m1.zL.length=m.zL.length -> t.st ≠ 1 -> (∀ q,q ≠ k -> q < m.zL.length -> (m1.get q).st=1 -> (m1.get q).fs=[]) -> ((m1.zAR k t).get j).st=1 -> ((m1.zAR k t).get j).fs=[]:=by
   intro m1 t hl1 ht ho h1
   by_cases e:j=k
   ·subst e
    rw [kQ _ _ _ (by rw [hl1];exact hl)] at h1;exact absurd h1 ht
   ·rw [kR _ _ (fun h=>e h.symm)] at h1 ⊢
    exact ho j e hj h1
  revert h1
  unfold zAC;cases hn:(m.get k).next with
  | none =>
    simp only
    exact key m _ rfl (by show (3:Int) ≠ 1;decide) (fun q _ hq=>hi q hq)
  | some a =>
    simp only
    have hd:=(zFs hr h hl a).2;have hs:=(zDc (u:=u) hl h2 a).1
    have ho:∀ q,q ≠ k -> q < m.zL.length -> ((doM u m k a).1.get q).st=1 -> ((doM u m k a).1.get q).fs=[]:=fun q hq hlq hq1=>by
     rcases zEr (u:=u) (m:=m) (fun e=>hq e.symm) a with e | ⟨_,_,_,_,e⟩ | e
     ·rw [e] at hq1 ⊢;exact hi q hlq hq1
     ·rw [e] at hq1;unfold zEh at hq1;cases hq1
     ·omega
    split
    ·exact key _ _ hd (by show (4:Int) ≠ 1;decide) ho
    ·refine key _ _ hd ?_ ho
     have e:((doM u m k a).1.get k).on.local.st=2:=by
      unfold WTh.local WTh.on;split <;> exact hs
     rw [e];decide
 ·rw [if_neg h0];exact hi
structure zOQ where
 t:Int
 c:Int
 e:Evt
def plN (u:Un):zZ -> List Int -> List zOQ × zZ
 | m,[]=>([],m)
 | m,t :: r=>(⟨t,(stepM u m t).2.2,(stepM u m t).2.1⟩ :: (plN u (stepM u m t).1 r).1,(plN u (stepM u m t).1 r).2)
def chN (ch:List Int) (k n:Nat):Nat:=if k < ch.length then (ch.getD k 0 % (n:Int)).toNat else 0
theorem zG2 (ch:List Int) (k:Nat) {n:Nat} (h:0 < n):chN ch k n < n:=by
 unfold chN;split
 ·have h1:=Int.emod_nonneg (ch.getD k 0) (b:=(n:Int)) (by omega)
  have h2:=Int.emod_lt_of_pos (ch.getD k 0) (b:=(n:Int)) (by omega);omega
 ·exact h
def whT (ch:List Int) (k:Nat) (m:zZ):Int:=(zAl m).getD (chN ch k (zAl m).length) 0
def whN (u:Un) (ch:List Int):Nat -> Nat -> zZ -> List Evt × zZ
 | 0,_,m=>([],m)
 | f+1,k,m=>if zAl m=[] then ([],m) else ((stepM u m (whT ch k m)).2.1 :: (whN u ch f (k+1) (stepM u m (whT ch k m)).1).1,(whN u ch f (k+1) (stepM u m (whT ch k m)).1).2)
theorem zJM (ch:List Int) (k:Nat) {m:zZ} (h:zAl m ≠ []):whT ch k m ∈ zAl m:=by
 unfold whT
 have hl:0 < (zAl m).length:=by cases hm:zAl m with
  | nil=>exact absurd hm h
  | cons=>simp
 have:=zG2 ch k hl
 simp [List.getD,this]
theorem zFZ {u:Un} (hr:zU u=true) (ch:List Int) {f k:Nat} {m:zZ} (hm:m.ok u) (he:zAl m ≠ []) (hf:zBr u m <= f) :
 ∃ f',whN u ch f k m=((stepM u m (whT ch k m)).2.1 :: (whN u ch f' (k+1) (stepM u m (whT ch k m)).1).1,(whN u ch f' (k+1) (stepM u m (whT ch k m)).1).2) /\ zBr u (stepM u m (whT ch k m)).1 <= f' /\ zBr u (stepM u m (whT ch k m)).1 < zBr u m /\ zBM m (whT ch k m)=0:=by
 have h0:=zGk hm (zJM ch k he);have hp:=zGj hr hm h0;cases f with
 | zero=>omega
 | succ f=>exact ⟨f,by rw [whN,if_neg he],by omega,hp,h0⟩
theorem zFY {u:Un} (hr:zU u=true) (ch:List Int) {f k:Nat} {m:zZ} (he:zAl m=[]):whN u ch f k m=([],m):=by
 cases f with
 | zero=>rfl
 | succ f=>rw [whN,if_pos he]
def whole (u:Un) (ch:List Int):List Evt × zZ:=whN u ch (zBr u (zBA u)) 0 (zBA u)
theorem zMS {u:Un} (hr:zU u=true) (ch:List Int):∀ (f k:Nat) (m:zZ),m.ok u -> zBr u m <= f →
 (whN u ch f k m).1.length <= zBr u m /\ (whN u ch f k m).2.ok u /\ zAl (whN u ch f k m).2=[] /\ plN u m ((whN u ch f k m).1.map Evt.thread)=((whN u ch f k m).1.map fun x=>⟨x.thread,0,x⟩,(whN u ch f k m).2):=by
 intro f
 induction f with
 | zero =>
   intro k m hm hf
   by_cases he:zAl m=[]
   ·rw [zFY hr ch he]
    exact ⟨yJ _,hm,he,rfl⟩
   ·obtain ⟨f',_,_,h,_⟩:=zFZ hr ch (k:=k) hm he hf
    omega
 | succ f ih =>
   intro k m hm hf
   by_cases he:zAl m=[]
   ·rw [zFY hr ch he]
    exact ⟨yJ _,hm,he,rfl⟩
   ·have h0:=zGk hm (zJM ch k he)
    have hp:=zGj hr hm h0;have ho:=(zF9 hr hm (whT ch k m)).1;obtain ⟨q1,q2,q3,q4⟩:=ih (k+1) _ ho (by omega);have e:whN u ch (f+1) k m=((stepM u m (whT ch k m)).2.1 :: (whN u ch f (k+1) (stepM u m (whT ch k m)).1).1,(whN u ch f (k+1) (stepM u m (whT ch k m)).1).2):=by rw [whN,if_neg he]
    have ht:(stepM u m (whT ch k m)).2.1.thread=whT ch k m:=(zHY hr hm h0).2;have hc:(stepM u m (whT ch k m)).2.2=0:=by unfold stepM;rw [if_pos h0]
    rw [e];refine ⟨by simp only [xZ];omega,q2,q3,?_⟩
    simp only [uX,plN,ht,hc,q4]
end Go.Proofs.YtfjgcedkfnmdkaaGreatDoor
namespace Go.Proofs.YtfjgcedkfnmdkaaGreatDoor
open Go.RowKit
def zFf (gs:Nat -> Nat × Nat) (i:Nat) (p:Nat × Nat) (j:Nat):Nat × Nat:=if j=i then p else gs j
def zEn (md:Region.Mode) (l:List Oper) (n:Nat) (D:Nat -> List Nat):Bool :=
 (List.range n).all fun i=>((l[i]?).map fun o=>(D i).all fun a=>decide (a=i) || o.after.any fun e=>Region.binds md e&&(D e.on).contains a).getD true
def zLy (md:Region.Mode) (ops:Array Oper) (n p:Nat):Bool :=
 (List.range n).all fun i=>decide (i=p) || (List.range (n+1)).any fun j=>decide (i < j)&&decide (j ≠ p)&&Region.waitsFor md ops j i
theorem zH5 {md:Region.Mode} {ops:Array Oper} {n p:Nat} {listed:Array Bool} (hs:zLy md ops n p=true) (hc:Region.chainB md ops n=true) (hn:n < ops.size) (inv:HeadInv md ops n listed) :
 ∀ (d i:Nat),n - i=d -> i ≠ p -> i < n -> listed.getD i true=false -> ∀ t,n <= t -> t ∉ Region.ready md ops listed:=by
 intro d
 induction d using Nat.strongRecOn with
 | _ d ih =>
   intro i hd hip hi hun t ht hr
   obtain ⟨_,ot,hot,hall⟩:=vE.1 hr;have htlt:t < ops.size:=(Array.getElem?_eq_some_iff.1 hot).1;by_cases htn:t=n
   ·exact J24 _
   ·exact J27 _
def zEk (n g p:Nat):Array Bool:=(zn n g).setIfInBounds p false
def zIG (md:Region.Mode) (l:List Oper) (n p:Nat):Bool :=
 decide (n < l.length)&&zLy md l.toArray n p&&Region.chainB md l.toArray n&&zJe md l n&&((List.range (n+1)).all fun m=>zB7 l m)&&Region.seqB md l.toArray (l.length - n) n (zn n (l.length - n)) &&
  (decide (n <= p) || (Region.free md l.toArray (zEk n (l.length - n) p) p&&(Region.ready md l.toArray (zEk n (l.length - n) p)).contains p&&Region.noSelect l.toArray))
section
variable {P:Program}
theorem zMZ {id:Nat} {Q:Exit -> Act -> World -> Prop} {a:Act} {w:World} {l:List Oper} (n p:Nat) (hm:P.follows .mixedOrders=true) (hB:zIG .any l n p=true) (D:Nat -> List Nat) (hDB:zEn .any l n D=true)
 (F:Nat -> Value -> (Nat -> Nat × Nat) -> World -> Prop) (hst:∀ j v gs W W',F j v gs W -> Keeps zA W W' -> F j v gs W') (hloc:∀ j v gs gs' W,(∀ a,a ∈ D j -> gs a=gs' a) -> F j v gs W -> F j v gs' W)
 (hp:p < n -> ∃ op,l[p]?=some op /\ (∀ c a w v,Q (.panic c) (a.put op.dst v) w -> Q (.panic c) a w) /\ ∀ (vs:Nat -> Value) gs W,Keeps zA w.drew W -> (∀ j,j < n -> j ≠ p -> F j (vs j) gs W) -> ∃ v,Yields P l.toArray op v (zJ l vs a n) /\ F p v (zFf gs p (W.heap.size,W.heap.size)) W)
 (hstep:∀ i o,i < n -> l[i]?=some o -> ∀ (vs:Nat -> Value) (gs:Nat -> Nat × Nat) (W:World) (Q':Exit -> Act -> World -> Prop),Keeps zA w.drew W -> (∀ e,e ∈ o.after.toList -> Region.binds .any e=true -> F e.on (vs e.on) gs W) →
   (∀ v W',Keeps zA W W' -> F i v (zFf gs i (W.heap.size,W'.heap.size)) W' -> Q' .normal ((zJ l vs a n).put o.dst v) W') -> wpList P l.toArray Q' [o] (zJ l vs a n) W)
 (htail:∀ (vs:Nat -> Value) (gs:Nat -> Nat × Nat) (W:World),Keeps zA w.drew W -> (∀ j,j < n -> F j (vs j) gs W) -> (∀ j,j < n -> (gs j).2 <= W.heap.size) -> (∀ i j,i < n -> j < n -> i ≠ j -> (gs i).2 <= (gs j).1 \/ (gs j).2 <= (gs i).1) -> wpList P l.toArray Q (l.drop n) (zJ l vs a n) W):(Code.region id l.toArray true).wp P Q a w:=by
 simp only [zIG,yT,kM,yU,xG,xU] at hB;obtain ⟨⟨⟨⟨⟨⟨hn,hs⟩,hc⟩,hback⟩,hdis⟩,hseq⟩,hpB⟩:=hB
 have key:∀ (f:Nat) (listed:Array Bool) (vs:Nat -> Value) (gs:Nat -> Nat × Nat) (W:World),HeadInv .any l.toArray n listed -> zBj listed n=f -> Keeps zA w.drew W -> (∀ j,j < n -> listed.getD j true=true -> F j (vs j) gs W) -> (∀ j,j < n -> listed.getD j true=true -> ∀ a,a ∈ D j -> listed.getD a true=true) -> (∀ j,j < n -> listed.getD j true=true -> (gs j).2 <= W.heap.size) -> (∀ i j,i < n -> j < n -> i ≠ j -> listed.getD i true=true -> listed.getD j true=true -> (gs i).2 <= (gs j).1 \/ (gs j).2 <= (gs i).1) →
  wpAny P .any l.toArray Q (f+(l.length - n)) listed (zJ l vs a n) W:=by
  intro f
  induction f with
  | zero =>
    intro listed vs gs W inv hcnt hR hF hL hG hD
    have hall:=zB2 n hcnt
    have he:listed=zn n (l.length - n):=by
     exact J9 _
    have h1:=htail vs gs W hR (fun j hj=>hF j hj (hall j hj)) (fun j hj=>hG j hj (hall j hj)) (fun i j hi hj hne=>hD i j hi hj hne (hall i hi) (hall j hj));have hdl:(l.drop n).length=l.length - n:=by simp
    have:=wpAny_of_seq (P:=P) (md:=.any) (ops:=l.toArray) (Q':=Q) (l.drop n) n listed (zJ l vs a n) W (fun j=>by simp [yj]) (by rw [hdl,he];exact hseq) h1
    rw [hdl] at this;rw [yY];exact this
  | succ f ih =>
    intro listed vs gs W inv hcnt hR hF hL hG hD
    have hle:∀ {i o},i < n -> l[i]?=some o -> ∀ e,e ∈ o.after -> Region.binds .any e=true -> e.on < i:=fun {i o} hin ho' e he hb=>by
     have h1:=xG.1 hback i (xU.2 hin);simp only [ho',vU,kZ,vB] at h1;have h2:=h1 e he;simpa only [hb,Bool.not_true,Bool.false_or,yU] using h2
    have adv:∀ i o v W',i ∈ Region.ready .any l.toArray listed -> i < n -> l[i]?=some o -> Keeps zA W W' -> F i v (zFf gs i (W.heap.size,W'.heap.size)) W' -> wpAny P .any l.toArray Q (f+(l.length - n)) (listed.setIfInBounds i true) ((zJ l vs a n).put o.dst v) W':=by
     intro i o v W' hi hin ho' hR' hF'
     have hun:=(vE.1 hi).1;obtain ⟨_,o2,ho2,hafter⟩:=vE.1 hi;have ho2':l[i]?=some o2:=by simpa using ho2
     have e2:o2=o:=yo (ho2'.symm.trans ho');subst e2;have hd:o2.dst=(l[i]?).bind (·.dst):=by rw [ho'];rfl
     rw [hd,zBT v n vs hin (hdis n (by omega)) (fun m hm=>hdis m (by omega))];refine ih _ _ (zFf gs i (W.heap.size,W'.heap.size)) _ (inv.set hi hin) ?_ (hR.trans hR' (fun _ _ h=>h.elim)) (fun j hj hl=>?_) (fun j hj hl b hb=>?_) (fun j hj hl=>?_) (fun i1 j1 hi1 hj1 hne hl1 hl2=>?_)
     ·exact J78 _
     ·exact J57 _
     ·by_cases eb:b=i
      ·subst eb
       by_cases hs2:b < listed.size
       ·simp [hs2]
       ·simp [hs2]
      ·rw [uK true (fun h=>eb h.symm)]
       by_cases e:j=i
       ·subst e
        have h1:=xG.1 hDB j (xU.2 hin);simp only [ho',vU,kZ,xG] at h1;have h2:=h1 b hb;simp only [kM,yU,Array.any_eq_true',yT,List.contains_iff_mem] at h2;rcases h2 with h2 | ⟨e,he,hbe,h3⟩
        ·exact absurd h2 eb
        ·have h4:=hafter e he hbe
         have h6:=hle hin ho' e he hbe;exact J127 _
       ·rw [uK true (fun h=>e h.symm)] at hl
        exact hL j hj hl b hb
     ·by_cases e:j=i
      ·subst e;unfold zFf;rw [if_pos rfl];exact xA _
      ·rw [uK true (fun h=>e h.symm)] at hl
       unfold zFf;rw [if_neg e];exact yV (hG j hj hl) hR'.size
     ·by_cases e1:i1=i
      ·subst e1
       have e2:¬ j1=i1:=fun h=>hne h.symm
       rw [uK true hne] at hl2;unfold zFf;rw [if_pos rfl,if_neg e2];exact .inr (hG j1 hj1 hl2)
      ·rw [uK true (fun h=>e1 h.symm)] at hl1
       by_cases e2:j1=i
       ·subst e2
        unfold zFf;rw [if_pos rfl,if_neg e1];exact .inl (hG i1 hi1 hl1)
       ·rw [uK true (fun h=>e2 h.symm)] at hl2
        unfold zFf;rw [if_neg e1,if_neg e2];exact hD i1 j1 hi1 hj1 hne hl1 hl2
    rw [show f+1+(l.length - n)=(f+(l.length - n))+1 by omega];by_cases hall:∀ i,i < n -> i ≠ p -> listed.getD i true=true
    ·obtain ⟨i,hi1,hup,_⟩:=zBP n (by omega:zBj listed n ≠ 0)
     have ei:i=p:=uV fun ei=>by rw [hall i hi1 ei] at hup;cases hup
     subst ei;rcases hpB with hpB | ⟨⟨hfr,hrd⟩,hsel⟩
     ·omega
     have he:listed=zEk n (l.length - n) i:=by
      apply Array.ext
      ·rw [inv.size];simp [zEk,zn];omega
      ·intro k h1 h2
       unfold zEk;have hkl:k < l.toArray.size:=by rw [<- inv.size];exact h1
       by_cases hkp:k=i
       ·exact J80 _
       ·have hpk:¬ i=k:=fun e=>hkp e.symm
        by_cases hk:k < n
        ·have:=hall k hk hkp
         simp only [Array.getD,h1,dif_pos] at this;rw [show listed[k]=true from this];exact J75 _
        ·have:=inv.tail k (by omega) hkl
         simp only [Array.getD,h1,dif_pos] at this;rw [show listed[k]=false from this];exact J75 _
     have hrp:i ∈ Region.ready .any l.toArray listed:=by rw [he];simpa using hrd
     obtain ⟨op,hop,hQ,hy⟩:=hp hi1;obtain ⟨v,hyv,hFp⟩:=hy vs gs W hR (fun j hj hjp=>hF j hj (hall j hj hjp));have hop':l.toArray[i]?=some op:=by simpa using hop
     exact wpAny_first (P:=P) (ops:=l.toArray) (Q:=Q) (md:=.any) hop' (Region.noSelect_spec hsel) (fun c a w=>hQ c a w v) (f+(l.length - n)) listed (zJ l vs a n) W (by rw [he];exact Region.free_spec hop' hfr) hrp hyv (adv i op v W hrp hi1 hop (yC _ _) hFp)
    obtain ⟨iu,hiu,hiup,hiuu⟩:∃ i,i < n /\ i ≠ p /\ listed.getD i true=false:=uV fun hno=>hall fun i hi hip=>by
     exact J148 _
    obtain ⟨i0,hi0,hu0,hb0⟩:=zBP n (by omega:zBj listed n ≠ 0)
    have hr0:i0 ∈ Region.ready .any l.toArray listed:=by
     have hil:i0 < l.length:=by omega
     rw [vE];refine ⟨hu0,l[i0],by simp [hil],fun e he hb=>?_⟩
     have h3:=hb0 e.on (hle hi0 (yQ hil) e he hb);have h2:=hle hi0 (yQ hil) e he hb;have h4:e.on < listed.size:=by rw [inv.size];simp;omega
     simpa [h4] using h3
    refine ⟨fun h0=>by exact J216 _,fun i hi=>?_⟩
    have hin:i < n:=by
     rcases xS i n with h | h
     ·exact h
     ·exact absurd hi (zH5 hs hc (by simpa using hn) inv _ iu rfl hiup hiu hiuu i h)
    obtain ⟨_,o,ho,hafter⟩:=vE.1 hi;have ho':l[i]?=some o:=by simpa using ho
    refine zBt ho (hstep i o hin ho' vs gs W _ hR (fun e he hb=>?_) (fun v W' hR' hF'=>adv i o v W' hi hin ho' hR' hF'))
    have he:e ∈ o.after:=by simpa using he
    have h1:=hafter e he hb;have h2:=hle hin ho' e he hb;have h4:e.on < listed.size:=by rw [inv.size];simp;omega
    exact hF e.on (by omega) (by simpa [h4] using h1)
 refine wp_region_any hm ?_
 have inv0:HeadInv .any l.toArray n (Array.replicate l.toArray.size false) :=
  ⟨by simp,fun j oj _ hl=>(J218 _),fun t _ ht=>getD_in (by simpa using ht) (vO _ _)⟩
 have hz:∀ m,m < l.length -> (Array.replicate l.toArray.size false).getD m true=false:=fun m hm=>by simp [hm]
 have hcn:∀ m,m <= l.length -> zBj (Array.replicate l.toArray.size false) m=m:=by
  intro m
  induction m with
  | zero=>intro _;rfl
  | succ m ih =>
    intro hm
    unfold zBj;rw [ih (by omega),hz m (by omega)];simp
 have hno:∀ j,j < n -> (Array.replicate l.toArray.size false).getD j true=true -> False:=fun j hj hl=>by
  rw [hz j (by omega)] at hl;cases hl
 have:=key n (Array.replicate l.toArray.size false) (slotsOf l a) (fun _=>(0,0)) w.drew inv0 (hcn n (by omega)) (yC _ _) (fun j hj hl=>(hno j hj hl).elim) (fun j hj hl=>(hno j hj hl).elim) (fun j hj hl=>(hno j hj hl).elim) (fun i j hi hj _ hl _=>(hno i hi hl).elim)
 rw [zBq l a n,show n+(l.length - n)=l.toArray.size by simp;omega] at this;exact this
end
end Go.Proofs.YtfjgcedkfnmdkaaGreatDoor
