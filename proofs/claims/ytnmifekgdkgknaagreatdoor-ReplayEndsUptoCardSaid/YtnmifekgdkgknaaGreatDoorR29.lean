/- Layer R: texts joined. -/
import Derived.Test.YtnmifekgdkgknaaGreatDoorR27
import Derived.Test.YtnmifekgdkgknaaGreatDoorR28
import Derived.Test.YtnmifekgdkgknaaGreatDoorR01
import Derived.Test.YtnmifekgdkgknaaGreatDoorR02
import Derived.Test.YtnmifekgdkgknaaGreatDoorR06
import Derived.Test.YtnmifekgdkgknaaGreatDoorR04
import Derived.Test.YtnmifekgdkgknaaGreatDoorR17
set_option linter.unusedVariables false
set_option linter.unusedSimpArgs false
set_option linter.unnecessarySimpa false
namespace Go.Proofs.YtnmifekgdkgknaaGreatDoor
def WFr.pot (f:WFr):Nat:=Ac.stpL f.rest+Ac.stpL f.all*(f.left - 1)
def potL:List WFr -> Nat
 | []=>0
 | f :: r=>f.pot+potL r
theorem potL_append:(a b:List WFr) -> potL (a++b)=potL a+potL b
 | [],b=>by simp [potL]
 | x :: r,b=>by have:=potL_append r b;simp only [List.cons_append,potL,this];omega
theorem loc1_pot {regs regs':List Int} {fs fs':List WFr} (h:loc1 regs fs=some (regs',fs')):potL fs' <= potL fs:=by
 unfold loc1 at h;cases hl:fs.getLast? with
 | none=>rw [hl] at h;cases h
 | some f =>
   have hs:=last_split hl
   have hm:potL fs=potL fs.dropLast+f.pot:=by
    have:=congrArg potL hs
    rw [potL_append] at this;simpa [potL] using this
   rw [hl] at h;simp only at h;cases hr:f.rest with
   | nil =>
     rw [hr] at h;simp only [Option.some.injEq,Prod.mk.injEq] at h;obtain ⟨_,rfl⟩:=h;split
     ·rw [potL_append,hm]
      simp only [potL,WFr.pot,hr,Ac.stpL];obtain ⟨q,hq⟩:∃ q,f.left - 1=q+1:=⟨f.left - 2,by omega⟩
      rw [hq,Nat.mul_add];simp only [Nat.add_sub_cancel,Nat.mul_one,Nat.zero_add,Nat.add_zero];omega
     ·omega
   | cons a r =>
     rw [hr] at h;have hf:f.pot=a.stp+Ac.stpL r+Ac.stpL f.all*(f.left - 1):=by simp only [WFr.pot,hr,Ac.stpL]
     have ha:=Ac.stp_eq a;simp only at h;split at h
     ·simp only [Option.some.injEq,Prod.mk.injEq] at h
      obtain ⟨_,rfl⟩:=h;rw [potL_append,hm,hf];simp only [potL,WFr.pot];omega
     ·rename_i h1
      rw [if_neg h1] at ha;split at h
      ·rename_i h10
       rw [if_pos h10] at ha;simp only [Option.some.injEq,Prod.mk.injEq] at h;obtain ⟨_,rfl⟩:=h;rw [potL_append,potL_append,hm,hf];simp only [potL,WFr.pot];split <;> omega
      ·rename_i h10
       split at h
       ·rename_i h11
        rw [if_neg h10,if_pos h11] at ha;simp only [Option.some.injEq,Prod.mk.injEq] at h;obtain ⟨_,rfl⟩:=h;split
        ·rename_i hc
         rw [potL_append,potL_append,hm,hf];simp only [potL,WFr.pot];obtain ⟨q,hq⟩:∃ q,a.count.toNat=q+1:=⟨a.count.toNat - 1,by omega⟩
         rw [hq] at ha ⊢;rw [Nat.mul_add] at ha;simp only [Nat.add_sub_cancel,Nat.mul_one] at ha ⊢;omega
        ·rw [potL_append,hm,hf]
         simp only [potL,WFr.pot];omega
       ·cases h
theorem loc_pot (r:List Int) (fs:List WFr):potL (loc r fs).2 <= potL fs :=
 (loc_ind (P:=fun _ fs'=>potL fs' <= potL fs) (fun _ _ _ _ h h1=>Nat.le_trans (loc1_pot h1) h) (Nat.le_refl _)).1
def WTh.pot (b:Bd) (t:WTh):Nat:=if t.st=1 then Ac.stpL b.acts+1 else if t.st=2 then potL t.fs+1 else 0
def sumN (f:Nat -> Nat):Nat -> Nat
 | 0=>0
 | n+1=>sumN f n+f n
theorem sumN_le {f g:Nat -> Nat}:(n:Nat) -> (∀ i,i < n -> f i <= g i) -> sumN f n <= sumN g n
 | 0,_=>Nat.le_refl _
 | n+1,h=>by
   have h1:=sumN_le n (fun i hi=>h i (by omega));have h2:=h n (by omega);simp only [sumN];omega
theorem sumN_lt {f g:Nat -> Nat} {k:Nat}:(n:Nat) -> k < n -> (∀ i,i < n -> f i <= g i) -> f k < g k -> sumN f n < sumN g n
 | 0,h,_,_=>absurd h (Nat.not_lt_zero _)
 | n+1,hk,h,hl=>by
   have h2:=h n (by omega);simp only [sumN];by_cases e:k=n
   ·subst e
    have h1:=sumN_le k (fun i hi=>h i (by omega));omega
   ·have h1:=sumN_lt n (by omega) (fun i hi=>h i (by omega)) hl
    omega
def potM (u:Un) (m:WMa):Nat:=sumN (fun i=>(m.get i).pot (u.body i)) m.ths.length
theorem unS_sum (l:List Bd):(n:Nat) -> n <= l.length -> unS (l.take n)=sumN (fun i=>Ac.stpL (l.getD i ⟨0,[]⟩).acts+1) n
 | 0,_=>by simp [unS,sumN]
 | n+1,h=>by
   rw [unS_take (by omega),unS_sum l n (by omega)];simp only [sumN,List.getD];rw [List.getElem?_eq_getElem (by omega)];rfl
theorem begT_pot (b:Bd):(begT b).pot b <= Ac.stpL b.acts+1:=by
 have h:=loc_pot (List.replicate b.regs.toNat 0) [⟨b.acts,b.acts,1⟩];unfold WTh.pot begT WTh.local;simp only
 simp only [potL,WFr.pot,Nat.sub_self,Nat.mul_zero] at h;simp
 omega
theorem newM_ths (u:Un):(newM u).ths=(u.threads.map fun _=>(⟨1,[],[]⟩:WTh)).set 0 (begT (u.body 0)):=rfl
theorem newM_pot (u:Un):potM u (newM u) <= unS u.threads:=by
 have h:=unS_sum u.threads u.threads.length (Nat.le_refl _);rw [List.take_length] at h;have hl:(newM u).ths.length=u.threads.length:=by rw [newM_ths];simp
 rw [h];unfold potM;rw [hl];refine sumN_le _ (fun i hi=>?_)
 have hg:((newM u).get i).pot (u.body i) <= Ac.stpL (u.body i).acts+1:=by
  by_cases e:i=0
  ·subst e
   have:(newM u).get 0=begT (u.body 0):=WMa.get_eq (by rw [newM_ths];exact List.getElem?_set_self (by simp;omega))
   rw [this];exact begT_pot _
  ·have:(newM u).get i=⟨1,[],[]⟩:=WMa.get_eq (by rw [newM_ths,List.getElem?_set_ne (fun h=>e h.symm)];simp [hi])
   rw [this];simp [WTh.pot]
 exact hg
theorem on_pot {t:WTh} {a:Ac} {f:WFr} {r:List Ac} (h1:t.fs.getLast?=some f) (h2:f.rest=a :: r) (hk:2 <= a.kind /\ a.kind <= 9):potL t.on.local.fs < potL t.fs:=by
 have hs:=last_split h1
 have hm:potL t.fs=potL t.fs.dropLast+f.pot:=by
  have:=congrArg potL hs
  rw [potL_append] at this;simpa [potL] using this
 have e:t.on.fs=t.fs.dropLast++[⟨r,f.all,f.left⟩]:=by unfold WTh.on;rw [h1];simp [h2]
 have h3:potL t.on.local.fs <= potL t.on.fs:=loc_pot _ _;have ha:=Ac.stp_eq a;rw [if_neg (by omega),if_neg (by omega),if_neg (by omega)] at ha;rw [e,potL_append] at h3;have hf:f.pot=a.stp+Ac.stpL r+Ac.stpL f.all*(f.left - 1):=by simp only [WFr.pot,h2,Ac.stpL]
 simp only [potL,WFr.pot] at h3;omega
theorem doM_other {u:Un} {m:WMa} {i j:Nat} (hij:i ≠ j) (a:Ac):(doM u m i a).1.get j=m.get j \/ (a.kind=7 /\ a.obj.toNat=j /\ (doM u m i a).2.2=0 /\ (m.get j).st=1 /\ (doM u m i a).1.get j=begT (u.body j)) \/ m.ths.length <= j:=by
 have hs:∀ (c:List Int) (o:List Int) (t:WTh),(WMa.setT ⟨c,o,m.ths⟩ i t).get j=m.get j:=fun c o t=>WMa.setT_ne _ _ hij
 unfold doM;simp only
 split
 ·exact .inl (hs _ _ _)
 ·split
  ·exact .inl rfl
  ·split
   ·exact .inl (hs _ _ _)
   ·split
    ·exact .inl rfl
    ·split
     ·split <;> exact .inl rfl
     ·split
      ·rename_i h7
       split
       ·rename_i q
        by_cases e:a.obj.toNat=j
        ·rw [e] at q ⊢
         by_cases hj:j < m.ths.length
         ·exact .inr (.inl ⟨h7,rfl,rfl,q,WMa.setT_get _ _ _ hj⟩)
         ·exact .inr (.inr (by omega))
        ·exact .inl (WMa.setT_ne _ _ e)
       ·exact .inl rfl
      ·split
       ·split <;> exact .inl rfl
       ·exact .inl rfl
theorem doneM_pot {u:Un} (hr:rightU u=true) {m:WMa} (h:m.ok u) {i:Nat} (hi:i < m.ths.length) (h2:(m.get i).st=2):potM u (doneM u m i).1 < potM u m:=by
 have hlen:=(doneM_ok hr h hi h2).2;obtain ⟨b,hb,hok,hbe⟩:=h.th hi;unfold potM;rw [hlen]
 have hself:((doneM u m i).1.get i).pot (u.body i) < (m.get i).pot (u.body i):=by
  have hp:(m.get i).pot (u.body i)=potL (m.get i).fs+1:=by unfold WTh.pot;rw [h2];rfl
  rw [hp];unfold doneM;cases hn:(m.get i).next with
  | none =>
    simp only
    rw [WMa.setT_get _ _ _ hi];unfold WTh.pot;simp
  | some a =>
    obtain ⟨s1,s2⟩:=doM_self (u:=u) hi h2 a;have hi':i < (doM u m i a).1.ths.length:=by rw [(doM_ok hr h hi a).2];exact hi
    simp only
    split
    ·rw [WMa.setT_get _ _ _ hi']
     unfold WTh.pot;simp
    ·rw [WMa.setT_get _ _ _ hi']
     obtain ⟨h3,h4⟩ | ⟨a',f,r,h3,h4,h5,h6,h7⟩:=next_step (hok.2.2 h2) (hok.2.1 (by rw [h2];decide)).2
     ·rw [h3] at hn;cases hn
     ·rw [hn] at h3;cases h3
      have hst:((doM u m i a).1.get i).on.local.st=2:=by
       show ((doM u m i a).1.get i).on.st=2
       unfold WTh.on;split <;> exact s1
      have h8:=on_pot (t:=(doM u m i a).1.get i) (by rw [s2];exact h4) h5 h7;unfold WTh.pot;rw [hst];simp only [Int.reduceEq,if_false,if_true];rw [s2] at h8;omega
 refine sumN_lt _ hi (fun j hj=>?_) hself
 by_cases e:i=j
 ·subst e;exact Nat.le_of_lt hself
 have hbeg:∀ t:WTh,t=begT (u.body j) -> (m.get j).st=1 -> t.pot (u.body j) <= (m.get j).pot (u.body j):=fun t ht h1=>by
  rw [ht];refine Nat.le_trans (begT_pot _) ?_
  unfold WTh.pot;rw [h1];simp
 show ((doneM u m i).1.get j).pot (u.body j) <= (m.get j).pot (u.body j)
 unfold doneM;cases hn:(m.get i).next with
 | none=>simp only;rw [WMa.setT_ne _ _ e];exact Nat.le_refl _
 | some a =>
   simp only
   have hd:=doM_other (u:=u) (m:=m) e a;split
   ·rw [WMa.setT_ne _ _ e]
    rcases hd with hd | ⟨_,_,_,h1,hd⟩ | hd
    ·rw [hd];exact Nat.le_refl _
    ·exact hbeg _ hd h1
    ·omega
   ·rw [WMa.setT_ne _ _ e]
    rcases hd with hd | ⟨_,_,_,h1,hd⟩ | hd
    ·rw [hd];exact Nat.le_refl _
    ·exact hbeg _ hd h1
    ·omega
theorem WMa.ok.run {u:Un} {m:WMa} (h:m.ok u) {i:Int} (h0:refM m i=0):0 <= i /\ i.toNat < m.ths.length /\ (m.get i.toNat).st=2:=by
 obtain ⟨h1,h2,h3,h4,h5,_⟩:=refM_zero h0;have hi:i.toNat < m.ths.length:=by omega
 obtain ⟨b,_,hok,_⟩:=h.th hi;exact ⟨h1,hi,by rcases hok.1 with e | e | e | e <;> first | exact e | exact absurd e h3 | exact absurd e h4 | exact absurd e h5⟩
theorem stepM_pot {u:Un} (hr:rightU u=true) {m:WMa} (h:m.ok u) {i:Int} (h0:refM m i=0):potM u (stepM u m i).1 < potM u m:=by
 obtain ⟨h1,hi,h2⟩:=h.run h0;unfold stepM;rw [if_pos h0];exact doneM_pot hr h hi h2
theorem enabM_mem {u:Un} {m:WMa} (h:m.ok u) {i:Int} (hi:i ∈ enabM m):refM m i=0:=by
 unfold enabM at hi;obtain ⟨k,hk,rfl⟩:=List.mem_map.1 hi;obtain ⟨hk1,hk2⟩:=List.mem_filter.1 hk;have hlt:=List.mem_range.1 hk1;obtain ⟨b,_,hok,_⟩:=h.th hlt
 have h2:(m.get k).st=2:=by
  refine Classical.byContradiction fun hn=>?_
  have:ableM m k=false:=by unfold ableM actM;simp [hn]
  rw [this] at hk2;cases hk2
 unfold refM;rw [if_neg (by omega)];simp [h2,hk2]
theorem actM_eq {m m':WMa} {i:Nat} (h:m'.get i=m.get i):actM m' i=actM m i:=by unfold actM;rw [h]
structure Apart (m m':WMa) (x:Evt):Prop where
 nc:m.cells.length=m'.cells.length
 no:m.owners.length=m'.owners.length
 nt:m.ths.length=m'.ths.length
 cells:∀ k,k < m.cells.length -> m.cells.getD k 0=m'.cells.getD k 0 \/ ((x.kind=2 \/ x.kind=3) /\ (k:Int)=x.obj)
 owners:∀ k,k < m.owners.length -> m.owners.getD k 0=m'.owners.getD k 0 \/ ((x.kind=4 \/ x.kind=5) /\ (k:Int)=x.obj)
 ths:∀ k,k < m.ths.length -> ((m.get k).st=(m'.get k).st /\ actM m k=actM m' k) \/ (k:Int)=x.thread \/ (x.kind=6 /\ x.bad=0 /\ (k:Int)=x.obj)
theorem getD_set {l:List Int} {k j:Nat} (v:Int) (h:k ≠ j):(l.set k v).getD j 0=l.getD j 0:=by rw [List.getD,List.getD,List.getElem?_set_ne h]
theorem doM_cells {u:Un} {m:WMa} {i:Nat} (a:Ac) (k:Nat):(doM u m i a).1.cells.getD k 0=m.cells.getD k 0 \/ ((a.kind=3 \/ a.kind=4) /\ k=a.obj.toNat):=by
 unfold doM;simp only
 split
 ·exact .inl rfl
 ·split
  ·rename_i h
   by_cases e:a.obj.toNat=k
   ·exact .inr ⟨.inl h,e.symm⟩
   ·exact .inl (getD_set _ e)
  ·split
   ·rename_i h
    by_cases e:a.obj.toNat=k
    ·exact .inr ⟨.inr h,e.symm⟩
    ·exact .inl (getD_set _ e)
   ·split
    ·exact .inl rfl
    ·split
     ·split <;> exact .inl rfl
     ·split
      ·split <;> exact .inl rfl
      ·split
       ·split <;> exact .inl rfl
       ·exact .inl rfl
theorem doM_owners {u:Un} {m:WMa} {i:Nat} (a:Ac) (k:Nat):(doM u m i a).1.owners.getD k 0=m.owners.getD k 0 \/ ((a.kind=5 \/ a.kind=6) /\ k=a.obj.toNat):=by
 unfold doM;simp only
 split
 ·exact .inl rfl
 ·split
  ·exact .inl rfl
  ·split
   ·exact .inl rfl
   ·split
    ·rename_i h
     by_cases e:a.obj.toNat=k
     ·exact .inr ⟨.inl h,e.symm⟩
     ·exact .inl (getD_set _ e)
    ·split
     ·rename_i h
      split
      ·by_cases e:a.obj.toNat=k
       ·exact .inr ⟨.inr h,e.symm⟩
       ·exact .inl (getD_set _ e)
      ·exact .inl rfl
     ·split
      ·split <;> exact .inl rfl
      ·split
       ·split <;> exact .inl rfl
       ·exact .inl rfl
theorem stepM_apart {u:Un} (hr:rightU u=true) {m:WMa} (h:m.ok u) {i:Int} (h0:refM m i=0):Apart m (stepM u m i).1 (stepM u m i).2.1 /\ (stepM u m i).2.1.thread=i:=by
 obtain ⟨h1,hi,h2⟩:=h.run h0;obtain ⟨k,rfl⟩:∃ k:Nat,i=k:=⟨i.toNat,by omega⟩
 rw [Int.toNat_natCast] at hi h2;obtain ⟨b,hb,hok,hbe⟩:=h.th hi;have g:=(stepM_ok hr h (k:Int)).1;have hth:∀ (m':WMa) (j:Nat),(m.get j=m'.get j) -> ((m.get j).st=(m'.get j).st /\ actM m j=actM m' j):=fun m' j e=>⟨by rw [e],(actM_eq e.symm).symm⟩
 have hcl:m.cells.length=(stepM u m k).1.cells.length:=by rw [h.cells,g.cells]
 have hol:m.owners.length=(stepM u m k).1.owners.length:=by rw [h.owners,g.owners]
 have htl:m.ths.length=(stepM u m k).1.ths.length:=by rw [h.ths,g.ths]
 have hx:(stepM u m k)=((doneM u m k).1,(doneM u m k).2,0):=by unfold stepM;rw [if_pos h0,Int.toNat_natCast]
 have key:(doneM u m k).2.thread=(k:Int) /\ (∀ j,m.cells.getD j 0=(doneM u m k).1.cells.getD j 0 \/ (((doneM u m k).2.kind=2 \/ (doneM u m k).2.kind=3) /\ (j:Int)=(doneM u m k).2.obj)) ∧
  (∀ j,m.owners.getD j 0=(doneM u m k).1.owners.getD j 0 \/ (((doneM u m k).2.kind=4 \/ (doneM u m k).2.kind=5) /\ (j:Int)=(doneM u m k).2.obj)) ∧
  (∀ j,j < m.ths.length -> m.get j=(doneM u m k).1.get j \/ j=k \/ ((doneM u m k).2.kind=6 /\ (doneM u m k).2.bad=0 /\ (j:Int)=(doneM u m k).2.obj)):=by
  unfold doneM;rcases next_step (hok.2.2 h2) (hok.2.1 (by rw [h2];decide)).2 with ⟨h3,_⟩ | ⟨a,f,r,h3,h4,h5,h6,h7⟩
  ·rw [h3]
   refine ⟨rfl,fun j=>.inl rfl,fun j=>.inl rfl,fun j hj=>?_⟩
   by_cases e:k=j
   ·exact .inr (.inl e.symm)
   ·exact .inl (WMa.setT_ne _ _ e).symm
  ·have e:actM m k=(a.kind - 1,a.obj):=by unfold actM;rw [h2,h3];rfl
   have hob:∀ j:Nat,j=a.obj.toNat -> 2 <= a.kind /\ a.kind <= 8 -> (j:Int)=a.obj:=fun j e1 e2=>by have:=(Ac.may_obj h6 e2).1;omega
   rw [h3];simp only
   have hot:∀ (x:WTh) (j:Nat),j < m.ths.length -> m.get j=((doM u m k a).1.setT k x).get j \/ j=k \/ (a.kind - 1=6 /\ (doM u m k a).2.2=0 /\ (j:Int)=a.obj):=fun x j hj=>by
    by_cases e:k=j
    ·exact .inr (.inl e.symm)
    ·rw [WMa.setT_ne _ _ e]
     rcases doM_other (u:=u) (m:=m) e a with hd | ⟨q1,q2,q3,_,_⟩ | hd
     ·exact .inl hd.symm
     ·exact .inr (.inr ⟨by omega,q3,hob j q2.symm (by omega)⟩)
     ·omega
   have hce:∀ j,m.cells.getD j 0=(doM u m k a).1.cells.getD j 0 \/ ((a.kind - 1=2 \/ a.kind - 1=3) /\ (j:Int)=a.obj):=fun j=>by
    rcases doM_cells (u:=u) (m:=m) (i:=k) a j with q | ⟨q1,q2⟩
    ·exact .inl q.symm
    ·exact .inr ⟨by omega,hob j q2 (by omega)⟩
   have how:∀ j,m.owners.getD j 0=(doM u m k a).1.owners.getD j 0 \/ ((a.kind - 1=4 \/ a.kind - 1=5) /\ (j:Int)=a.obj):=fun j=>by
    rcases doM_owners (u:=u) (m:=m) (i:=k) a j with q | ⟨q1,q2⟩
    ·exact .inl q.symm
    ·exact .inr ⟨by omega,hob j q2 (by omega)⟩
   split
   ·rename_i hbad
    refine ⟨rfl,by rw [e];exact hce,by rw [e];exact how,fun j hj=>?_⟩
    rw [e];rcases hot _ j hj with q | q | ⟨_,q,_⟩
    ·exact .inl q
    ·exact .inr (.inl q)
    ·exact absurd q hbad
   ·rename_i hbad
    refine ⟨rfl,by rw [e];exact hce,by rw [e];exact how,fun j hj=>?_⟩
    rw [e];rcases hot _ j hj with q | q | ⟨q1,_,q2⟩
    ·exact .inl q
    ·exact .inr (.inl q)
    ·exact .inr (.inr ⟨q1,rfl,q2⟩)
 rw [hx] at hcl hol htl ⊢;obtain ⟨k1,k2,k3,k4⟩:=key;refine ⟨⟨hcl,hol,htl,fun j _=>k2 j,fun j _=>k3 j,fun j hj=>?_⟩,k1⟩
 rcases k4 j hj with q | q | q
 ·exact .inl (hth _ j q)
 ·exact .inr (.inl (by rw [k1,q]))
 ·exact .inr (.inr q)
structure StepV where
 t:Int
 c:Int
 e:Evt
def plN (u:Un):WMa -> List Int -> List StepV × WMa
 | m,[]=>([],m)
 | m,t :: r=>(⟨t,(stepM u m t).2.2,(stepM u m t).2.1⟩ :: (plN u (stepM u m t).1 r).1,(plN u (stepM u m t).1 r).2)
theorem plN_snoc (u:Un):∀ (l:List Int) (m:WMa) (t:Int),plN u m (l++[t])=((plN u m l).1++[⟨t,(stepM u (plN u m l).2 t).2.2,(stepM u (plN u m l).2 t).2.1⟩],(stepM u (plN u m l).2 t).1):=by
 intro l
 induction l with
 | nil=>intro m t;rfl
 | cons a r ih=>intro m t;simp only [List.cons_append,plN,ih]
theorem plN_len (u:Un):∀ (l:List Int) (m:WMa),(plN u m l).1.length=l.length:=by
 intro l
 induction l with
 | nil=>intro m;rfl
 | cons a r ih=>intro m;simp only [plN,List.length_cons,ih]
def chN (ch:List Int) (k n:Nat):Nat:=if k < ch.length then (ch.getD k 0 % (n:Int)).toNat else 0
theorem chN_lt (ch:List Int) (k:Nat) {n:Nat} (h:0 < n):chN ch k n < n:=by
 unfold chN;split
 ·have h1:=Int.emod_nonneg (ch.getD k 0) (b:=(n:Int)) (by omega)
  have h2:=Int.emod_lt_of_pos (ch.getD k 0) (b:=(n:Int)) (by omega);omega
 ·exact h
def whT (ch:List Int) (k:Nat) (m:WMa):Int:=(enabM m).getD (chN ch k (enabM m).length) 0
def whN (u:Un) (ch:List Int):Nat -> Nat -> WMa -> List Evt × WMa
 | 0,_,m=>([],m)
 | f+1,k,m=>if enabM m=[] then ([],m) else ((stepM u m (whT ch k m)).2.1 :: (whN u ch f (k+1) (stepM u m (whT ch k m)).1).1,(whN u ch f (k+1) (stepM u m (whT ch k m)).1).2)
theorem whT_mem (ch:List Int) (k:Nat) {m:WMa} (h:enabM m ≠ []):whT ch k m ∈ enabM m:=by
 unfold whT
 have hl:0 < (enabM m).length:=by cases hm:enabM m with
  | nil=>exact absurd hm h
  | cons=>simp
 have:=chN_lt ch k hl
 simp [List.getD,this]
theorem whN_step {u:Un} (hr:rightU u=true) (ch:List Int) {f k:Nat} {m:WMa} (hm:m.ok u) (he:enabM m ≠ []) (hf:potM u m <= f) :
 ∃ f',whN u ch f k m=((stepM u m (whT ch k m)).2.1 :: (whN u ch f' (k+1) (stepM u m (whT ch k m)).1).1,(whN u ch f' (k+1) (stepM u m (whT ch k m)).1).2) /\ potM u (stepM u m (whT ch k m)).1 <= f' /\ potM u (stepM u m (whT ch k m)).1 < potM u m /\ refM m (whT ch k m)=0:=by
 have h0:=enabM_mem hm (whT_mem ch k he);have hp:=stepM_pot hr hm h0;cases f with
 | zero=>omega
 | succ f=>exact ⟨f,by rw [whN,if_neg he],by omega,hp,h0⟩
theorem whN_end {u:Un} (hr:rightU u=true) (ch:List Int) {f k:Nat} {m:WMa} (he:enabM m=[]):whN u ch f k m=([],m):=by
 cases f with
 | zero=>rfl
 | succ f=>rw [whN,if_pos he]
def whole (u:Un) (ch:List Int):List Evt × WMa:=whN u ch (potM u (newM u)) 0 (newM u)
theorem whN_law {u:Un} (hr:rightU u=true) (ch:List Int):∀ (f k:Nat) (m:WMa),m.ok u -> potM u m <= f →
 (whN u ch f k m).1.length <= potM u m /\ (whN u ch f k m).2.ok u /\ enabM (whN u ch f k m).2=[] /\ plN u m ((whN u ch f k m).1.map Evt.thread)=((whN u ch f k m).1.map fun x=>⟨x.thread,0,x⟩,(whN u ch f k m).2):=by
 intro f
 induction f with
 | zero =>
   intro k m hm hf
   by_cases he:enabM m=[]
   ·rw [whN_end hr ch he]
    exact ⟨Nat.zero_le _,hm,he,rfl⟩
   ·obtain ⟨f',_,_,h,_⟩:=whN_step hr ch (k:=k) hm he hf
    omega
 | succ f ih =>
   intro k m hm hf
   by_cases he:enabM m=[]
   ·rw [whN_end hr ch he]
    exact ⟨Nat.zero_le _,hm,he,rfl⟩
   ·have h0:=enabM_mem hm (whT_mem ch k he)
    have hp:=stepM_pot hr hm h0;have ho:=(stepM_ok hr hm (whT ch k m)).1;obtain ⟨q1,q2,q3,q4⟩:=ih (k+1) _ ho (by omega);have e:whN u ch (f+1) k m=((stepM u m (whT ch k m)).2.1 :: (whN u ch f (k+1) (stepM u m (whT ch k m)).1).1,(whN u ch f (k+1) (stepM u m (whT ch k m)).1).2):=by rw [whN,if_neg he]
    have ht:(stepM u m (whT ch k m)).2.1.thread=whT ch k m:=(stepM_apart hr hm h0).2;have hc:(stepM u m (whT ch k m)).2.2=0:=by unfold stepM;rw [if_pos h0]
    rw [e];refine ⟨by simp only [List.length_cons];omega,q2,q3,?_⟩
    simp only [List.map_cons,plN,ht,hc,q4]
theorem over_refused {u:Un} {m:WMa} (hm:m.ok u) (he:enabM m=[]) (t:Int):refM m t ≠ 0:=by
 intro h
 obtain ⟨h1,h2,_,_,_,h6⟩:=refM_zero h
 have hmem:t ∈ enabM m:=by
  unfold enabM;rw [List.mem_map];exact ⟨t.toNat,List.mem_filter.2 ⟨List.mem_range.2 (by omega),h6⟩,by omega⟩
 rw [he] at hmem;cases hmem
theorem stepM_no {u:Un} {m:WMa} {t:Int} (h:refM m t ≠ 0):stepM u m t=(m,Evt.zero,refM m t):=by unfold stepM;rw [if_neg h]
end Go.Proofs.YtnmifekgdkgknaaGreatDoor
namespace Go.Proofs.YtnmifekgdkgknaaGreatDoor
open Go.RowKit
def ints (xs:List Int):List Value:=xs.map (Value.int .i64)
theorem ints_len (xs:List Int):(ints xs).length=xs.length:=by simp [ints]
theorem ints_get (xs:List Int) (k:Nat) (hk:k < xs.length):(ints xs)[k]?=some (.int .i64 (xs.getD k 0)):=by simp [ints,List.getD,hk]
theorem ints_set (xs:List Int) (k:Nat) (u:Int):(ints xs).set k (.int .i64 u)=ints (xs.set k u):=by simp [ints,List.map_set]
abbrev Ret (w:World) (f:FuncId) (a:Array Value) (v:Value):Prop:=Hid (∀ W,Keeps NoBlk w W -> Calls Tryz.prog f a W fun e w'=>e=.returned v /\ Keeps NoBlk W w')
theorem Ret.call {w W:World} {f:FuncId} {a:Array Value} {v:Value} {Q:Ending -> World -> Prop} (H:Ret w f a v) (K:Keeps NoBlk w W) (h:∀ w',Keeps NoBlk w w' -> Keeps NoBlk W w' -> Q (.returned v) w'):Calls Tryz.prog f a W Q :=
 (H.out W K).mono fun e w' ⟨he,hk⟩=>by rw [he];exact h w' (K.trans0 hk) hk
theorem newRow (w:World) (cs:List Value) (t:TypeId):∃ b w1,w.heap.size=b /\ w.alloc (.cells cs.toArray t)=w1 /\ RowAt w1 b cs /\ Keeps NoBlk w w1 /\ Hid (w1.heap.size=b+1) :=
 ⟨_,_,rfl,rfl,RowAt.ofBlock (heap_alloc_new w _),(Keeps.refl _ _).alloc _,by show _=_;simp⟩
namespace RowAt
variable {w:World} {g:Nat} {a b c d e f h i j k:Value}
theorem all2 (r:RowAt w g [a,b]):∀ W,Keeps NoBlk w W -> W.cell? ⟨g,0,none⟩=some a /\ W.cell? ⟨g,1,none⟩=some b:=fun W q=>⟨(r.keeps q (fun h=>h)).cell (k:=0) rfl,(r.keeps q (fun h=>h)).cell (k:=1) rfl⟩
theorem all3 (r:RowAt w g [a,b,c]):∀ W,Keeps NoBlk w W -> W.cell? ⟨g,0,none⟩=some a /\ W.cell? ⟨g,1,none⟩=some b /\ W.cell? ⟨g,2,none⟩=some c:=fun W q=>(r.keeps q (fun h=>h)).three
theorem all4 (r:RowAt w g [a,b,c,d]):∀ W,Keeps NoBlk w W -> W.cell? ⟨g,0,none⟩=some a /\ W.cell? ⟨g,1,none⟩=some b /\ W.cell? ⟨g,2,none⟩=some c /\ W.cell? ⟨g,3,none⟩=some d:=fun W q=>(r.keeps q (fun h=>h)).four
theorem all10 (r:RowAt w g [a,b,c,d,e,f,h,i,j,k]):∀ W,Keeps NoBlk w W -> W.cell? ⟨g,0,none⟩=some a /\ W.cell? ⟨g,1,none⟩=some b /\ W.cell? ⟨g,2,none⟩=some c /\ W.cell? ⟨g,3,none⟩=some d /\ W.cell? ⟨g,4,none⟩=some e /\ W.cell? ⟨g,5,none⟩=some f /\ W.cell? ⟨g,6,none⟩=some h /\ W.cell? ⟨g,7,none⟩=some i /\ W.cell? ⟨g,8,none⟩=some j /\ W.cell? ⟨g,9,none⟩=some k:=fun W q=>(r.keeps q (fun h=>h)).ten
end RowAt
theorem cellAll {w:World} {p:Addr} {v:Value} (h:w.cell? p=some v):∀ W,Keeps NoBlk w W -> W.cell? p=some v:=fun W q=>q.cell (fun h=>h) h
theorem keep0 (w:World):Keeps NoBlk w w:=Keeps.refl _ _
inductive WTg where
 | mach | cells | owners | ths
 | regs (i:Nat) | fs (i:Nat)
deriving DecidableEq
abbrev WTags:=Nat -> Option (Nat × WTg)
def WOwn (T:WTags) (id:Nat) (k:Nat):Prop:=∃ t,T k=some (id,t)
def WThb (T:WTags) (id:Nat) (k:Nat):Prop:=T k=some (id, .ths) \/ ∃ i,T k=some (id, .regs i) \/ T k=some (id, .fs i)
theorem WThb.own {T:WTags} {id k:Nat} (h:WThb T id k):WOwn T id k:=by
 rcases h with h | ⟨i,h | h⟩ <;> exact ⟨_,h⟩
structure WSep (w:World) (T:WTags) (F:Nat -> Prop):Prop where
 ok:∀ k x,T k=some x -> k < w.heap.size
 sep:∀ k,F k -> T k=none
 low:∀ k,F k -> k < w.heap.size
theorem WSep.keeps {S:Nat -> Prop} {w w':World} {T:WTags} {F:Nat -> Prop} (h:WSep w T F) (hk:Keeps S w w'):WSep w' T F :=
 ⟨fun k x e=>Nat.lt_of_lt_of_le (h.ok k x e) hk.size,h.sep,fun k hF=>Nat.lt_of_lt_of_le (h.low k hF) hk.size⟩
def WExt (T T':WTags) (id:Nat) (w:World):Prop:=(∀ k y,T k=some y -> T' k=some y) /\ ∀ k y,T' k=some y -> T k=some y \/ (w.heap.size <= k /\ y.1=id)
theorem WExt.refl (T:WTags) (id:Nat) (w:World):WExt T T id w:=⟨fun _ _ h=>h,fun _ _ h=>.inl h⟩
theorem WExt.trans {T1 T2 T3:WTags} {id:Nat} {w w':World} (h:WExt T1 T2 id w) (h':WExt T2 T3 id w') (hs:w.heap.size <= w'.heap.size):WExt T1 T3 id w :=
 ⟨fun k y e=>h'.1 k y (h.1 k y e),fun k y e=>by
  rcases h'.2 k y e with h1 | h1
  ·exact h.2 k y h1
  ·exact .inr ⟨Nat.le_trans hs h1.1,h1.2⟩⟩
theorem WExt.none {T T':WTags} {id:Nat} {w:World} (h:WExt T T' id w) {k:Nat} (h1:T k=none) (h2:k < w.heap.size):T' k=none:=by
 cases e:T' k with
 | none=>rfl
 | some y =>
   rcases h.2 k y e with h3 | h3
   ·rw [h1] at h3;cases h3
   ·omega
theorem WExt.own {T T':WTags} {id:Nat} {w:World} (h:WExt T T' id w) {k i:Nat} (hk:WOwn T' i k) (h2:k < w.heap.size):WOwn T i k:=by
 obtain ⟨t,e⟩:=hk;rcases h.2 k _ e with h3 | h3
 ·exact ⟨t,h3⟩
 ·omega
def tagW (T:WTags) (id:Nat) (t:WTg) (g:Nat):WTags:=fun q=>if q=g then some (id,t) else T q
theorem tagW_ext {T:WTags} {id:Nat} {t:WTg} {g:Nat} {w:World} (h:T g=some (id,t) \/ (T g=none /\ w.heap.size <= g)):WExt T (tagW T id t g) id w:=by
 refine ⟨fun k y e=>?_,fun k y e=>?_⟩
 ·unfold tagW
  by_cases hk:k=g
  ·subst hk
   rw [if_pos rfl];rcases h with h | h
   ·rw [<- e,h]
   ·rw [h.1] at e;cases e
  ·rw [if_neg hk];exact e
 ·unfold tagW at e
  by_cases hk:k=g
  ·subst hk
   rw [if_pos rfl] at e;cases e;rcases h with h | h
   ·exact .inl h
   ·exact .inr ⟨h.2,rfl⟩
  ·rw [if_neg hk] at e;exact .inl e
theorem tagW_own (T:WTags) (id:Nat) (t:WTg) (g:Nat):tagW T id t g g=some (id,t):=if_pos rfl
theorem WSep.tag {w:World} {T:WTags} {F:Nat -> Prop} (h:WSep w T F) {id:Nat} {t:WTg} {g:Nat} (hg:g < w.heap.size) (hF:¬ F g):WSep w (tagW T id t g) F:=by
 refine ⟨fun k x e=>?_,fun k hk=>?_,h.low⟩
 ·unfold tagW at e
  by_cases hk:k=g
  ·subst hk;exact hg
  ·rw [if_neg hk] at e;exact h.ok k x e
 ·unfold tagW
  rw [if_neg (fun e=>hF (by rw [<- e];exact hk))];exact h.sep k hk
theorem WSep.free {w:World} {T:WTags} {F:Nat -> Prop} (h:WSep w T F) {g:Nat} (hg:w.heap.size <= g):T g=none /\ ¬ F g:=by
 refine ⟨?_,fun hF=>by have:=h.low g hF;omega⟩
 cases e:T g with
 | none=>rfl
 | some y=>have:=h.ok g y e;omega
def IRow (w:World) (T:WTags) (id:Nat) (t:WTg) (v:Value) (xs:List Int):Prop :=
 ∃ ad cap,v=.slice ad xs.length cap /\ (xs ≠ [] -> ∃ g,ad=some ⟨g,0,none⟩ /\ T g=some (id,t) /\ RowAt w g (ints xs))
section
variable {S:Nat -> Prop} {w w':World} {T T':WTags} {id:Nat} {t:WTg} {v:Value} {xs:List Int}
theorem IRow.keeps (h:IRow w T id t v xs) (hk:Keeps S w w') (hS:∀ k,T k=some (id,t) -> ¬ S k):IRow w' T id t v xs:=by
 obtain ⟨ad,cap,e,h1⟩:=h;refine ⟨ad,cap,e,fun hn=>?_⟩
 obtain ⟨g,e1,e2,e3⟩:=h1 hn;exact ⟨g,e1,e2,e3.keeps hk (hS g e2)⟩
theorem IRow.ext (h:IRow w T id t v xs) (hx:∀ k y,T k=some y -> T' k=some y):IRow w T' id t v xs:=by
 obtain ⟨ad,cap,e,h1⟩:=h;refine ⟨ad,cap,e,fun hn=>?_⟩
 obtain ⟨g,e1,e2,e3⟩:=h1 hn;exact ⟨g,e1,hx _ _ e2,e3⟩
theorem IRow.at (h:IRow w T id t v xs) {k:Nat} (hk:k < xs.length):∃ g cap,v=.slice (some ⟨g,0,none⟩) xs.length cap /\ T g=some (id,t) /\ RowAt w g (ints xs):=by
 obtain ⟨ad,cap,e,h1⟩:=h;obtain ⟨g,e1,e2,e3⟩:=h1 (fun e=>by rw [e] at hk;simp at hk);subst e1;exact ⟨g,cap,e,e2,e3⟩
theorem IRow.set {g cap:Nat} (hT:T g=some (id,t)) (h:RowAt w g (ints xs)) (k:Nat) (hk:k < xs.length) (u:Int) :
 IRow (w.setCell ⟨g,k,none⟩ (.int .i64 u)) T id t (.slice (some ⟨g,0,none⟩) xs.length cap) (xs.set k u):=by
 have:=h.set k (by rw [ints_len];exact hk) (.int .i64 u)
 rw [ints_set] at this;exact ⟨_,cap,by rw [List.length_set],fun _=>⟨g,rfl,hT,this⟩⟩
theorem IRow.src (h:IRow w T id t v xs):SrcAt w v xs.length (ints xs):=by
 obtain ⟨ad,cap,e,h1⟩:=h;refine ⟨ad,cap,e,fun hn=>?_⟩
 obtain ⟨g,e1,_,e3⟩:=h1 (fun e=>by rw [e] at hn;exact hn rfl);exact ⟨g,0,e1,e3.rng⟩
theorem IRow.of {e:TypeId} {base:Nat} (h:w.ownsRow base e 1 v xs.length (ints xs)) (hT:∀ kb,v.ownBlock=some kb -> T kb=some (id,t)) (hv:∃ ad cap,v=.slice ad xs.length cap):IRow w T id t v xs:=by
 obtain ⟨ad,cap,rfl⟩:=hv;refine ⟨ad,cap,rfl,fun hn=>?_⟩
 rcases h.2 with ⟨_,h1⟩ | ⟨g,c,cur,h1,_⟩
 ·exact absurd (List.eq_nil_of_length_eq_zero h1) hn
 ·simp only [Value.slice.injEq] at h1
  obtain ⟨rfl,_,rfl⟩:=h1;exact ⟨g,rfl,hT g rfl,RowAt.ofOwns h⟩
end
section
variable (R:Lies WFr) (sz:Nat) (ty:TypeId)
def FsAt (w:World) (T:WTags) (F:Nat -> Prop) (id i:Nat) (v:Value) (fs:List WFr):Prop :=
 ∃ css:List (List Value),css.length=fs.length /\ w.ownsRow 0 ty sz v fs.length css.flatten /\ (∀ kb,v.ownBlock=some kb -> T kb=some (id, .fs i)) /\ (∃ ad cap,v=.slice ad fs.length cap) ∧
   ∀ (j:Nat) (f:WFr) (cs:List Value),fs[j]?=some f -> css[j]?=some cs -> R w F f cs
structure HTh where
 st:Int
 rv:Value
 fv:Value
def HTh.cells (h:HTh):List Value:=[.int .i64 h.st,h.rv,h.fv]
theorem hth_len (h:HTh):h.cells.length=3:=rfl
def thCells (H:List HTh):List Value:=H.flatMap HTh.cells
structure ThsG (w:World) (T:WTags) (F:Nat -> Prop) (id g:Nat) (H:List HTh) (ths:List WTh):Prop where
 tag:T g=some (id, .ths)
 sep:WSep w T F
 row:RowAt w g (thCells H)
 len:H.length=ths.length
 each:∀ i h t,H[i]?=some h -> ths[i]?=some t -> h.st=t.st /\ IRow w T id (.regs i) h.rv t.regs /\ FsAt R sz ty w T F id i h.fv t.fs
end
section
variable {R:Lies WFr} {sz:Nat} {ty:TypeId} (L:LiesOk R sz)
include L
variable {S:Nat -> Prop} {w w':World} {T T':WTags} {F:Nat -> Prop} {id i g:Nat} {v:Value} {fs:List WFr} {H:List HTh} {ths:List WTh}
theorem FsAt.keeps (h:FsAt R sz ty w T F id i v fs) (hk:Keeps S w w') (hS:∀ k,T k=some (id, .fs i) -> ¬ S k) (hF:∀ k,F k -> ¬ S k):FsAt R sz ty w' T F id i v fs:=by
 obtain ⟨css,h1,h2,h3,h4,h5⟩:=h;exact ⟨css,h1,ownsRow_keeps h2 hk (fun k e=>hS k (h3 k e)),h3,h4,fun j f cs e1 e2=>L.keeps (h5 j f cs e1 e2) hk hF⟩
theorem ThsG.keeps (h:ThsG R sz ty w T F id g H ths) (hk:Keeps S w w') (hS:∀ k,WThb T id k \/ F k -> ¬ S k):ThsG R sz ty w' T F id g H ths :=
 ⟨h.tag,h.sep.keeps hk,h.row.keeps hk (hS g (.inl (.inl h.tag))),h.len,fun i a t e1 e2=>by
  obtain ⟨h1,h2,h3⟩:=h.each i a t e1 e2;exact ⟨h1,h2.keeps hk (fun k e=>hS k (.inl (.inr ⟨i, .inl e⟩))),FsAt.keeps L h3 hk (fun k e=>hS k (.inl (.inr ⟨i, .inr e⟩))) (fun k e=>hS k (.inr e))⟩⟩
end
section
variable {R:Lies WFr} {sz:Nat} {ty:TypeId} {w w':World} {T T':WTags} {F:Nat -> Prop} {id i g:Nat} {v:Value} {fs:List WFr} {H:List HTh} {ths:List WTh}
theorem FsAt.ext (h:FsAt R sz ty w T F id i v fs) (hx:∀ k y,T k=some y -> T' k=some y):FsAt R sz ty w T' F id i v fs:=by
 obtain ⟨css,h1,h2,h3,h4,h5⟩:=h;exact ⟨css,h1,h2,fun k e=>hx _ _ (h3 k e),h4,h5⟩
theorem ThsG.get (h:ThsG R sz ty w T F id g H ths) {t:WTh} (ht:ths[i]?=some t):∃ rv fv,H[i]?=some ⟨t.st,rv,fv⟩ /\ IRow w T id (.regs i) rv t.regs /\ FsAt R sz ty w T F id i fv t.fs:=by
 have hi:i < ths.length:=(List.getElem?_eq_some_iff.1 ht).1;have hi':i < H.length:=by rw [h.len];exact hi
 have hH:H[i]?=some H[i]:=List.getElem?_eq_getElem hi';obtain ⟨e1,e2,e3⟩:=h.each i _ t hH ht;exact ⟨H[i].rv,H[i].fv,by rw [hH,<- e1],e2,e3⟩
theorem th_cell {a:HTh} (hr:RowAt w g (thCells H)) (ha:H[i]?=some a) (j:Nat) {u:Value} (hu:a.cells[j]?=some u):w.cell? ⟨g,i*3+j,none⟩=some u:=by
 refine hr.cell ?_
 have hj:j < 3:=(List.getElem?_eq_some_iff.1 hu).1;show (H.flatMap HTh.cells)[i*3+j]?=_
 rw [get_cells _ 3 hth_len H i j hj,ha];exact hu
theorem th_free (hr:RowAt w g (thCells H)) (hi:i < H.length) (j:Nat) (hj:j < 3):w.frozen? ⟨g,i*3+j,none⟩=false :=
 hr.free (by unfold thCells;rw [length_cells _ 3 hth_len];omega)
theorem th_three (hr:RowAt w g (thCells H)) {a:HTh} (ha:H[i]?=some a):w.cell? ⟨g,i*3,none⟩=some (.int .i64 a.st) /\ w.cell? ⟨g,i*3+1,none⟩=some a.rv /\ w.cell? ⟨g,i*3+2,none⟩=some a.fv :=
 ⟨th_cell hr ha 0 rfl,th_cell hr ha 1 rfl,th_cell hr ha 2 rfl⟩
theorem th_set (hr:RowAt w g (thCells H)) {a:HTh} (ha:H[i]?=some a) (j:Nat) (hj:j < 3) (u:Value) (a':HTh) (hc:a'.cells=a.cells.set j u):RowAt (w.setCell ⟨g,i*3+j,none⟩ u) g (thCells (H.set i a')):=by
 have:=hr.set (i*3+j) (by unfold thCells;rw [length_cells _ 3 hth_len];have:=(List.getElem?_eq_some_iff.1 ha).1;omega) u
 have e:(thCells H).set (i*3+j) u=thCells (H.set i a'):=set_cells _ 3 hth_len H i j hj u a a' ha hc;rwa [e] at this
theorem ThsG.upd (L:LiesOk R sz) (h:ThsG R sz ty w T F id g H ths) (hx:WExt T T' id w) (hsep:WSep w' T' F) (hk:Keeps (fun k=>k=g \/ T k=some (id, .regs i) \/ T k=some (id, .fs i)) w w') {a':HTh} {t':WTh}
 (hr:RowAt w' g (thCells (H.set i a'))) (h1:a'.st=t'.st) (h2:IRow w' T' id (.regs i) a'.rv t'.regs) (h3:FsAt R sz ty w' T' F id i a'.fv t'.fs):ThsG R sz ty w' T' F id g (H.set i a') (ths.set i t'):=by
 refine ⟨hx.1 _ _ h.tag,hsep,hr,by simp [h.len],fun k b t hb ht=>?_⟩
 by_cases e:i=k
 ·subst e
  rw [List.getElem?_set_self'] at hb ht;obtain ⟨b0,hb0,rfl⟩:=Option.map_eq_some_iff.1 hb;obtain ⟨t0,ht0,rfl⟩:=Option.map_eq_some_iff.1 ht;exact ⟨h1,h2,h3⟩
 ·rw [List.getElem?_set_ne e] at hb ht
  obtain ⟨e1,e2,e3⟩:=h.each k b t hb ht
  have hF:∀ q,F q -> ¬ (q=g \/ T q=some (id, .regs i) \/ T q=some (id, .fs i)):=fun q hq hn=>by
   have:=h.sep.sep q hq
   rcases hn with rfl | hn | hn
   ·rw [h.tag] at this;cases this
   ·rw [hn] at this;cases this
   ·rw [hn] at this;cases this
  refine ⟨e1,(e2.keeps hk (fun q hq hn=>?_)).ext hx.1,(FsAt.keeps L e3 hk (fun q hq hn=>?_) hF).ext hx.1⟩
  ·rcases hn with rfl | hn | hn
   ·rw [h.tag] at hq;cases hq
   ·rw [hn] at hq;cases hq;exact e rfl
   ·rw [hn] at hq;cases hq
  ·rcases hn with rfl | hn | hn
   ·rw [h.tag] at hq;cases hq
   ·rw [hn] at hq;cases hq
   ·rw [hn] at hq;cases hq;exact e rfl
theorem upd_keeps (h:ThsG R sz ty w T F id g H ths) (hk:Keeps (fun k=>k=g \/ T k=some (id, .regs i) \/ T k=some (id, .fs i)) w w'):Keeps (WThb T id) w w' :=
 hk.mono (fun k _ hn=>by
  rcases hn with rfl | hn | hn
  ·exact .inl h.tag
  ·exact .inr ⟨i, .inl hn⟩
  ·exact .inr ⟨i, .inr hn⟩)
end
end Go.Proofs.YtnmifekgdkgknaaGreatDoor
