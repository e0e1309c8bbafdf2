/- Layer R: texts joined. -/
import Derived.Test.YtnmifekgdkgknaaGreatDoorR04
import Derived.Test.YtnmifekgdkgknaaGreatDoorR21
import Derived.Test.YtnmifekgdkgknaaGreatDoorR26
set_option linter.unusedVariables false
set_option linter.unusedSimpArgs false
set_option linter.unnecessarySimpa false
namespace Go.Proofs.YtnmifekgdkgknaaGreatDoor
theorem Ac.may_eq {u:Un} {regs:Int} {a:Ac} (h:Ac.may u regs a=true):acLeaf u regs a.kind a.reg a.obj a.ex a.count a.thn.length a.els.length=true /\ Ac.mayL u regs a.thn=true /\ Ac.mayL u regs a.els=true:=by
 cases a;simp only [Ac.may,Bool.and_eq_true] at h;exact ⟨h.1.1,h.1.2,h.2⟩
theorem Ac.may_kind {u:Un} {regs:Int} {a:Ac} (h:Ac.may u regs a=true):1 <= a.kind /\ a.kind <= 11:=by
 have h1:=(Ac.may_eq h).1;unfold acLeaf at h1;simp only [Bool.and_eq_true,decide_eq_true_eq] at h1;exact ⟨h1.1.1.1.1.1.1.1,h1.1.1.1.1.1.1.2⟩
theorem Ac.may_reg {u:Un} {regs:Int} {a:Ac} (h:Ac.may u regs a=true) (hk:a.kind=1 \/ a.kind=2 \/ a.kind=4):0 <= a.reg /\ a.reg < regs:=by
 have h1:=(Ac.may_eq h).1;unfold acLeaf at h1;have hf:(fields a.kind).reg=true:=by rcases hk with e | e | e <;> rw [e] <;> rfl
 rw [if_pos hf] at h1;simp only [Bool.and_eq_true,decide_eq_true_eq] at h1;exact ⟨h1.1.1.1.1.1.2.1,h1.1.1.1.1.1.2.2⟩
theorem Ac.may_obj {u:Un} {regs:Int} {a:Ac} (h:Ac.may u regs a=true) (hk:2 <= a.kind /\ a.kind <= 8):0 <= a.obj /\ a.obj < thingsN u a.kind:=by
 have h1:=(Ac.may_eq h).1;unfold acLeaf at h1
 have hf:(fields a.kind).name=true:=by
  rcases (show a.kind=2 \/ a.kind=3 \/ a.kind=4 \/ a.kind=5 \/ a.kind=6 \/ a.kind=7 \/ a.kind=8 by omega) with e | e | e | e | e | e | e <;> rw [e] <;> rfl
 rw [if_pos hf] at h1;simp only [Bool.and_eq_true,decide_eq_true_eq] at h1;exact ⟨h1.1.1.1.1.2.1,h1.1.1.1.1.2.2⟩
theorem Ac.may_ex {u:Un} {regs:Int} {a:Ac} (h:Ac.may u regs a=true) (hk:a.kind=1 \/ a.kind=3 \/ a.kind=4 \/ a.kind=9 \/ a.kind=10):a.ex.may regs=true:=by
 have h1:=(Ac.may_eq h).1;unfold acLeaf at h1;have hf:(fields a.kind).ex=true:=by rcases hk with e | e | e | e | e <;> rw [e] <;> rfl
 rw [if_pos hf] at h1;simp only [Bool.and_eq_true,decide_eq_true_eq] at h1;exact h1.1.1.1.2
theorem Ac.may_count {u:Un} {regs:Int} {a:Ac} (h:Ac.may u regs a=true) (hk:a.kind=11):0 <= a.count /\ a.count <= 1000:=by
 have h1:=(Ac.may_eq h).1;unfold acLeaf at h1;have hf:(fields a.kind).count=true:=by rw [hk];rfl
 rw [if_pos hf] at h1;simp only [Bool.and_eq_true,decide_eq_true_eq] at h1;exact ⟨h1.1.1.2.1,h1.1.1.2.2⟩
theorem Ac.mayL_mem {u:Un} {regs:Int} {l:List Ac} (h:Ac.mayL u regs l=true) {a:Ac} (ha:a ∈ l):Ac.may u regs a=true:=by
 induction l with
 | nil=>cases ha
 | cons x r ih =>
   simp only [Ac.mayL,Bool.and_eq_true] at h;rcases List.mem_cons.1 ha with e | e
   ·subst e;exact h.1
   ·exact ih h.2 e
theorem Ac.mayL_cons {u:Un} {regs:Int} {x:Ac} {r:List Ac} (h:Ac.mayL u regs (x :: r)=true):Ac.may u regs x=true /\ Ac.mayL u regs r=true:=by
 simpa only [Ac.mayL,Bool.and_eq_true] using h
mutual
def Ac.h:Ac -> Nat
 | .mk _ _ _ _ _ t e=>1+max (Ac.hL t) (Ac.hL e)
def Ac.hL:List Ac -> Nat
 | []=>0
 | x :: r=>max (Ac.h x) (Ac.hL r)
end
theorem Ac.h_eq (x:Ac):x.h=1+max (Ac.hL x.thn) (Ac.hL x.els):=by cases x;rw [Ac.h];rfl
mutual
theorem Ac.h_cnt:(x:Ac) -> x.h <= x.cnt
 | .mk _ _ _ ex _ t e=>by
   have h1:=Ac.hL_cnt t;have h2:=Ac.hL_cnt e;simp only [Ac.h,Ac.cnt];omega
theorem Ac.hL_cnt:(l:List Ac) -> Ac.hL l <= Ac.cntL l
 | []=>Nat.le_refl _
 | x :: r=>by
   have h1:=Ac.h_cnt x;have h2:=Ac.hL_cnt r;simp only [Ac.hL,Ac.cntL];omega
end
def lowF (fs:List WFr):Prop:=fs.length <= 1001 /\ ∀ (j:Nat) (f:WFr),fs[j]?=some f -> Ac.hL f.rest+j <= 1000 /\ Ac.hL f.all+j <= 1000
theorem lowF_snoc {fs:List WFr} {f:WFr} (h:lowF fs) (h1:fs.length <= 1000) (h2:Ac.hL f.rest+fs.length <= 1000) (h3:Ac.hL f.all+fs.length <= 1000):lowF (fs++[f]):=by
 refine ⟨by simp;omega,fun j g e=>?_⟩
 rcases Nat.lt_or_ge j fs.length with hj | hj
 ·rw [List.getElem?_append_left hj] at e
  exact h.2 j g e
 ·rw [List.getElem?_append_right hj] at e
  have hz:j - fs.length=0:=by
   have:=(List.getElem?_eq_some_iff.1 e).1
   simpa using this
  rw [hz] at e;simp only [List.getElem?_cons_zero,Option.some.injEq] at e;subst e;exact ⟨by omega,by omega⟩
theorem lowF_init {fs:List WFr} (h:lowF fs):lowF fs.dropLast :=
 ⟨by rw [List.length_dropLast];have:=h.1;omega,fun j f e=>by
  have hj:=(List.getElem?_eq_some_iff.1 e).1;rw [List.length_dropLast] at hj;refine h.2 j f ?_
  rw [List.getElem?_dropLast,if_pos hj] at e;exact e⟩
theorem lowF_last {fs:List WFr} {f:WFr} (h:lowF fs) (hl:fs.getLast?=some f):fs.dropLast.length+1=fs.length /\ fs.dropLast.length <= 1000 /\ Ac.hL f.rest+fs.dropLast.length <= 1000 /\ Ac.hL f.all+fs.dropLast.length <= 1000:=by
 have hs:=last_split hl
 have hn:fs.length=fs.dropLast.length+1:=by
  have:=congrArg List.length hs
  simpa using this
 have e:fs[fs.dropLast.length]?=some f:=by
  have:fs[fs.dropLast.length]?=(fs.dropLast++[f])[fs.dropLast.length]?:=congrArg (fun l=>l[fs.dropLast.length]?) hs
  rw [this,List.getElem?_append_right (Nat.le_refl _)];simp
 have h2:=h.2 _ _ e;have h1:=h.1;exact ⟨hn.symm,by omega,h2.1,h2.2⟩
theorem loc1_low {r r':List Int} {fs fs':List WFr} (h:loc1 r fs=some (r',fs')) (hf:lowF fs):lowF fs':=by
 unfold loc1 at h;cases hl:fs.getLast? with
 | none=>rw [hl] at h;cases h
 | some f =>
   obtain ⟨l1,l2,l3,l4⟩:=lowF_last hf hl;have hi:=lowF_init hf;rw [hl] at h;simp only at h;cases hr:f.rest with
   | nil =>
     rw [hr] at h;simp only [Option.some.injEq,Prod.mk.injEq] at h;obtain ⟨_,rfl⟩:=h;split
     ·exact lowF_snoc hi l2 l4 l4
     ·exact hi
   | cons a tl =>
     rw [hr] at h l3;have hh:=Ac.h_eq a;simp only [Ac.hL] at l3;have hb:lowF (fs.dropLast++[(⟨tl,f.all,f.left⟩:WFr)]):=lowF_snoc hi l2 (by show Ac.hL tl+_ <= _;omega) l4;have hbl:(fs.dropLast++[(⟨tl,f.all,f.left⟩:WFr)]).length=fs.dropLast.length+1:=by rw [List.length_append];rfl
     simp only at h;split at h
     ·simp only [Option.some.injEq,Prod.mk.injEq] at h
      obtain ⟨_,rfl⟩:=h;exact hb
     ·split at h
      ·simp only [Option.some.injEq,Prod.mk.injEq] at h
       obtain ⟨_,rfl⟩:=h;have hc:Ac.hL (if a.ex.val r ≠ 0 then a.thn else a.els)+1 <= a.h:=by split <;> omega
       exact lowF_snoc hb (by rw [hbl];omega) (by rw [hbl];show Ac.hL (if a.ex.val r ≠ 0 then a.thn else a.els)+_ <= _;omega) (by rw [hbl];show Ac.hL (if a.ex.val r ≠ 0 then a.thn else a.els)+_ <= _;omega)
      ·split at h
       ·simp only [Option.some.injEq,Prod.mk.injEq] at h
        obtain ⟨_,rfl⟩:=h;split
        ·exact lowF_snoc hb (by rw [hbl];omega) (by rw [hbl];show Ac.hL a.thn+_ <= _;omega) (by rw [hbl];show Ac.hL a.thn+_ <= _;omega)
        ·exact hb
       ·cases h
def WFr.ok (u:Un) (regs:Int) (f:WFr):Prop:=Ac.mayL u regs f.rest=true /\ Ac.mayL u regs f.all=true /\ f.left <= 1000
structure FsOk (u:Un) (regs:Int) (fs:List WFr):Prop where
 each:∀ f,f ∈ fs -> f.ok u regs
 low:lowF fs
def WTh.ok (u:Un) (b:Bd) (t:WTh):Prop :=
 (t.st=1 \/ t.st=2 \/ t.st=3 \/ t.st=4) /\ (t.st ≠ 1 -> t.regs.length=b.regs.toNat /\ FsOk u b.regs t.fs) /\ (t.st=2 -> loc1 t.regs t.fs=none)
structure WMa.ok (u:Un) (m:WMa):Prop where
 cells:m.cells.length=u.cells.length
 owners:m.owners.length=u.mutexes.toNat
 ths:m.ths.length=u.threads.length
 own:∀ o,o ∈ m.owners -> -1 <= o
 each:∀ (i:Nat) (t:WTh) (b:Bd),m.ths[i]?=some t -> u.threads[i]?=some b -> t.ok u b
theorem loc1_ok {u:Un} {n:Int} {r r':List Int} {fs fs':List WFr} (h:loc1 r fs=some (r',fs')) (hf:∀ f,f ∈ fs -> f.ok u n):r'.length=r.length /\ ∀ f,f ∈ fs' -> f.ok u n:=by
 unfold loc1 at h;cases hl:fs.getLast? with
 | none=>rw [hl] at h;cases h
 | some f =>
   have hs:=last_split hl;have hfo:f.ok u n:=hf f (by rw [hs];simp);have hd:∀ g,g ∈ fs.dropLast -> g.ok u n:=fun g hg=>hf g (List.dropLast_subset _ hg)
   rw [hl] at h;simp only at h;cases hr:f.rest with
   | nil =>
     rw [hr] at h;simp only [Option.some.injEq,Prod.mk.injEq] at h;obtain ⟨rfl,rfl⟩:=h;refine ⟨rfl,fun g hg=>?_⟩
     split at hg
     ·rcases List.mem_append.1 hg with hg | hg
      ·exact hd g hg
      ·obtain rfl:g=⟨f.all,f.all,f.left - 1⟩:=by simpa using hg
       exact ⟨hfo.2.1,hfo.2.1,by have:=hfo.2.2;show f.left - 1 <= 1000;omega⟩
     ·exact hd g hg
   | cons a tl =>
     rw [hr] at h;have h0:=hfo.1;rw [hr] at h0;obtain ⟨ha,hm⟩:=Ac.mayL_cons h0;obtain ⟨_,hat,hae⟩:=Ac.may_eq ha
     have hb:∀ g,g ∈ fs.dropLast++[(⟨tl,f.all,f.left⟩:WFr)] -> g.ok u n:=fun g hg=>by
      rcases List.mem_append.1 hg with hg | hg
      ·exact hd g hg
      ·obtain rfl:g=⟨tl,f.all,f.left⟩:=by simpa using hg
       exact ⟨hm,hfo.2⟩
     simp only at h;split at h
     ·simp only [Option.some.injEq,Prod.mk.injEq] at h
      obtain ⟨rfl,rfl⟩:=h;exact ⟨by simp,hb⟩
     ·split at h
      ·simp only [Option.some.injEq,Prod.mk.injEq] at h
       obtain ⟨rfl,rfl⟩:=h;refine ⟨rfl,fun g hg=>?_⟩
       rcases List.mem_append.1 hg with hg | hg
       ·exact hb g hg
       ·have hg2:g=⟨if a.ex.val r ≠ 0 then a.thn else a.els,if a.ex.val r ≠ 0 then a.thn else a.els,1⟩:=by simpa using hg
        rw [hg2];by_cases q:a.ex.val r ≠ 0
        ·rw [if_pos q];exact ⟨hat,hat,by show 1 <= 1000;omega⟩
        ·rw [if_neg q];exact ⟨hae,hae,by show 1 <= 1000;omega⟩
      ·split at h
       ·simp only [Option.some.injEq,Prod.mk.injEq] at h
        obtain ⟨rfl,rfl⟩:=h;refine ⟨rfl,fun g hg=>?_⟩
        split at hg
        ·rcases List.mem_append.1 hg with hg | hg
         ·exact hb g hg
         ·obtain rfl:g=⟨a.thn,a.thn,a.count.toNat⟩:=by simpa using hg
          exact ⟨hat,hat,by have:=(Ac.may_count ha (by assumption)).2;show a.count.toNat <= 1000;omega⟩
        ·exact hb g hg
       ·cases h
theorem loc_ok {u:Un} {n:Int} {r:List Int} {fs:List WFr} (hf:FsOk u n fs):((loc r fs).1.length=r.length /\ FsOk u n (loc r fs).2) /\ loc1 (loc r fs).1 (loc r fs).2=none :=
 loc_ind (P:=fun r' fs'=>r'.length=r.length /\ FsOk u n fs') (fun r1 fs1 r2 fs2 hp h=>⟨(loc1_ok h hp.2.each).1.trans hp.1,(loc1_ok h hp.2.each).2,loc1_low h hp.2.low⟩) ⟨rfl,hf⟩
theorem next_step {u:Un} {n:Int} {t:WTh} (hl:loc1 t.regs t.fs=none) (hf:FsOk u n t.fs):(t.next=none /\ t.fs=[]) \/ ∃ a f r,t.next=some a /\ t.fs.getLast?=some f /\ f.rest=a :: r /\ Ac.may u n a=true /\ 2 <= a.kind /\ a.kind <= 9:=by
 unfold loc1 at hl;unfold WTh.next;cases h:t.fs.getLast? with
 | none=>exact .inl ⟨rfl,by simpa using h⟩
 | some f =>
   rw [h] at hl;simp only at hl;have hfo:f.ok u n:=hf.each f (by rw [last_split h];simp);cases hr:f.rest with
   | nil=>rw [hr] at hl;cases hl
   | cons a r =>
     rw [hr] at hl;have h0:=hfo.1;rw [hr] at h0;obtain ⟨ha,_⟩:=Ac.mayL_cons h0;obtain ⟨k1,k2⟩:=Ac.may_kind ha;refine .inr ⟨a,f,r,by simp [hr],rfl,hr,ha,?_,?_⟩
     ·simp only at hl
      by_cases q:a.kind=1
      ·rw [if_pos q] at hl;cases hl
      ·omega
     ·simp only at hl
      split at hl
      ·cases hl
      ·split at hl
       ·cases hl
       ·split at hl
        ·cases hl
        ·omega
theorem rightU_all {u:Un} (h:rightU u=true):1 <= u.threads.length /\ u.threads.length <= 8 /\ u.cells.length <= 8 /\ 0 <= u.mutexes /\ u.mutexes <= 8 /\ ∀ b,b ∈ u.threads -> 0 <= b.regs /\ b.regs <= 8 /\ Ac.mayL u b.regs b.acts=true /\ Ac.hL b.acts <= 500:=by
 unfold rightU at h;simp only [Bool.and_eq_true,decide_eq_true_eq] at h;obtain ⟨⟨⟨⟨⟨⟨⟨⟨h1,h2⟩,h3⟩,h4⟩,h5⟩,h6⟩,h7⟩,h8⟩,h9⟩:=h;refine ⟨h1,h2,h3,h4,h5,fun b hb=>?_⟩
 have:=List.all_eq_true.1 h7 b hb
 simp only [Bool.and_eq_true,decide_eq_true_eq] at this;refine ⟨this.1.1,this.1.2,this.2,?_⟩
 have hc:∀ l:List Bd,b ∈ l -> Ac.cntL b.acts <= (l.map fun b=>Ac.cntL b.acts).foldr (·+·) 0:=fun l=>by
  induction l with
  | nil=>intro hb;cases hb
  | cons x r ih =>
    intro hb
    simp only [List.map_cons,List.foldr_cons];rcases List.mem_cons.1 hb with e | e
    ·subst e;omega
    ·have:=ih e;omega
 have h1:=hc u.threads hb;have h2:=Ac.hL_cnt b.acts;omega
theorem begT_ok {u:Un} {b:Bd} (h:Ac.mayL u b.regs b.acts=true) (hh:Ac.hL b.acts <= 500):(begT b).ok u b /\ (begT b).st=2:=by
 have h1:=loc_ok (u:=u) (n:=b.regs) (r:=List.replicate b.regs.toNat 0) (fs:=[⟨b.acts,b.acts,1⟩]) ⟨fun f hf=>by
  obtain rfl:f=⟨b.acts,b.acts,1⟩:=by simpa using hf
  exact ⟨h,h,by show 1 <= 1000;omega⟩,lowF_snoc (fs:=[]) ⟨Nat.zero_le _,fun j f e=>by cases e⟩ (Nat.zero_le _) (by show Ac.hL b.acts+0 <= _;omega) (by show Ac.hL b.acts+0 <= _;omega)⟩
 refine ⟨⟨.inr (.inl rfl),fun _=>⟨h1.1.1.trans (by simp),h1.1.2⟩,fun _=>h1.2⟩,rfl⟩
theorem WMa.get_eq {m:WMa} {i:Nat} {t:WTh} (h:m.ths[i]?=some t):m.get i=t:=by simp [WMa.get,List.getD,h]
theorem WMa.get_some {m:WMa} {i:Nat} (h:i < m.ths.length):m.ths[i]?=some (m.get i):=by
 rw [List.getElem?_eq_getElem h];simp [WMa.get,List.getD,h]
theorem WMa.setT_len (m:WMa) (i:Nat) (t:WTh):(m.setT i t).ths.length=m.ths.length:=by simp [WMa.setT]
theorem WMa.setT_get (m:WMa) (i:Nat) (t:WTh) (hi:i < m.ths.length):(m.setT i t).get i=t:=by simp [WMa.setT,WMa.get,List.getD,hi]
theorem WMa.setT_ne (m:WMa) {i j:Nat} (t:WTh) (h:i ≠ j):(m.setT i t).get j=m.get j:=by
 show (m.ths.set i t).getD j WTh.zero=_
 unfold WMa.get;rw [List.getD,List.getD,List.getElem?_set_ne h]
theorem WMa.ok.setT {u:Un} {m:WMa} (h:m.ok u) {i:Nat} {t:WTh} (ht:∀ b,u.threads[i]?=some b -> t.ok u b):(m.setT i t).ok u:=by
 refine ⟨h.cells,h.owners,by rw [WMa.setT_len];exact h.ths,h.own,fun j t' b e1 e2=>?_⟩
 have e1':(m.ths.set i t)[j]?=some t':=e1;rw [List.getElem?_set] at e1';split at e1'
 ·rename_i he
  subst he;split at e1'
  ·cases e1';exact ht b e2
  ·cases e1'
 ·exact h.each j t' b e1' e2
theorem WMa.ok.th {u:Un} {m:WMa} (h:m.ok u) {i:Nat} (hi:i < m.ths.length):∃ b,u.threads[i]?=some b /\ (m.get i).ok u b /\ u.body i=b:=by
 have hi2:i < u.threads.length:=by rw [<- h.ths];exact hi
 refine ⟨u.threads[i],List.getElem?_eq_getElem hi2,h.each i _ _ (WMa.get_some hi) (List.getElem?_eq_getElem hi2),?_⟩
 unfold Un.body;simp [List.getD,hi2]
theorem begM_ok {u:Un} (hr:rightU u=true) {m:WMa} (h:m.ok u) (i:Nat):(begM u m i).ok u:=by
 refine h.setT (fun b hb=>?_)
 have hm:=(rightU_all hr).2.2.2.2.2 b (List.mem_of_getElem? hb);have e:u.body i=b:=by unfold Un.body;simp [List.getD,hb]
 rw [e];exact (begT_ok hm.2.2.1 hm.2.2.2).1
theorem newM_ok {u:Un} (hr:rightU u=true):(newM u).ok u:=by
 refine begM_ok hr ⟨rfl,by simp,by simp,fun o ho=>?_,fun i t b e1 e2=>?_⟩ 0
 ·obtain ⟨_,rfl⟩:=List.mem_replicate.1 ho
  exact Int.le_refl _
 ·rw [List.getElem?_map] at e1
  obtain ⟨b',_,rfl⟩:=Option.map_eq_some_iff.1 e1;exact ⟨.inl rfl,fun h=>absurd rfl h,fun h=>by cases h⟩
theorem on_local_ok {u:Un} {b:Bd} {t:WTh} (h:t.ok u b) (h2:t.st=2):t.on.local.ok u b /\ t.on.local.st=2:=by
 obtain ⟨hl,hf⟩:=h.2.1 (by rw [h2];decide)
 have hfo:FsOk u b.regs t.on.fs:=by
  unfold WTh.on;cases e:t.fs.getLast? with
  | none=>exact hf
  | some f =>
    obtain ⟨l1,l2,l3,l4⟩:=lowF_last hf.low e
    refine ⟨fun g hg=>?_,lowF_snoc (lowF_init hf.low) l2 (by
     show Ac.hL f.rest.tail+_ <= _
     cases hr:f.rest with
     | nil=>simp only [List.tail_nil,Ac.hL];omega
     | cons a tl=>rw [hr] at l3;simp only [Ac.hL] at l3;simp only [List.tail_cons];omega) l4⟩
    have hs:=last_split e;have hfl:f.ok u b.regs:=hf.each f (by rw [hs];simp);rcases List.mem_append.1 hg with hg | hg
    ·exact hf.each g (List.dropLast_subset _ hg)
    ·obtain rfl:g=⟨f.rest.tail,f.all,f.left⟩:=by simpa using hg
     refine ⟨?_,hfl.2⟩
     have:=hfl.1
     cases hr:f.rest with
     | nil=>simp [Ac.mayL]
     | cons a r =>
       rw [hr] at this;exact (Ac.mayL_cons this).2
 have hst:t.on.st=t.st:=by unfold WTh.on;split <;> rfl
 have hre:t.on.regs=t.regs:=by unfold WTh.on;split <;> rfl
 have h1:=loc_ok (u:=u) (n:=b.regs) (r:=t.on.regs) (fs:=t.on.fs) hfo;refine ⟨⟨.inr (.inl (by show t.on.st=2;rw [hst];exact h2)),fun _=>⟨?_,h1.1.2⟩,fun _=>h1.2⟩,by show t.on.st=2;rw [hst];exact h2⟩
 show (loc t.on.regs t.on.fs).1.length=_
 rw [h1.1.1,hre];exact hl
theorem WTh.ok.regs {u:Un} {b:Bd} {t:WTh} (h:t.ok u b) (k:Nat) (v:Int) (hs:t.st=2 -> loc1 (t.regs.set k v) t.fs=none):WTh.ok u b { t with regs:=t.regs.set k v } :=
 ⟨h.1,fun h1=>⟨by rw [List.length_set];exact (h.2.1 h1).1,(h.2.1 h1).2⟩,hs⟩
theorem loc1_regs {r r':List Int} {fs:List WFr} (h:loc1 r fs=none):loc1 r' fs=none:=by
 unfold loc1 at h ⊢;cases hl:fs.getLast? with
 | none=>rfl
 | some f =>
   rw [hl] at h;simp only at h ⊢;cases hr:f.rest with
   | nil=>rw [hr] at h;cases h
   | cons a t =>
     rw [hr] at h;simp only at h ⊢;split at h
     ·cases h
     ·rename_i q1
      rw [if_neg q1];split at h
      ·cases h
      ·rename_i q2
       rw [if_neg q2];split at h
       ·cases h
       ·rename_i q3
        rw [if_neg q3]
theorem doM_ok {u:Un} (hr:rightU u=true) {m:WMa} (h:m.ok u) {i:Nat} (hi:i < m.ths.length) (a:Ac):(doM u m i a).1.ok u /\ (doM u m i a).1.ths.length=m.ths.length:=by
 have hset:∀ k v,(m.setT i { m.get i with regs:=(m.get i).regs.set k v }).ok u:=fun k v=>h.setT (fun b hb=>by
  obtain ⟨b',e,hok,_⟩:=h.th hi;rw [hb] at e;cases e;exact hok.regs k v (fun h2=>loc1_regs (hok.2.2 h2)))
 have hcell:∀ k v,WMa.ok u { m with cells:=m.cells.set k v }:=fun k v=>⟨by simp [h.cells],h.owners,h.ths,h.own,h.each⟩
 have hown:∀ k (v:Int),-1 <= v -> WMa.ok u { m with owners:=m.owners.set k v }:=fun k v hv=>⟨h.cells,by simp [h.owners],h.ths,fun o ho=>by
  rcases List.mem_or_eq_of_mem_set ho with ho | ho
  ·exact h.own o ho
  ·subst ho;exact hv,h.each⟩
 unfold doM;simp only
 split
 ·exact ⟨hset _ _,by rw [WMa.setT_len]⟩
 ·split
  ·exact ⟨hcell _ _,rfl⟩
  ·split
   ·refine ⟨?_,by rw [WMa.setT_len]⟩
    have:=hset a.reg.toNat (m.cells.getD a.obj.toNat 0)
    exact ⟨by simp [WMa.setT,h.cells],this.owners,this.ths,this.own,this.each⟩
   ·split
    ·exact ⟨hown _ _ (by omega),rfl⟩
    ·split
     ·split
      ·exact ⟨hown _ _ (by omega),rfl⟩
      ·exact ⟨h,rfl⟩
     ·split
      ·split
       ·exact ⟨begM_ok hr h _,by unfold begM;rw [WMa.setT_len]⟩
       ·exact ⟨h,rfl⟩
      ·split
       ·split <;> exact ⟨h,rfl⟩
       ·exact ⟨h,rfl⟩
theorem doM_self {u:Un} {m:WMa} {i:Nat} (hi:i < m.ths.length) (h2:(m.get i).st=2) (a:Ac):((doM u m i a).1.get i).st=2 /\ ((doM u m i a).1.get i).fs=(m.get i).fs:=by
 have hs:∀ (c:List Int) (o:List Int) (t:WTh),(WMa.setT ⟨c,o,m.ths⟩ i t).get i=t:=fun c o t=>WMa.setT_get _ _ _ hi
 unfold doM;simp only
 split
 ·rw [hs];exact ⟨h2,rfl⟩
 ·split
  ·exact ⟨h2,rfl⟩
  ·split
   ·rw [hs];exact ⟨h2,rfl⟩
   ·split
    ·exact ⟨h2,rfl⟩
    ·split
     ·split <;> exact ⟨h2,rfl⟩
     ·split
      ·split
       ·rename_i q
        have hne:a.obj.toNat ≠ i:=fun e=>by rw [e,h2] at q;cases q
        unfold begM;rw [WMa.setT_ne _ _ hne];exact ⟨h2,rfl⟩
       ·exact ⟨h2,rfl⟩
      ·split
       ·split <;> exact ⟨h2,rfl⟩
       ·exact ⟨h2,rfl⟩
theorem doneM_ok {u:Un} (hr:rightU u=true) {m:WMa} (h:m.ok u) {i:Nat} (hi:i < m.ths.length) (h2:(m.get i).st=2):(doneM u m i).1.ok u /\ (doneM u m i).1.ths.length=m.ths.length:=by
 unfold doneM;cases hn:(m.get i).next with
 | none =>
   refine ⟨h.setT (fun b hb=>?_),by rw [WMa.setT_len]⟩
   obtain ⟨b',e,hok,_⟩:=h.th hi;rw [hb] at e;cases e;exact ⟨.inr (.inr (.inl rfl)),fun _=>hok.2.1 (by rw [h2];decide),fun q=>by cases q⟩
 | some a =>
   obtain ⟨g1,g2⟩:=doM_ok hr h hi a;obtain ⟨s1,s2⟩:=doM_self (u:=u) hi h2 a;have hi':i < (doM u m i a).1.ths.length:=by rw [g2];exact hi
   simp only
   split
   ·refine ⟨g1.setT (fun b hb=>?_),by rw [WMa.setT_len,g2]⟩
    obtain ⟨b',e,hok,_⟩:=g1.th hi';rw [hb] at e;cases e;exact ⟨.inr (.inr (.inr rfl)),fun _=>hok.2.1 (by rw [s1];decide),fun q=>by cases q⟩
   ·refine ⟨g1.setT (fun b hb=>?_),by rw [WMa.setT_len,g2]⟩
    obtain ⟨b',e,hok,_⟩:=g1.th hi';rw [hb] at e;cases e;exact (on_local_ok hok s1).1
theorem refM_zero {m:WMa} {i:Int} (h:refM m i=0):0 <= i /\ i < m.ths.length /\ (m.get i.toNat).st ≠ 1 /\ (m.get i.toNat).st ≠ 3 /\ (m.get i.toNat).st ≠ 4 /\ ableM m i.toNat=true:=by
 unfold refM at h;split at h
 ·cases h
 ·rename_i q
  simp only at h;split at h
  ·cases h
  ·split at h
   ·cases h
   ·split at h
    ·cases h
    ·split at h
     ·rename_i q1 q2 q3 q4
      exact ⟨by omega,by omega,q1,q2,q3,q4⟩
     ·cases h
theorem stepM_ok {u:Un} (hr:rightU u=true) {m:WMa} (h:m.ok u) (i:Int):(stepM u m i).1.ok u /\ (stepM u m i).1.ths.length=m.ths.length:=by
 unfold stepM;split
 ·rename_i q
  obtain ⟨h1,h2,h3,h4,h5,_⟩:=refM_zero q;have hi:i.toNat < m.ths.length:=by omega
  obtain ⟨b,_,hok,_⟩:=h.th hi;have hst:(m.get i.toNat).st=2:=by rcases hok.1 with e | e | e | e <;> first | exact e | exact absurd e h3 | exact absurd e h4 | exact absurd e h5
  exact doneM_ok hr h hi hst
 ·exact ⟨h,rfl⟩
end Go.Proofs.YtnmifekgdkgknaaGreatDoor
