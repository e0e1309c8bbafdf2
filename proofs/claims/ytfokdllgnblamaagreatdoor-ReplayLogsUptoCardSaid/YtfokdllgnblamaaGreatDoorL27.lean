/- Layer L: texts joined. -/
import Derived.Test.YtfokdllgnblamaaGreatDoorL26
set_option linter.all false
namespace Go.Proofs.YtfokdllgnblamaaGreatDoor
abbrev kY:=@List.mem_append
theorem J60 (P:Prop) (h:P:=by
 obtain rfl:g=⟨f.rest.tail,f.all,f.left⟩:=by simpa using hg
 refine ⟨?_,hfl.2⟩
 have:=hfl.1
 cases hr:f.rest with
 | nil=>simp [Ac.zAC]
 | cons a r =>
   rw [hr] at this;exact (Ac.zCq this).2):P:=h
theorem J88 (P:Prop) (h:P:=by
 rw [uO] at e1;obtain ⟨b',_,rfl⟩:=Option.map_eq_some_iff.1 e1;exact ⟨.inl rfl,fun h=>absurd rfl h,fun h=>by cases h⟩):P:=h
theorem J204 (P:Prop) (h:P:=by rcases hok.1 with e | e | e | e <;> first | exact e | exact absurd e h3 | exact absurd e h4 | exact absurd e h5):P:=h
theorem J219 (P:Prop) (h:P:=by rw [hbl];show Ac.hL (if a.ex.val r ≠ 0 then a.thn else a.els)+_ <= _;omega):P:=h
theorem Ac.zCx {u:Un} {regs:Int} {a:Ac} (h:Ac.may u regs a=true):zBA u regs a.kind a.reg a.obj a.ex a.count a.thn.length a.els.length=true /\ Ac.zAC u regs a.thn=true /\ Ac.zAC u regs a.els=true:=by
 cases a;simp only [Ac.may,yR] at h;exact ⟨h.1.1,h.1.2,h.2⟩
theorem Ac.zES {u:Un} {regs:Int} {a:Ac} (h:Ac.may u regs a=true):1 <= a.kind /\ a.kind <= 11:=by
 have h1:=(Ac.zCx h).1;unfold zBA at h1;simp only [yR,yS] at h1;exact ⟨h1.1.1.1.1.1.1.1,h1.1.1.1.1.1.1.2⟩
theorem Ac.zHD {u:Un} {regs:Int} {a:Ac} (h:Ac.may u regs a=true) (hk:a.kind=1 \/ a.kind=2 \/ a.kind=4):0 <= a.reg /\ a.reg < regs:=by
 have h1:=(Ac.zCx h).1;unfold zBA at h1;have hf:(fields a.kind).reg=true:=by rcases hk with e | e | e <;> rw [e] <;> rfl
 rw [if_pos hf] at h1;simp only [yR,yS] at h1;exact ⟨h1.1.1.1.1.1.2.1,h1.1.1.1.1.1.2.2⟩
theorem Ac.zFP {u:Un} {regs:Int} {a:Ac} (h:Ac.may u regs a=true) (hk:2 <= a.kind /\ a.kind <= 8):0 <= a.obj /\ a.obj < zAb u a.kind:=by
 have h1:=(Ac.zCx h).1;unfold zBA at h1
 have hf:(fields a.kind).name=true:=by
  rcases (show a.kind=2 \/ a.kind=3 \/ a.kind=4 \/ a.kind=5 \/ a.kind=6 \/ a.kind=7 \/ a.kind=8 by omega) with e | e | e | e | e | e | e <;> rw [e] <;> rfl
 rw [if_pos hf] at h1;simp only [yR,yS] at h1;exact ⟨h1.1.1.1.1.2.1,h1.1.1.1.1.2.2⟩
theorem Ac.zEv {u:Un} {regs:Int} {a:Ac} (h:Ac.may u regs a=true) (hk:a.kind=1 \/ a.kind=3 \/ a.kind=4 \/ a.kind=9 \/ a.kind=10):a.ex.may regs=true:=by
 have h1:=(Ac.zCx h).1;unfold zBA at h1;have hf:(fields a.kind).ex=true:=by rcases hk with e | e | e | e | e <;> rw [e] <;> rfl
 rw [if_pos hf] at h1;simp only [yR,yS] at h1;exact h1.1.1.1.2
theorem Ac.zJi {u:Un} {regs:Int} {a:Ac} (h:Ac.may u regs a=true) (hk:a.kind=11):0 <= a.count /\ a.count <= 1000:=by
 have h1:=(Ac.zCx h).1;unfold zBA at h1;have hf:(fields a.kind).count=true:=by rw [hk];rfl
 rw [if_pos hf] at h1;simp only [yR,yS] at h1;exact ⟨h1.1.1.2.1,h1.1.1.2.2⟩
theorem Ac.zKx {u:Un} {regs:Int} {a:Ac} (h:Ac.may u regs a=true) (hk:a.kind=9):a.obj=0:=by
 have h1:=(Ac.zCx h).1;unfold zBA at h1;have hf:(fields a.kind).name=false:=by rw [hk];rfl
 rw [hf] at h1;simp only [yR,uM,uU,beq_iff_eq] at h1;exact h1.1.1.1.1.2
theorem Ac.zHa {u:Un} {regs:Int} {l:List Ac} (h:Ac.zAC u regs l=true) {a:Ac} (ha:a ∈ l):Ac.may u regs a=true:=by
 induction l with
 | nil=>cases ha
 | cons x r ih =>
   simp only [Ac.zAC,yR] at h;rcases xU.1 ha with e | e
   ·subst e;exact h.1
   ·exact ih h.2 e
theorem Ac.zCq {u:Un} {regs:Int} {x:Ac} {r:List Ac} (h:Ac.zAC u regs (x :: r)=true):Ac.may u regs x=true /\ Ac.zAC u regs r=true:=by
 simpa only [Ac.zAC,yR] using h
mutual
def Ac.h:Ac -> Nat
 | .mk _ _ _ _ _ t e=>1+max (Ac.hL t) (Ac.hL e)
def Ac.hL:List Ac -> Nat
 | []=>0
 | x :: r=>max (Ac.h x) (Ac.hL r)
end
theorem Ac.h_eq (x:Ac):x.h=1+max (Ac.hL x.thn) (Ac.hL x.els):=by cases x;rw [Ac.h];rfl
mutual
theorem Ac.zOU:(x:Ac) -> x.h <= x.cnt
 | .mk _ _ _ ex _ t e=>by
   have h1:=Ac.zG2 t;have h2:=Ac.zG2 e;simp only [Ac.h,Ac.cnt];omega
theorem Ac.zG2:(l:List Ac) -> Ac.hL l <= Ac.zY l
 | []=>yV _
 | x :: r=>by
   have h1:=Ac.zOU x;have h2:=Ac.zG2 r;simp only [Ac.hL,Ac.zY];omega
end
def zGn (fs:List zx):Prop:=fs.length <= 1001 /\ ∀ (j:Nat) (f:zx),fs[j]?=some f -> Ac.hL f.rest+j <= 1000 /\ Ac.hL f.all+j <= 1000
theorem zBl {fs:List zx} {f:zx} (h:zGn fs) (h1:fs.length <= 1000) (h2:Ac.hL f.rest+fs.length <= 1000) (h3:Ac.hL f.all+fs.length <= 1000):zGn (fs++[f]):=by
 refine ⟨by simp;omega,fun j g e=>?_⟩
 rcases xL j fs.length with hj | hj
 ·rw [xK hj] at e
  exact h.2 j g e
 ·rw [yY hj] at e
  have hz:j - fs.length=0:=by
   have:=(yO.1 e).1
   simpa using this
  rw [hz] at e;simp only [yC,yP] at e;subst e;exact ⟨by omega,by omega⟩
theorem zEl {fs:List zx} (h:zGn fs):zGn fs.dropLast :=
 ⟨by rw [List.length_dropLast];have:=h.1;omega,fun j f e=>by
  have hj:=(yO.1 e).1;rw [List.length_dropLast] at hj;refine h.2 j f ?_
  rw [List.getElem?_dropLast,if_pos hj] at e;exact e⟩
theorem zEi {fs:List zx} {f:zx} (h:zGn fs) (hl:fs.getLast?=some f):fs.dropLast.length+1=fs.length /\ fs.dropLast.length <= 1000 /\ Ac.hL f.rest+fs.dropLast.length <= 1000 /\ Ac.hL f.all+fs.dropLast.length <= 1000:=by
 have hs:=zAY hl
 have hn:fs.length=fs.dropLast.length+1:=by
  have:=kK List.length hs
  simpa using this
 have e:fs[fs.dropLast.length]?=some f:=by
  have:fs[fs.dropLast.length]?=(fs.dropLast++[f])[fs.dropLast.length]?:=kK (fun l=>l[fs.dropLast.length]?) hs
  rw [this,yY (yV _)];simp
 have h2:=h.2 _ _ e;have h1:=h.1;exact ⟨hn.symm,by omega,h2.1,h2.2⟩
theorem zHt {r r':List Int} {fs fs':List zx} (h:zA3 r fs=some (r',fs')) (hf:zGn fs):zGn fs':=by
 unfold zA3 at h;cases hl:fs.getLast? with
 | none=>rw [hl] at h;cases h
 | some f =>
   obtain ⟨l1,l2,l3,l4⟩:=zEi hf hl;have hi:=zEl hf;rw [hl] at h;simp only at h;cases hr:f.rest with
   | nil =>
     rw [hr] at h;simp only [yP,xW] at h;obtain ⟨_,rfl⟩:=h;split
     ·exact zBl hi l2 l4 l4
     ·exact hi
   | cons a tl =>
     rw [hr] at h l3;have hh:=Ac.h_eq a;simp only [Ac.hL] at l3;have hb:zGn (fs.dropLast++[(⟨tl,f.all,f.left⟩:zx)]):=zBl hi l2 (by show Ac.hL tl+_ <= _;omega) l4;have hbl:(fs.dropLast++[(⟨tl,f.all,f.left⟩:zx)]).length=fs.dropLast.length+1:=by rw [xE];rfl
     simp only at h;split at h
     ·simp only [yP,xW] at h
      obtain ⟨_,rfl⟩:=h;exact hb
     ·split at h
      ·simp only [yP,xW] at h
       obtain ⟨_,rfl⟩:=h;have hc:Ac.hL (if a.ex.val r ≠ 0 then a.thn else a.els)+1 <= a.h:=by split <;> omega
       exact zBl hb (by rw [hbl];omega) (J219 _) (J219 _)
      ·split at h
       ·simp only [yP,xW] at h
        obtain ⟨_,rfl⟩:=h;split
        ·exact zBl hb (by rw [hbl];omega) (by rw [hbl];show Ac.hL a.thn+_ <= _;omega) (by rw [hbl];show Ac.hL a.thn+_ <= _;omega)
        ·exact hb
       ·cases h
def zx.ok (u:Un) (regs:Int) (f:zx):Prop:=Ac.zAC u regs f.rest=true /\ Ac.zAC u regs f.all=true /\ f.left <= 1000
structure zDp (u:Un) (regs:Int) (fs:List zx):Prop where
 each:∀ f,f ∈ fs -> f.ok u regs
 low:zGn fs
def WTh.ok (u:Un) (b:Bd) (t:WTh):Prop :=
 (t.st=1 \/ t.st=2 \/ t.st=3 \/ t.st=4) /\ (t.st ≠ 1 -> t.regs.length=b.regs.toNat /\ zDp u b.regs t.fs) /\ (t.st=2 -> zA3 t.regs t.fs=none)
structure ze.ok (u:Un) (m:ze):Prop where
 cells:m.cells.length=u.cells.length
 owners:m.owners.length=u.mutexes.toNat
 zL:m.zL.length=u.threads.length
 own:∀ o,o ∈ m.owners -> -1 <= o
 each:∀ (i:Nat) (t:WTh) (b:Bd),m.zL[i]?=some t -> u.threads[i]?=some b -> t.ok u b
theorem zHA {u:Un} {n:Int} {r r':List Int} {fs fs':List zx} (h:zA3 r fs=some (r',fs')) (hf:∀ f,f ∈ fs -> f.ok u n):r'.length=r.length /\ ∀ f,f ∈ fs' -> f.ok u n:=by
 unfold zA3 at h;cases hl:fs.getLast? with
 | none=>rw [hl] at h;cases h
 | some f =>
   have hs:=zAY hl;have hfo:f.ok u n:=hf f (by rw [hs];simp);have hd:∀ g,g ∈ fs.dropLast -> g.ok u n:=fun g hg=>hf g (List.dropLast_subset _ hg)
   rw [hl] at h;simp only at h;cases hr:f.rest with
   | nil =>
     rw [hr] at h;simp only [yP,xW] at h;obtain ⟨rfl,rfl⟩:=h;refine ⟨rfl,fun g hg=>?_⟩
     split at hg
     ·rcases kY.1 hg with hg | hg
      ·exact hd g hg
      ·obtain rfl:g=⟨f.all,f.all,f.left - 1⟩:=by simpa using hg
       exact ⟨hfo.2.1,hfo.2.1,by have:=hfo.2.2;show f.left - 1 <= 1000;omega⟩
     ·exact hd g hg
   | cons a tl =>
     rw [hr] at h;have h0:=hfo.1;rw [hr] at h0;obtain ⟨ha,hm⟩:=Ac.zCq h0;obtain ⟨_,hat,hae⟩:=Ac.zCx ha
     have hb:∀ g,g ∈ fs.dropLast++[(⟨tl,f.all,f.left⟩:zx)] -> g.ok u n:=fun g hg=>by
      rcases kY.1 hg with hg | hg
      ·exact hd g hg
      ·obtain rfl:g=⟨tl,f.all,f.left⟩:=by simpa using hg
       exact ⟨hm,hfo.2⟩
     simp only at h;split at h
     ·simp only [yP,xW] at h
      obtain ⟨rfl,rfl⟩:=h;exact ⟨by simp,hb⟩
     ·split at h
      ·simp only [yP,xW] at h
       obtain ⟨rfl,rfl⟩:=h;refine ⟨rfl,fun g hg=>?_⟩
       rcases kY.1 hg with hg | hg
       ·exact hb g hg
       ·have hg2:g=⟨if a.ex.val r ≠ 0 then a.thn else a.els,if a.ex.val r ≠ 0 then a.thn else a.els,1⟩:=by simpa using hg
        rw [hg2];by_cases q:a.ex.val r ≠ 0
        ·rw [if_pos q];exact ⟨hat,hat,by show 1 <= 1000;omega⟩
        ·rw [if_neg q];exact ⟨hae,hae,by show 1 <= 1000;omega⟩
      ·split at h
       ·simp only [yP,xW] at h
        obtain ⟨rfl,rfl⟩:=h;refine ⟨rfl,fun g hg=>?_⟩
        split at hg
        ·rcases kY.1 hg with hg | hg
         ·exact hb g hg
         ·obtain rfl:g=⟨a.thn,a.thn,a.count.toNat⟩:=by simpa using hg
          exact ⟨hat,hat,by have:=(Ac.zJi ha (by assumption)).2;show a.count.toNat <= 1000;omega⟩
        ·exact hb g hg
       ·cases h
theorem zKo {u:Un} {n:Int} {r:List Int} {fs:List zx} (hf:zDp u n fs):((loc r fs).1.length=r.length /\ zDp u n (loc r fs).2) /\ zA3 (loc r fs).1 (loc r fs).2=none :=
 zJC (P:=fun r' fs'=>r'.length=r.length /\ zDp u n fs') (fun r1 fs1 r2 fs2 hp h=>⟨(zHA h hp.2.each).1.trans hp.1,(zHA h hp.2.each).2,zHt h hp.2.low⟩) ⟨rfl,hf⟩
theorem zCR {u:Un} {n:Int} {t:WTh} (hl:zA3 t.regs t.fs=none) (hf:zDp u n t.fs):(t.next=none /\ t.fs=[]) \/ ∃ a f r,t.next=some a /\ t.fs.getLast?=some f /\ f.rest=a :: r /\ Ac.may u n a=true /\ 2 <= a.kind /\ a.kind <= 9:=by
 unfold zA3 at hl;unfold WTh.next;cases h:t.fs.getLast? with
 | none=>exact .inl ⟨rfl,by simpa using h⟩
 | some f =>
   rw [h] at hl;simp only at hl;have hfo:f.ok u n:=hf.each f (by rw [zAY h];simp);cases hr:f.rest with
   | nil=>rw [hr] at hl;cases hl
   | cons a r =>
     rw [hr] at hl;have h0:=hfo.1;rw [hr] at h0;obtain ⟨ha,_⟩:=Ac.zCq h0;obtain ⟨k1,k2⟩:=Ac.zES ha;refine .inr ⟨a,f,r,by simp [hr],rfl,hr,ha,?_,?_⟩
     ·simp only at hl
      by_cases q:a.kind=1
      ·rw [if_pos q] at hl;cases hl
      ·omega
     ·simp only at hl
      split at hl
      ·cases hl
      ·split at hl
       ·cases hl
       ·split at hl
        ·cases hl
        ·omega
theorem zAt {u:Un} (h:zV u=true):1 <= u.threads.length /\ u.threads.length <= 8 /\ u.cells.length <= 8 /\ 0 <= u.mutexes /\ u.mutexes <= 8 /\ ∀ b,b ∈ u.threads -> 0 <= b.regs /\ b.regs <= 8 /\ Ac.zAC u b.regs b.acts=true /\ Ac.hL b.acts <= 500:=by
 unfold zV at h;simp only [yR,yS] at h;obtain ⟨⟨⟨⟨⟨⟨⟨⟨h1,h2⟩,h3⟩,h4⟩,h5⟩,h6⟩,h7⟩,h8⟩,h9⟩:=h;refine ⟨h1,h2,h3,h4,h5,fun b hb=>?_⟩
 have:=yZ.1 h7 b hb
 simp only [yR,yS] at this;refine ⟨this.1.1,this.1.2,this.2,?_⟩
 have hc:∀ l:List Bd,b ∈ l -> Ac.zY b.acts <= (l.map fun b=>Ac.zY b.acts).foldr (·+·) 0:=fun l=>by
  induction l with
  | nil=>intro hb;cases hb
  | cons x r ih =>
    intro hb
    simp only [uQ,List.foldr_cons];rcases xU.1 hb with e | e
    ·subst e;omega
    ·have:=ih e;omega
 have h1:=hc u.threads hb;have h2:=Ac.zG2 b.acts;omega
theorem zNM {u:Un} {b:Bd} (h:Ac.zAC u b.regs b.acts=true) (hh:Ac.hL b.acts <= 500):(zC9 b).ok u b /\ (zC9 b).st=2:=by
 have h1:=zKo (u:=u) (n:=b.regs) (r:=List.replicate b.regs.toNat 0) (fs:=[⟨b.acts,b.acts,1⟩]) ⟨fun f hf=>by
  obtain rfl:f=⟨b.acts,b.acts,1⟩:=by simpa using hf
  exact ⟨h,h,by show 1 <= 1000;omega⟩,zBl (fs:=[]) ⟨yH _,fun j f e=>by cases e⟩ (yH _) (by show Ac.hL b.acts+0 <= _;omega) (by show Ac.hL b.acts+0 <= _;omega)⟩
 refine ⟨⟨.inr (.inl rfl),fun _=>⟨h1.1.1.trans (by simp),h1.1.2⟩,fun _=>h1.2⟩,rfl⟩
theorem ze.get_eq {m:ze} {i:Nat} {t:WTh} (h:m.zL[i]?=some t):m.get i=t:=by simp [ze.get,List.getD,h]
theorem ze.get_some {m:ze} {i:Nat} (h:i < m.zL.length):m.zL[i]?=some (m.get i):=by
 rw [yJ h];simp [ze.get,List.getD,h]
theorem ze.zBn (m:ze) (i:Nat) (t:WTh):(m.zAj i t).zL.length=m.zL.length:=by simp [ze.zAj]
theorem ze.zA7 (m:ze) (i:Nat) (t:WTh) (hi:i < m.zL.length):(m.zAj i t).get i=t:=by simp [ze.zAj,ze.get,List.getD,hi]
theorem ze.zBM (m:ze) {i j:Nat} (t:WTh) (h:i ≠ j):(m.zAj i t).get j=m.get j:=by
 show (m.zL.set i t).getD j WTh.zero=_
 unfold ze.get;rw [List.getD,List.getD,uB h]
theorem ze.ok.zAj {u:Un} {m:ze} (h:m.ok u) {i:Nat} {t:WTh} (ht:∀ b,u.threads[i]?=some b -> t.ok u b):(m.zAj i t).ok u:=by
 refine ⟨h.cells,h.owners,by rw [ze.zBn];exact h.zL,h.own,fun j t' b e1 e2=>?_⟩
 have e1':(m.zL.set i t)[j]?=some t':=e1;rw [List.getElem?_set] at e1';split at e1'
 ·rename_i he
  subst he;split at e1'
  ·cases e1';exact ht b e2
  ·cases e1'
 ·exact h.each j t' b e1' e2
theorem ze.ok.th {u:Un} {m:ze} (h:m.ok u) {i:Nat} (hi:i < m.zL.length):∃ b,u.threads[i]?=some b /\ (m.get i).ok u b /\ u.body i=b:=by
 have hi2:i < u.threads.length:=by rw [<- h.zL];exact hi
 refine ⟨u.threads[i],yJ hi2,h.each i _ _ (ze.get_some hi) (yJ hi2),?_⟩
 unfold Un.body;simp [List.getD,hi2]
theorem zJV {u:Un} (hr:zV u=true) {m:ze} (h:m.ok u) (i:Nat):(zER u m i).ok u:=by
 refine h.zAj (fun b hb=>?_)
 have hm:=(zAt hr).2.2.2.2.2 b (List.mem_of_getElem? hb);have e:u.body i=b:=by unfold Un.body;simp [List.getD,hb]
 rw [e];exact (zNM hm.2.2.1 hm.2.2.2).1
theorem zEW {u:Un} (hr:zV u=true):(zAU u).ok u:=by
 refine zJV hr ⟨rfl,by simp,by simp,fun o ho=>?_,fun i t b e1 e2=>?_⟩ 0
 ·obtain ⟨_,rfl⟩:=kU.1 ho
  exact Int.le_refl _
 ·exact J88 _
theorem zH9 {u:Un} {b:Bd} {t:WTh} (h:t.ok u b) (h2:t.st=2):t.on.local.ok u b /\ t.on.local.st=2:=by
 obtain ⟨hl,hf⟩:=h.2.1 (by rw [h2];decide)
 have hfo:zDp u b.regs t.on.fs:=by
  unfold WTh.on;cases e:t.fs.getLast? with
  | none=>exact hf
  | some f =>
    obtain ⟨l1,l2,l3,l4⟩:=zEi hf.low e
    refine ⟨fun g hg=>?_,zBl (zEl hf.low) l2 (by
     show Ac.hL f.rest.tail+_ <= _
     cases hr:f.rest with
     | nil=>simp only [List.tail_nil,Ac.hL];omega
     | cons a tl=>rw [hr] at l3;simp only [Ac.hL] at l3;simp only [List.tail_cons];omega) l4⟩
    have hs:=zAY e;have hfl:f.ok u b.regs:=hf.each f (by rw [hs];simp);rcases kY.1 hg with hg | hg
    ·exact hf.each g (List.dropLast_subset _ hg)
    ·exact J60 _
 have hst:t.on.st=t.st:=by unfold WTh.on;split <;> rfl
 have hre:t.on.regs=t.regs:=by unfold WTh.on;split <;> rfl
 have h1:=zKo (u:=u) (n:=b.regs) (r:=t.on.regs) (fs:=t.on.fs) hfo;refine ⟨⟨.inr (.inl (by show t.on.st=2;rw [hst];exact h2)),fun _=>⟨?_,h1.1.2⟩,fun _=>h1.2⟩,by show t.on.st=2;rw [hst];exact h2⟩
 show (loc t.on.regs t.on.fs).1.length=_
 rw [h1.1.1,hre];exact hl
theorem WTh.ok.regs {u:Un} {b:Bd} {t:WTh} (h:t.ok u b) (k:Nat) (v:Int) (hs:t.st=2 -> zA3 (t.regs.set k v) t.fs=none):WTh.ok u b { t with regs:=t.regs.set k v } :=
 ⟨h.1,fun h1=>⟨by rw [xA];exact (h.2.1 h1).1,(h.2.1 h1).2⟩,hs⟩
theorem zKD {r r':List Int} {fs:List zx} (h:zA3 r fs=none):zA3 r' fs=none:=by
 unfold zA3 at h ⊢;cases hl:fs.getLast? with
 | none=>rfl
 | some f =>
   rw [hl] at h;simp only at h ⊢;cases hr:f.rest with
   | nil=>rw [hr] at h;cases h
   | cons a t =>
     rw [hr] at h;simp only at h ⊢;split at h
     ·cases h
     ·rename_i q1
      rw [if_neg q1];split at h
      ·cases h
      ·rename_i q2
       rw [if_neg q2];split at h
       ·cases h
       ·rename_i q3
        rw [if_neg q3]
theorem zG5 {u:Un} (hr:zV u=true) {m:ze} (h:m.ok u) {i:Nat} (hi:i < m.zL.length) (a:Ac):(doM u m i a).1.ok u /\ (doM u m i a).1.zL.length=m.zL.length:=by
 have hset:∀ k v,(m.zAj i { m.get i with regs:=(m.get i).regs.set k v }).ok u:=fun k v=>h.zAj (fun b hb=>by
  obtain ⟨b',e,hok,_⟩:=h.th hi;rw [hb] at e;cases e;exact hok.regs k v (fun h2=>zKD (hok.2.2 h2)))
 have hcell:∀ k v,ze.ok u { m with cells:=m.cells.set k v }:=fun k v=>⟨by simp [h.cells],h.owners,h.zL,h.own,h.each⟩
 have hown:∀ k (v:Int),-1 <= v -> ze.ok u { m with owners:=m.owners.set k v }:=fun k v hv=>⟨h.cells,by simp [h.owners],h.zL,fun o ho=>by
  rcases List.mem_or_eq_of_mem_set ho with ho | ho
  ·exact h.own o ho
  ·subst ho;exact hv,h.each⟩
 unfold doM;simp only
 split
 ·exact ⟨hset _ _,by rw [ze.zBn]⟩
 ·split
  ·exact ⟨hcell _ _,rfl⟩
  ·split
   ·refine ⟨?_,by rw [ze.zBn]⟩
    have:=hset a.reg.toNat (m.cells.getD a.obj.toNat 0)
    exact ⟨by simp [ze.zAj,h.cells],this.owners,this.zL,this.own,this.each⟩
   ·split
    ·exact ⟨hown _ _ (by omega),rfl⟩
    ·split
     ·split
      ·exact ⟨hown _ _ (by omega),rfl⟩
      ·exact ⟨h,rfl⟩
     ·split
      ·split
       ·exact ⟨zJV hr h _,by unfold zER;rw [ze.zBn]⟩
       ·exact ⟨h,rfl⟩
      ·split
       ·split <;> exact ⟨h,rfl⟩
       ·exact ⟨h,rfl⟩
theorem zEP {u:Un} {m:ze} {i:Nat} (hi:i < m.zL.length) (h2:(m.get i).st=2) (a:Ac):((doM u m i a).1.get i).st=2 /\ ((doM u m i a).1.get i).fs=(m.get i).fs:=by
 have hs:∀ (c:List Int) (o:List Int) (t:WTh),(ze.zAj ⟨c,o,m.zL⟩ i t).get i=t:=fun c o t=>ze.zA7 _ _ _ hi
 unfold doM;simp only
 split
 ·rw [hs];exact ⟨h2,rfl⟩
 ·split
  ·exact ⟨h2,rfl⟩
  ·split
   ·rw [hs];exact ⟨h2,rfl⟩
   ·split
    ·exact ⟨h2,rfl⟩
    ·split
     ·split <;> exact ⟨h2,rfl⟩
     ·split
      ·split
       ·rename_i q
        have hne:a.obj.toNat ≠ i:=fun e=>by rw [e,h2] at q;cases q
        unfold zER;rw [ze.zBM _ _ hne];exact ⟨h2,rfl⟩
       ·exact ⟨h2,rfl⟩
      ·split
       ·split <;> exact ⟨h2,rfl⟩
       ·exact ⟨h2,rfl⟩
theorem zFo {u:Un} (hr:zV u=true) {m:ze} (h:m.ok u) {i:Nat} (hi:i < m.zL.length) (h2:(m.get i).st=2):(zAK u m i).1.ok u /\ (zAK u m i).1.zL.length=m.zL.length:=by
 unfold zAK;cases hn:(m.get i).next with
 | none =>
   refine ⟨h.zAj (fun b hb=>?_),by rw [ze.zBn]⟩
   obtain ⟨b',e,hok,_⟩:=h.th hi;rw [hb] at e;cases e;exact ⟨.inr (.inr (.inl rfl)),fun _=>hok.2.1 (by rw [h2];decide),fun q=>by cases q⟩
 | some a =>
   obtain ⟨g1,g2⟩:=zG5 hr h hi a;obtain ⟨s1,s2⟩:=zEP (u:=u) hi h2 a;have hi':i < (doM u m i a).1.zL.length:=by rw [g2];exact hi
   simp only
   split
   ·refine ⟨g1.zAj (fun b hb=>?_),by rw [ze.zBn,g2]⟩
    obtain ⟨b',e,hok,_⟩:=g1.th hi';rw [hb] at e;cases e;exact ⟨.inr (.inr (.inr rfl)),fun _=>hok.2.1 (by rw [s1];decide),fun q=>by cases q⟩
   ·refine ⟨g1.zAj (fun b hb=>?_),by rw [ze.zBn,g2]⟩
    obtain ⟨b',e,hok,_⟩:=g1.th hi';rw [hb] at e;cases e;exact (zH9 hok s1).1
theorem zE4 {m:ze} {i:Int} (h:zBp m i=0):0 <= i /\ i < m.zL.length /\ (m.get i.toNat).st ≠ 1 /\ (m.get i.toNat).st ≠ 3 /\ (m.get i.toNat).st ≠ 4 /\ zAy m i.toNat=true:=by
 unfold zBp at h;split at h
 ·cases h
 ·rename_i q
  simp only at h;split at h
  ·cases h
  ·split at h
   ·cases h
   ·split at h
    ·cases h
    ·split at h
     ·rename_i q1 q2 q3 q4
      exact ⟨by omega,by omega,q1,q2,q3,q4⟩
     ·cases h
theorem zFk {u:Un} (hr:zV u=true) {m:ze} (h:m.ok u) (i:Int):(stepM u m i).1.ok u /\ (stepM u m i).1.zL.length=m.zL.length:=by
 unfold stepM;split
 ·rename_i q
  obtain ⟨h1,h2,h3,h4,h5,_⟩:=zE4 q;have hi:i.toNat < m.zL.length:=by omega
  obtain ⟨b,_,hok,_⟩:=h.th hi;have hst:(m.get i.toNat).st=2:=J204 _;exact zFo hr h hi hst
 ·exact ⟨h,rfl⟩
end Go.Proofs.YtfokdllgnblamaaGreatDoor
