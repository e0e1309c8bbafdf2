/- Layer S: texts joined. -/
import Derived.Test.YtfjgcedkfnmdkaaGreatDoorS24
set_option linter.all false
namespace Go.Proofs.YtfjgcedkfnmdkaaGreatDoor
abbrev yn:=@List.mem_append
abbrev kR:=@List.mem_of_getElem?
theorem J59 (P:Prop) (h:P:=by
 obtain rfl:g=⟨f.rest.tail,f.all,f.left⟩:=by simpa using hg
 refine ⟨?_,hfl.2⟩
 have:=hfl.1
 cases hr:f.rest with
 | nil=>simp [Ac.zAA]
 | cons a r =>
   rw [hr] at this;exact (Ac.zCp this).2):P:=h
theorem J84 (P:Prop) (h:P:=by
 rw [vT] at e1;obtain ⟨b',_,rfl⟩:=Option.map_eq_some_iff.1 e1;exact ⟨.inl rfl,fun h=>absurd rfl h,fun h=>by cases h⟩):P:=h
theorem J202 (P:Prop) (h:P:=by rcases hok.1 with e | e | e | e <;> first | exact e | exact absurd e h3 | exact absurd e h4 | exact absurd e h5):P:=h
theorem J218 (P:Prop) (h:P:=by rw [hbl];show Ac.hL (if a.ex.val r ≠ 0 then a.thn else a.els)+_ <= _;omega):P:=h
theorem Ac.zC8 {u:Un} {regs:Int} {a:Ac} (h:Ac.may u regs a=true):zBC u regs a.kind a.reg a.obj a.ex a.count a.thn.length a.els.length=true /\ Ac.zAA u regs a.thn=true /\ Ac.zAA u regs a.els=true:=by
 cases a;simp only [Ac.may,yR] at h;exact ⟨h.1.1,h.1.2,h.2⟩
theorem Ac.zER {u:Un} {regs:Int} {a:Ac} (h:Ac.may u regs a=true):1 <= a.kind /\ a.kind <= 11:=by
 have h1:=(Ac.zC8 h).1;unfold zBC at h1;simp only [yR,yS] at h1;exact ⟨h1.1.1.1.1.1.1.1,h1.1.1.1.1.1.1.2⟩
theorem Ac.zG7 {u:Un} {regs:Int} {a:Ac} (h:Ac.may u regs a=true) (hk:a.kind=1 \/ a.kind=2 \/ a.kind=4):0 <= a.reg /\ a.reg < regs:=by
 have h1:=(Ac.zC8 h).1;unfold zBC at h1;have hf:(fields a.kind).reg=true:=by rcases hk with e | e | e <;> rw [e] <;> rfl
 rw [if_pos hf] at h1;simp only [yR,yS] at h1;exact ⟨h1.1.1.1.1.1.2.1,h1.1.1.1.1.1.2.2⟩
theorem Ac.zEX {u:Un} {regs:Int} {a:Ac} (h:Ac.may u regs a=true) (hk:2 <= a.kind /\ a.kind <= 8):0 <= a.obj /\ a.obj < zBD u a.kind:=by
 have h1:=(Ac.zC8 h).1;unfold zBC at h1
 have hf:(fields a.kind).name=true:=by
  rcases (show a.kind=2 \/ a.kind=3 \/ a.kind=4 \/ a.kind=5 \/ a.kind=6 \/ a.kind=7 \/ a.kind=8 by omega) with e | e | e | e | e | e | e <;> rw [e] <;> rfl
 rw [if_pos hf] at h1;simp only [yR,yS] at h1;exact ⟨h1.1.1.1.1.2.1,h1.1.1.1.1.2.2⟩
theorem Ac.zEw {u:Un} {regs:Int} {a:Ac} (h:Ac.may u regs a=true) (hk:a.kind=1 \/ a.kind=3 \/ a.kind=4 \/ a.kind=9 \/ a.kind=10):a.ex.may regs=true:=by
 have h1:=(Ac.zC8 h).1;unfold zBC at h1;have hf:(fields a.kind).ex=true:=by rcases hk with e | e | e | e | e <;> rw [e] <;> rfl
 rw [if_pos hf] at h1;simp only [yR,yS] at h1;exact h1.1.1.1.2
theorem Ac.zJ8 {u:Un} {regs:Int} {a:Ac} (h:Ac.may u regs a=true) (hk:a.kind=11):0 <= a.count /\ a.count <= 1000:=by
 have h1:=(Ac.zC8 h).1;unfold zBC at h1;have hf:(fields a.kind).count=true:=by rw [hk];rfl
 rw [if_pos hf] at h1;simp only [yR,yS] at h1;exact ⟨h1.1.1.2.1,h1.1.1.2.2⟩
theorem Ac.zMM {u:Un} {regs:Int} {a:Ac} (h:Ac.may u regs a=true) (hk:a.kind=9):a.obj=0:=by
 have h1:=(Ac.zC8 h).1;unfold zBC at h1;have hf:(fields a.kind).name=false:=by rw [hk];rfl
 rw [hf] at h1;simp only [yR,xC,uR,beq_iff_eq] at h1;exact h1.1.1.1.1.2
theorem Ac.zH5 {u:Un} {regs:Int} {l:List Ac} (h:Ac.zAA u regs l=true) {a:Ac} (ha:a ∈ l):Ac.may u regs a=true:=by
 induction l with
 | nil=>cases ha
 | cons x r ih =>
   simp only [Ac.zAA,yR] at h;rcases xS.1 ha with e | e
   ·subst e;exact h.1
   ·exact ih h.2 e
theorem Ac.zCp {u:Un} {regs:Int} {x:Ac} {r:List Ac} (h:Ac.zAA u regs (x :: r)=true):Ac.may u regs x=true /\ Ac.zAA u regs r=true:=by
 simpa only [Ac.zAA,yR] using h
mutual
def Ac.h:Ac -> Nat
 | .mk _ _ _ _ _ t e=>1+max (Ac.hL t) (Ac.hL e)
def Ac.hL:List Ac -> Nat
 | []=>0
 | x :: r=>max (Ac.h x) (Ac.hL r)
end
theorem Ac.h_eq (x:Ac):x.h=1+max (Ac.hL x.thn) (Ac.hL x.els):=by cases x;rw [Ac.h];rfl
mutual
theorem Ac.zOk:(x:Ac) -> x.h <= x.cnt
 | .mk _ _ _ ex _ t e=>by
   have h1:=Ac.zGz t;have h2:=Ac.zGz e;simp only [Ac.h,Ac.cnt];omega
theorem Ac.zGz:(l:List Ac) -> Ac.hL l <= Ac.zY l
 | []=>yV _
 | x :: r=>by
   have h1:=Ac.zOk x;have h2:=Ac.zGz r;simp only [Ac.hL,Ac.zY];omega
end
def zHJ (fs:List zx):Prop:=fs.length <= 1001 /\ ∀ (j:Nat) (f:zx),fs[j]?=some f -> Ac.hL f.rest+j <= 1000 /\ Ac.hL f.all+j <= 1000
theorem zBn {fs:List zx} {f:zx} (h:zHJ fs) (h1:fs.length <= 1000) (h2:Ac.hL f.rest+fs.length <= 1000) (h3:Ac.hL f.all+fs.length <= 1000):zHJ (fs++[f]):=by
 refine ⟨by simp;omega,fun j g e=>?_⟩
 rcases xM j fs.length with hj | hj
 ·rw [xN hj] at e
  exact h.2 j g e
 ·rw [yT hj] at e
  have hz:j - fs.length=0:=by
   have:=(yI.1 e).1
   simpa using this
  rw [hz] at e;simp only [yC,yP] at e;subst e;exact ⟨by omega,by omega⟩
theorem zEq {fs:List zx} (h:zHJ fs):zHJ fs.dropLast :=
 ⟨by rw [List.length_dropLast];have:=h.1;omega,fun j f e=>by
  have hj:=(yI.1 e).1;rw [List.length_dropLast] at hj;refine h.2 j f ?_
  rw [List.getElem?_dropLast,if_pos hj] at e;exact e⟩
theorem zE0 {fs:List zx} {f:zx} (h:zHJ fs) (hl:fs.getLast?=some f):fs.dropLast.length+1=fs.length /\ fs.dropLast.length <= 1000 /\ Ac.hL f.rest+fs.dropLast.length <= 1000 /\ Ac.hL f.all+fs.dropLast.length <= 1000:=by
 have hs:=zAZ hl
 have hn:fs.length=fs.dropLast.length+1:=by
  have:=kK List.length hs
  simpa using this
 have e:fs[fs.dropLast.length]?=some f:=by
  have:fs[fs.dropLast.length]?=(fs.dropLast++[f])[fs.dropLast.length]?:=kK (fun l=>l[fs.dropLast.length]?) hs
  rw [this,yT (yV _)];simp
 have h2:=h.2 _ _ e;have h1:=h.1;exact ⟨hn.symm,by omega,h2.1,h2.2⟩
theorem zHS {r r':List Int} {fs fs':List zx} (h:zA0 r fs=some (r',fs')) (hf:zHJ fs):zHJ fs':=by
 unfold zA0 at h;cases hl:fs.getLast? with
 | none=>rw [hl] at h;cases h
 | some f =>
   obtain ⟨l1,l2,l3,l4⟩:=zE0 hf hl;have hi:=zEq hf;rw [hl] at h;simp only at h;cases hr:f.rest with
   | nil =>
     rw [hr] at h;simp only [yP,xW] at h;obtain ⟨_,rfl⟩:=h;split
     ·exact zBn hi l2 l4 l4
     ·exact hi
   | cons a tl =>
     rw [hr] at h l3;have hh:=Ac.h_eq a;simp only [Ac.hL] at l3;have hb:zHJ (fs.dropLast++[(⟨tl,f.all,f.left⟩:zx)]):=zBn hi l2 (by show Ac.hL tl+_ <= _;omega) l4;have hbl:(fs.dropLast++[(⟨tl,f.all,f.left⟩:zx)]).length=fs.dropLast.length+1:=by rw [xI];rfl
     simp only at h;split at h
     ·simp only [yP,xW] at h
      obtain ⟨_,rfl⟩:=h;exact hb
     ·split at h
      ·simp only [yP,xW] at h
       obtain ⟨_,rfl⟩:=h;have hc:Ac.hL (if a.ex.val r ≠ 0 then a.thn else a.els)+1 <= a.h:=by split <;> omega
       exact zBn hb (by rw [hbl];omega) (J218 _) (J218 _)
      ·split at h
       ·simp only [yP,xW] at h
        obtain ⟨_,rfl⟩:=h;split
        ·exact zBn hb (by rw [hbl];omega) (by rw [hbl];show Ac.hL a.thn+_ <= _;omega) (by rw [hbl];show Ac.hL a.thn+_ <= _;omega)
        ·exact hb
       ·cases h
def zx.ok (u:Un) (regs:Int) (f:zx):Prop:=Ac.zAA u regs f.rest=true /\ Ac.zAA u regs f.all=true /\ f.left <= 1000
structure zDl (u:Un) (regs:Int) (fs:List zx):Prop where
 each:∀ f,f ∈ fs -> f.ok u regs
 low:zHJ fs
def WTh.ok (u:Un) (b:Bd) (t:WTh):Prop :=
 (t.st=1 \/ t.st=2 \/ t.st=3 \/ t.st=4) /\ (t.st ≠ 1 -> t.regs.length=b.regs.toNat /\ zDl u b.regs t.fs) /\ (t.st=2 -> zA0 t.regs t.fs=none)
structure zW.ok (u:Un) (m:zW):Prop where
 cells:m.cells.length=u.cells.length
 owners:m.owners.length=u.mutexes.toNat
 zL:m.zL.length=u.threads.length
 own:∀ o,o ∈ m.owners -> -1 <= o
 each:∀ (i:Nat) (t:WTh) (b:Bd),m.zL[i]?=some t -> u.threads[i]?=some b -> t.ok u b
theorem zGx {u:Un} {n:Int} {r r':List Int} {fs fs':List zx} (h:zA0 r fs=some (r',fs')) (hf:∀ f,f ∈ fs -> f.ok u n):r'.length=r.length /\ ∀ f,f ∈ fs' -> f.ok u n:=by
 unfold zA0 at h;cases hl:fs.getLast? with
 | none=>rw [hl] at h;cases h
 | some f =>
   have hs:=zAZ hl;have hfo:f.ok u n:=hf f (by rw [hs];simp);have hd:∀ g,g ∈ fs.dropLast -> g.ok u n:=fun g hg=>hf g (List.dropLast_subset _ hg)
   rw [hl] at h;simp only at h;cases hr:f.rest with
   | nil =>
     rw [hr] at h;simp only [yP,xW] at h;obtain ⟨rfl,rfl⟩:=h;refine ⟨rfl,fun g hg=>?_⟩
     split at hg
     ·rcases yn.1 hg with hg | hg
      ·exact hd g hg
      ·obtain rfl:g=⟨f.all,f.all,f.left - 1⟩:=by simpa using hg
       exact ⟨hfo.2.1,hfo.2.1,by have:=hfo.2.2;show f.left - 1 <= 1000;omega⟩
     ·exact hd g hg
   | cons a tl =>
     rw [hr] at h;have h0:=hfo.1;rw [hr] at h0;obtain ⟨ha,hm⟩:=Ac.zCp h0;obtain ⟨_,hat,hae⟩:=Ac.zC8 ha
     have hb:∀ g,g ∈ fs.dropLast++[(⟨tl,f.all,f.left⟩:zx)] -> g.ok u n:=fun g hg=>by
      rcases yn.1 hg with hg | hg
      ·exact hd g hg
      ·obtain rfl:g=⟨tl,f.all,f.left⟩:=by simpa using hg
       exact ⟨hm,hfo.2⟩
     simp only at h;split at h
     ·simp only [yP,xW] at h
      obtain ⟨rfl,rfl⟩:=h;exact ⟨by simp,hb⟩
     ·split at h
      ·simp only [yP,xW] at h
       obtain ⟨rfl,rfl⟩:=h;refine ⟨rfl,fun g hg=>?_⟩
       rcases yn.1 hg with hg | hg
       ·exact hb g hg
       ·have hg2:g=⟨if a.ex.val r ≠ 0 then a.thn else a.els,if a.ex.val r ≠ 0 then a.thn else a.els,1⟩:=by simpa using hg
        rw [hg2];by_cases q:a.ex.val r ≠ 0
        ·rw [if_pos q];exact ⟨hat,hat,by show 1 <= 1000;omega⟩
        ·rw [if_neg q];exact ⟨hae,hae,by show 1 <= 1000;omega⟩
      ·split at h
       ·simp only [yP,xW] at h
        obtain ⟨rfl,rfl⟩:=h;refine ⟨rfl,fun g hg=>?_⟩
        split at hg
        ·rcases yn.1 hg with hg | hg
         ·exact hb g hg
         ·obtain rfl:g=⟨a.thn,a.thn,a.count.toNat⟩:=by simpa using hg
          exact ⟨hat,hat,by have:=(Ac.zJ8 ha (by assumption)).2;show a.count.toNat <= 1000;omega⟩
        ·exact hb g hg
       ·cases h
theorem zLe {u:Un} {n:Int} {r:List Int} {fs:List zx} (hf:zDl u n fs):((loc r fs).1.length=r.length /\ zDl u n (loc r fs).2) /\ zA0 (loc r fs).1 (loc r fs).2=none :=
 zJT (P:=fun r' fs'=>r'.length=r.length /\ zDl u n fs') (fun r1 fs1 r2 fs2 hp h=>⟨(zGx h hp.2.each).1.trans hp.1,(zGx h hp.2.each).2,zHS h hp.2.low⟩) ⟨rfl,hf⟩
theorem zB3 {u:Un} {n:Int} {t:WTh} (hl:zA0 t.regs t.fs=none) (hf:zDl u n t.fs):(t.next=none /\ t.fs=[]) \/ ∃ a f r,t.next=some a /\ t.fs.getLast?=some f /\ f.rest=a :: r /\ Ac.may u n a=true /\ 2 <= a.kind /\ a.kind <= 9:=by
 unfold zA0 at hl;unfold WTh.next;cases h:t.fs.getLast? with
 | none=>exact .inl ⟨rfl,by simpa using h⟩
 | some f =>
   rw [h] at hl;simp only at hl;have hfo:f.ok u n:=hf.each f (by rw [zAZ h];simp);cases hr:f.rest with
   | nil=>rw [hr] at hl;cases hl
   | cons a r =>
     rw [hr] at hl;have h0:=hfo.1;rw [hr] at h0;obtain ⟨ha,_⟩:=Ac.zCp h0;obtain ⟨k1,k2⟩:=Ac.zER ha;refine .inr ⟨a,f,r,by simp [hr],rfl,hr,ha,?_,?_⟩
     ·simp only at hl
      by_cases q:a.kind=1
      ·rw [if_pos q] at hl;cases hl
      ·omega
     ·simp only at hl
      split at hl
      ·cases hl
      ·split at hl
       ·cases hl
       ·split at hl
        ·cases hl
        ·omega
theorem zBK {u:Un} (h:zV u=true):1 <= u.threads.length /\ u.threads.length <= 8 /\ u.cells.length <= 8 /\ 0 <= u.mutexes /\ u.mutexes <= 8 /\ ∀ b,b ∈ u.threads -> 0 <= b.regs /\ b.regs <= 8 /\ Ac.zAA u b.regs b.acts=true /\ Ac.hL b.acts <= 500:=by
 unfold zV at h;simp only [yR,yS] at h;obtain ⟨⟨⟨⟨⟨⟨⟨⟨h1,h2⟩,h3⟩,h4⟩,h5⟩,h6⟩,h7⟩,h8⟩,h9⟩:=h;refine ⟨h1,h2,h3,h4,h5,fun b hb=>?_⟩
 have:=yZ.1 h7 b hb
 simp only [yR,yS] at this;refine ⟨this.1.1,this.1.2,this.2,?_⟩
 have hc:∀ l:List Bd,b ∈ l -> Ac.zY b.acts <= (l.map fun b=>Ac.zY b.acts).foldr (·+·) 0:=fun l=>by
  induction l with
  | nil=>intro hb;cases hb
  | cons x r ih =>
    intro hb
    simp only [uN,List.foldr_cons];rcases xS.1 hb with e | e
    ·subst e;omega
    ·have:=ih e;omega
 have h1:=hc u.threads hb;have h2:=Ac.zGz b.acts;omega
theorem zMv {u:Un} {b:Bd} (h:Ac.zAA u b.regs b.acts=true) (hh:Ac.hL b.acts <= 500):(zDk b).ok u b /\ (zDk b).st=2:=by
 have h1:=zLe (u:=u) (n:=b.regs) (r:=List.replicate b.regs.toNat 0) (fs:=[⟨b.acts,b.acts,1⟩]) ⟨fun f hf=>by
  obtain rfl:f=⟨b.acts,b.acts,1⟩:=by simpa using hf
  exact ⟨h,h,by show 1 <= 1000;omega⟩,zBn (fs:=[]) ⟨yG _,fun j f e=>by cases e⟩ (yG _) (by show Ac.hL b.acts+0 <= _;omega) (by show Ac.hL b.acts+0 <= _;omega)⟩
 refine ⟨⟨.inr (.inl rfl),fun _=>⟨h1.1.1.trans (by simp),h1.1.2⟩,fun _=>h1.2⟩,rfl⟩
theorem zW.get_eq {m:zW} {i:Nat} {t:WTh} (h:m.zL[i]?=some t):m.get i=t:=by simp [zW.get,List.getD,h]
theorem zW.get_some {m:zW} {i:Nat} (h:i < m.zL.length):m.zL[i]?=some (m.get i):=by
 rw [yM h];simp [zW.get,List.getD,h]
theorem zW.zBr (m:zW) (i:Nat) (t:WTh):(m.zAj i t).zL.length=m.zL.length:=by simp [zW.zAj]
theorem zW.zBY (m:zW) (i:Nat) (t:WTh) (hi:i < m.zL.length):(m.zAj i t).get i=t:=by simp [zW.zAj,zW.get,List.getD,hi]
theorem zW.zBL (m:zW) {i j:Nat} (t:WTh) (h:i ≠ j):(m.zAj i t).get j=m.get j:=by
 show (m.zL.set i t).getD j WTh.zero=_
 unfold zW.get;rw [List.getD,List.getD,uD h]
theorem zW.ok.zAj {u:Un} {m:zW} (h:m.ok u) {i:Nat} {t:WTh} (ht:∀ b,u.threads[i]?=some b -> t.ok u b):(m.zAj i t).ok u:=by
 refine ⟨h.cells,h.owners,by rw [zW.zBr];exact h.zL,h.own,fun j t' b e1 e2=>?_⟩
 have e1':(m.zL.set i t)[j]?=some t':=e1;rw [List.getElem?_set] at e1';split at e1'
 ·rename_i he
  subst he;split at e1'
  ·cases e1';exact ht b e2
  ·cases e1'
 ·exact h.each j t' b e1' e2
theorem zW.ok.th {u:Un} {m:zW} (h:m.ok u) {i:Nat} (hi:i < m.zL.length):∃ b,u.threads[i]?=some b /\ (m.get i).ok u b /\ u.body i=b:=by
 have hi2:i < u.threads.length:=by rw [<- h.zL];exact hi
 refine ⟨u.threads[i],yM hi2,h.each i _ _ (zW.get_some hi) (yM hi2),?_⟩
 unfold Un.body;simp [List.getD,hi2]
theorem zJi {u:Un} (hr:zV u=true) {m:zW} (h:m.ok u) (i:Nat):(zFF u m i).ok u:=by
 refine h.zAj (fun b hb=>?_)
 have hm:=(zBK hr).2.2.2.2.2 b (kR hb);have e:u.body i=b:=by unfold Un.body;simp [List.getD,hb]
 rw [e];exact (zMv hm.2.2.1 hm.2.2.2).1
theorem zFU {u:Un} (hr:zV u=true):(zAk u).ok u:=by
 refine zJi hr ⟨rfl,by simp,by simp,fun o ho=>?_,fun i t b e1 e2=>?_⟩ 0
 ·obtain ⟨_,rfl⟩:=kM.1 ho
  exact Int.le_refl _
 ·exact J84 _
theorem zHU {u:Un} {b:Bd} {t:WTh} (h:t.ok u b) (h2:t.st=2):t.on.local.ok u b /\ t.on.local.st=2:=by
 obtain ⟨hl,hf⟩:=h.2.1 (by rw [h2];decide)
 have hfo:zDl u b.regs t.on.fs:=by
  unfold WTh.on;cases e:t.fs.getLast? with
  | none=>exact hf
  | some f =>
    obtain ⟨l1,l2,l3,l4⟩:=zE0 hf.low e
    refine ⟨fun g hg=>?_,zBn (zEq hf.low) l2 (by
     show Ac.hL f.rest.tail+_ <= _
     cases hr:f.rest with
     | nil=>simp only [List.tail_nil,Ac.hL];omega
     | cons a tl=>rw [hr] at l3;simp only [Ac.hL] at l3;simp only [List.tail_cons];omega) l4⟩
    have hs:=zAZ e;have hfl:f.ok u b.regs:=hf.each f (by rw [hs];simp);rcases yn.1 hg with hg | hg
    ·exact hf.each g (List.dropLast_subset _ hg)
    ·exact J59 _
 have hst:t.on.st=t.st:=by unfold WTh.on;split <;> rfl
 have hre:t.on.regs=t.regs:=by unfold WTh.on;split <;> rfl
 have h1:=zLe (u:=u) (n:=b.regs) (r:=t.on.regs) (fs:=t.on.fs) hfo;refine ⟨⟨.inr (.inl (by show t.on.st=2;rw [hst];exact h2)),fun _=>⟨?_,h1.1.2⟩,fun _=>h1.2⟩,by show t.on.st=2;rw [hst];exact h2⟩
 show (loc t.on.regs t.on.fs).1.length=_
 rw [h1.1.1,hre];exact hl
theorem WTh.ok.regs {u:Un} {b:Bd} {t:WTh} (h:t.ok u b) (k:Nat) (v:Int) (hs:t.st=2 -> zA0 (t.regs.set k v) t.fs=none):WTh.ok u b { t with regs:=t.regs.set k v } :=
 ⟨h.1,fun h1=>⟨by rw [uG];exact (h.2.1 h1).1,(h.2.1 h1).2⟩,hs⟩
theorem zJw {r r':List Int} {fs:List zx} (h:zA0 r fs=none):zA0 r' fs=none:=by
 unfold zA0 at h ⊢;cases hl:fs.getLast? with
 | none=>rfl
 | some f =>
   rw [hl] at h;simp only at h ⊢;cases hr:f.rest with
   | nil=>rw [hr] at h;cases h
   | cons a t =>
     rw [hr] at h;simp only at h ⊢;split at h
     ·cases h
     ·rename_i q1
      rw [if_neg q1];split at h
      ·cases h
      ·rename_i q2
       rw [if_neg q2];split at h
       ·cases h
       ·rename_i q3
        rw [if_neg q3]
theorem zHM {u:Un} (hr:zV u=true) {m:zW} (h:m.ok u) {i:Nat} (hi:i < m.zL.length) (a:Ac):(doM u m i a).1.ok u /\ (doM u m i a).1.zL.length=m.zL.length:=by
 have hset:∀ k v,(m.zAj i { m.get i with regs:=(m.get i).regs.set k v }).ok u:=fun k v=>h.zAj (fun b hb=>by
  obtain ⟨b',e,hok,_⟩:=h.th hi;rw [hb] at e;cases e;exact hok.regs k v (fun h2=>zJw (hok.2.2 h2)))
 have hcell:∀ k v,zW.ok u { m with cells:=m.cells.set k v }:=fun k v=>⟨by simp [h.cells],h.owners,h.zL,h.own,h.each⟩
 have hown:∀ k (v:Int),-1 <= v -> zW.ok u { m with owners:=m.owners.set k v }:=fun k v hv=>⟨h.cells,by simp [h.owners],h.zL,fun o ho=>by
  rcases List.mem_or_eq_of_mem_set ho with ho | ho
  ·exact h.own o ho
  ·subst ho;exact hv,h.each⟩
 unfold doM;simp only
 split
 ·exact ⟨hset _ _,by rw [zW.zBr]⟩
 ·split
  ·exact ⟨hcell _ _,rfl⟩
  ·split
   ·refine ⟨?_,by rw [zW.zBr]⟩
    have:=hset a.reg.toNat (m.cells.getD a.obj.toNat 0)
    exact ⟨by simp [zW.zAj,h.cells],this.owners,this.zL,this.own,this.each⟩
   ·split
    ·exact ⟨hown _ _ (by omega),rfl⟩
    ·split
     ·split
      ·exact ⟨hown _ _ (by omega),rfl⟩
      ·exact ⟨h,rfl⟩
     ·split
      ·split
       ·exact ⟨zJi hr h _,by unfold zFF;rw [zW.zBr]⟩
       ·exact ⟨h,rfl⟩
      ·split
       ·split <;> exact ⟨h,rfl⟩
       ·exact ⟨h,rfl⟩
theorem zEK {u:Un} {m:zW} {i:Nat} (hi:i < m.zL.length) (h2:(m.get i).st=2) (a:Ac):((doM u m i a).1.get i).st=2 /\ ((doM u m i a).1.get i).fs=(m.get i).fs:=by
 have hs:∀ (c:List Int) (o:List Int) (t:WTh),(zW.zAj ⟨c,o,m.zL⟩ i t).get i=t:=fun c o t=>zW.zBY _ _ _ hi
 unfold doM;simp only
 split
 ·rw [hs];exact ⟨h2,rfl⟩
 ·split
  ·exact ⟨h2,rfl⟩
  ·split
   ·rw [hs];exact ⟨h2,rfl⟩
   ·split
    ·exact ⟨h2,rfl⟩
    ·split
     ·split <;> exact ⟨h2,rfl⟩
     ·split
      ·split
       ·rename_i q
        have hne:a.obj.toNat ≠ i:=fun e=>by rw [e,h2] at q;cases q
        unfold zFF;rw [zW.zBL _ _ hne];exact ⟨h2,rfl⟩
       ·exact ⟨h2,rfl⟩
      ·split
       ·split <;> exact ⟨h2,rfl⟩
       ·exact ⟨h2,rfl⟩
theorem zBq {u:Un} (hr:zV u=true) {m:zW} (h:m.ok u) {i:Nat} (hi:i < m.zL.length) (h2:(m.get i).st=2):(zi u m i).1.ok u /\ (zi u m i).1.zL.length=m.zL.length:=by
 unfold zi;cases hn:(m.get i).next with
 | none =>
   refine ⟨h.zAj (fun b hb=>?_),by rw [zW.zBr]⟩
   obtain ⟨b',e,hok,_⟩:=h.th hi;rw [hb] at e;cases e;exact ⟨.inr (.inr (.inl rfl)),fun _=>hok.2.1 (by rw [h2];decide),fun q=>by cases q⟩
 | some a =>
   obtain ⟨g1,g2⟩:=zHM hr h hi a;obtain ⟨s1,s2⟩:=zEK (u:=u) hi h2 a;have hi':i < (doM u m i a).1.zL.length:=by rw [g2];exact hi
   simp only
   split
   ·refine ⟨g1.zAj (fun b hb=>?_),by rw [zW.zBr,g2]⟩
    obtain ⟨b',e,hok,_⟩:=g1.th hi';rw [hb] at e;cases e;exact ⟨.inr (.inr (.inr rfl)),fun _=>hok.2.1 (by rw [s1];decide),fun q=>by cases q⟩
   ·refine ⟨g1.zAj (fun b hb=>?_),by rw [zW.zBr,g2]⟩
    obtain ⟨b',e,hok,_⟩:=g1.th hi';rw [hb] at e;cases e;exact (zHU hok s1).1
theorem zDZ {m:zW} {i:Int} (h:zBQ m i=0):0 <= i /\ i < m.zL.length /\ (m.get i.toNat).st ≠ 1 /\ (m.get i.toNat).st ≠ 3 /\ (m.get i.toNat).st ≠ 4 /\ zAX m i.toNat=true:=by
 unfold zBQ at h;split at h
 ·cases h
 ·rename_i q
  simp only at h;split at h
  ·cases h
  ·split at h
   ·cases h
   ·split at h
    ·cases h
    ·split at h
     ·rename_i q1 q2 q3 q4
      exact ⟨by omega,by omega,q1,q2,q3,q4⟩
     ·cases h
theorem zDN {u:Un} (hr:zV u=true) {m:zW} (h:m.ok u) (i:Int):(stepM u m i).1.ok u /\ (stepM u m i).1.zL.length=m.zL.length:=by
 unfold stepM;split
 ·rename_i q
  obtain ⟨h1,h2,h3,h4,h5,_⟩:=zDZ q;have hi:i.toNat < m.zL.length:=by omega
  obtain ⟨b,_,hok,_⟩:=h.th hi;have hst:(m.get i.toNat).st=2:=J202 _;exact zBq hr h hi hst
 ·exact ⟨h,rfl⟩
end Go.Proofs.YtfjgcedkfnmdkaaGreatDoor
