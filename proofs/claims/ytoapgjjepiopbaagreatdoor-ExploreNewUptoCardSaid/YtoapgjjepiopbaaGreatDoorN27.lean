/- Layer N: texts joined. -/
import Derived.Test.YtoapgjjepiopbaaGreatDoorN26
set_option linter.all false
set_option maxHeartbeats 4000000
set_option maxRecDepth 8000
namespace Go.Proofs.YtoapgjjepiopbaaGreatDoor
theorem J47 (P:Prop) (h:P:=by exact ⟨by omega,by omega⟩):P:=h
theorem J70 (P:Prop) (h:P:=by
 induction l with
 | nil=>intro hb;cases hb
 | cons x r ih =>
   intro hb
   simp only [List.map_cons,List.foldr_cons];rcases List.mem_cons.1 hb with e | e
   ·subst e;omega
   ·have:=ih e;omega):P:=h
theorem J78 (P:Prop) (h:P:=by
 obtain rfl:i=nl:=by omega
 go_wp2_with fail
 go_returns
 exact ⟨v1,n1,rfl,HP.out.2.2.1,by have h:=HP.out.2.2.2;rw [HN.out,List.take_length] at h;exact h,HP.out.1,HP.out.2.1⟩):P:=h
theorem J215 (P:Prop) (h:P:=by rw [hbl];show Ac.hL (if a.ex.val r ≠ 0 then a.thn else a.els)+_ <= _;omega):P:=h
theorem Ac.zCu {u:Un} {regs:Int} {a:Ac} (h:Ac.may u regs a=true):zAr u regs a.kind a.reg a.obj a.ex a.count a.thn.length a.els.length=true /\ Ac.zq u regs a.thn=true /\ Ac.zq u regs a.els=true:=by
 cases a;simp only [Ac.may,Bool.and_eq_true] at h;exact ⟨h.1.1,h.1.2,h.2⟩
theorem Ac.zAk {u:Un} {regs:Int} {a:Ac} (h:Ac.may u regs a=true):1 <= a.kind /\ a.kind <= 11:=by
 have h1:=(Ac.zCu h).1;unfold zAr at h1;simp only [Bool.and_eq_true,decide_eq_true_eq] at h1;exact ⟨h1.1.1.1.1.1.1.1,h1.1.1.1.1.1.1.2⟩
theorem Ac.zOK {u:Un} {regs:Int} {a:Ac} (h:Ac.may u regs a=true) (hk:a.kind=1 \/ a.kind=3 \/ a.kind=4 \/ a.kind=9 \/ a.kind=10):a.ex.may regs=true:=by
 have h1:=(Ac.zCu h).1;unfold zAr at h1;have hf:(fields a.kind).ex=true:=by rcases hk with e | e | e | e | e <;> rw [e] <;> rfl
 rw [if_pos hf] at h1;simp only [Bool.and_eq_true,decide_eq_true_eq] at h1;exact h1.1.1.1.2
theorem Ac.zJy {u:Un} {regs:Int} {a:Ac} (h:Ac.may u regs a=true) (hk:a.kind=11):0 <= a.count /\ a.count <= 1000:=by
 have h1:=(Ac.zCu h).1;unfold zAr at h1;have hf:(fields a.kind).count=true:=by rw [hk];rfl
 rw [if_pos hf] at h1;simp only [Bool.and_eq_true,decide_eq_true_eq] at h1;exact ⟨h1.1.1.2.1,h1.1.1.2.2⟩
theorem Ac.zCP {u:Un} {regs:Int} {l:List Ac} (h:Ac.zq u regs l=true) {a:Ac} (ha:a ∈ l):Ac.may u regs a=true:=by
 induction l with
 | nil=>cases ha
 | cons x r ih =>
   simp only [Ac.zq,Bool.and_eq_true] at h;rcases List.mem_cons.1 ha with e | e
   ·subst e;exact h.1
   ·exact ih h.2 e
theorem Ac.zJE {u:Un} {regs:Int} {x:Ac} {r:List Ac} (h:Ac.zq u regs (x :: r)=true):Ac.may u regs x=true /\ Ac.zq u regs r=true:=by
 simpa only [Ac.zq,Bool.and_eq_true] using h
mutual
def Ac.h:Ac -> Nat
 | .mk _ _ _ _ _ t e=>1+max (Ac.hL t) (Ac.hL e)
def Ac.hL:List Ac -> Nat
 | []=>0
 | x :: r=>max (Ac.h x) (Ac.hL r)
end
theorem Ac.h_eq (x:Ac):x.h=1+max (Ac.hL x.thn) (Ac.hL x.els):=by cases x;rw [Ac.h];rfl
mutual
theorem Ac.zOt:(x:Ac) -> x.h <= x.cnt
 | .mk _ _ _ ex _ t e=>by
   have h1:=Ac.zGu t;have h2:=Ac.zGu e;simp only [Ac.h,Ac.cnt];omega
theorem Ac.zGu:(l:List Ac) -> Ac.hL l <= Ac.zM l
 | []=>Nat.le_refl _
 | x :: r=>by
   have h1:=Ac.zOt x;have h2:=Ac.zGu r;simp only [Ac.hL,Ac.zM];omega
end
def zGf (fs:List WFr):Prop:=fs.length <= 1001 /\ ∀ (j:Nat) (f:WFr),fs[j]?=some f -> Ac.hL f.rest+j <= 1000 /\ Ac.hL f.all+j <= 1000
theorem zCU {fs:List WFr} {f:WFr} (h:zGf fs) (h1:fs.length <= 1000) (h2:Ac.hL f.rest+fs.length <= 1000) (h3:Ac.hL f.all+fs.length <= 1000):zGf (fs++[f]):=by
 refine ⟨by simp;omega,fun j g e=>?_⟩
 rcases Nat.lt_or_ge j fs.length with hj | hj
 ·rw [List.getElem?_append_left hj] at e
  exact h.2 j g e
 ·rw [List.getElem?_append_right hj] at e
  have hz:j - fs.length=0:=by
   have:=(List.getElem?_eq_some_iff.1 e).1
   simpa using this
  rw [hz] at e;simp only [List.getElem?_cons_zero,Option.some.injEq] at e;subst e;exact J47 _
theorem zJp {fs:List WFr} (h:zGf fs):zGf fs.dropLast :=
 ⟨by rw [List.length_dropLast];have:=h.1;omega,fun j f e=>by
  have hj:=(List.getElem?_eq_some_iff.1 e).1;rw [List.length_dropLast] at hj;refine h.2 j f ?_
  rw [List.getElem?_dropLast,if_pos hj] at e;exact e⟩
theorem zJc {fs:List WFr} {f:WFr} (h:zGf fs) (hl:fs.getLast?=some f):fs.dropLast.length+1=fs.length /\ fs.dropLast.length <= 1000 /\ Ac.hL f.rest+fs.dropLast.length <= 1000 /\ Ac.hL f.all+fs.dropLast.length <= 1000:=by
 have hs:=zDm hl
 have hn:fs.length=fs.dropLast.length+1:=by
  have:=congrArg List.length hs
  simpa using this
 have e:fs[fs.dropLast.length]?=some f:=by
  have:fs[fs.dropLast.length]?=(fs.dropLast++[f])[fs.dropLast.length]?:=congrArg (fun l=>l[fs.dropLast.length]?) hs
  rw [this,List.getElem?_append_right (Nat.le_refl _)];simp
 have h2:=h.2 _ _ e;have h1:=h.1;exact ⟨hn.symm,by omega,h2.1,h2.2⟩
theorem zKM {r r':List Int} {fs fs':List WFr} (h:zCW r fs=some (r',fs')) (hf:zGf fs):zGf fs':=by
 unfold zCW at h;cases hl:fs.getLast? with
 | none=>rw [hl] at h;cases h
 | some f =>
   obtain ⟨l1,l2,l3,l4⟩:=zJc hf hl;have hi:=zJp hf;rw [hl] at h;simp only at h;cases hr:f.rest with
   | nil =>
     rw [hr] at h;simp only [Option.some.injEq,Prod.mk.injEq] at h;obtain ⟨_,rfl⟩:=h;split
     ·exact zCU hi l2 l4 l4
     ·exact hi
   | cons a tl =>
     rw [hr] at h l3;have hh:=Ac.h_eq a;simp only [Ac.hL] at l3;have hb:zGf (fs.dropLast++[(⟨tl,f.all,f.left⟩:WFr)]):=zCU hi l2 (by show Ac.hL tl+_ <= _;omega) l4;have hbl:(fs.dropLast++[(⟨tl,f.all,f.left⟩:WFr)]).length=fs.dropLast.length+1:=by rw [List.length_append];rfl
     simp only at h;split at h
     ·simp only [Option.some.injEq,Prod.mk.injEq] at h
      obtain ⟨_,rfl⟩:=h;exact hb
     ·split at h
      ·simp only [Option.some.injEq,Prod.mk.injEq] at h
       obtain ⟨_,rfl⟩:=h;have hc:Ac.hL (if a.ex.val r ≠ 0 then a.thn else a.els)+1 <= a.h:=by split <;> omega
       exact zCU hb (by rw [hbl];omega) (J215 _) (J215 _)
      ·split at h
       ·simp only [Option.some.injEq,Prod.mk.injEq] at h
        obtain ⟨_,rfl⟩:=h;split
        ·exact zCU hb (by rw [hbl];omega) (by rw [hbl];show Ac.hL a.thn+_ <= _;omega) (by rw [hbl];show Ac.hL a.thn+_ <= _;omega)
        ·exact hb
       ·cases h
def WFr.ok (u:Un) (regs:Int) (f:WFr):Prop:=Ac.zq u regs f.rest=true /\ Ac.zq u regs f.all=true /\ f.left <= 1000
structure zJG (u:Un) (regs:Int) (fs:List WFr):Prop where
 each:∀ f,f ∈ fs -> f.ok u regs
 low:zGf fs
def WTh.ok (u:Un) (b:Bd) (t:WTh):Prop :=
 (t.st=1 \/ t.st=2 \/ t.st=3 \/ t.st=4) /\ (t.st ≠ 1 -> t.regs.length=b.regs.toNat /\ zJG u b.regs t.fs) /\ (t.st=2 -> zCW t.regs t.fs=none)
structure WMa.ok (u:Un) (m:WMa):Prop where
 cells:m.cells.length=u.cells.length
 owners:m.owners.length=u.mutexes.toNat
 ths:m.ths.length=u.threads.length
 own:∀ o,o ∈ m.owners -> -1 <= o
 each:∀ (i:Nat) (t:WTh) (b:Bd),m.ths[i]?=some t -> u.threads[i]?=some b -> t.ok u b
theorem zIn {u:Un} {n:Int} {r r':List Int} {fs fs':List WFr} (h:zCW r fs=some (r',fs')) (hf:∀ f,f ∈ fs -> f.ok u n):r'.length=r.length /\ ∀ f,f ∈ fs' -> f.ok u n:=by
 unfold zCW at h;cases hl:fs.getLast? with
 | none=>rw [hl] at h;cases h
 | some f =>
   have hs:=zDm hl;have hfo:f.ok u n:=hf f (by rw [hs];simp);have hd:∀ g,g ∈ fs.dropLast -> g.ok u n:=fun g hg=>hf g (List.dropLast_subset _ hg)
   rw [hl] at h;simp only at h;cases hr:f.rest with
   | nil =>
     rw [hr] at h;simp only [Option.some.injEq,Prod.mk.injEq] at h;obtain ⟨rfl,rfl⟩:=h;refine ⟨rfl,fun g hg=>?_⟩
     split at hg
     ·rcases List.mem_append.1 hg with hg | hg
      ·exact hd g hg
      ·obtain rfl:g=⟨f.all,f.all,f.left - 1⟩:=by simpa using hg
       exact ⟨hfo.2.1,hfo.2.1,by have:=hfo.2.2;show f.left - 1 <= 1000;omega⟩
     ·exact hd g hg
   | cons a tl =>
     rw [hr] at h;have h0:=hfo.1;rw [hr] at h0;obtain ⟨ha,hm⟩:=Ac.zJE h0;obtain ⟨_,hat,hae⟩:=Ac.zCu ha
     have hb:∀ g,g ∈ fs.dropLast++[(⟨tl,f.all,f.left⟩:WFr)] -> g.ok u n:=fun g hg=>by
      rcases List.mem_append.1 hg with hg | hg
      ·exact hd g hg
      ·obtain rfl:g=⟨tl,f.all,f.left⟩:=by simpa using hg
       exact ⟨hm,hfo.2⟩
     simp only at h;split at h
     ·simp only [Option.some.injEq,Prod.mk.injEq] at h
      obtain ⟨rfl,rfl⟩:=h;exact ⟨by simp,hb⟩
     ·split at h
      ·simp only [Option.some.injEq,Prod.mk.injEq] at h
       obtain ⟨rfl,rfl⟩:=h;refine ⟨rfl,fun g hg=>?_⟩
       rcases List.mem_append.1 hg with hg | hg
       ·exact hb g hg
       ·have hg2:g=⟨if a.ex.val r ≠ 0 then a.thn else a.els,if a.ex.val r ≠ 0 then a.thn else a.els,1⟩:=by simpa using hg
        rw [hg2];by_cases q:a.ex.val r ≠ 0
        ·rw [if_pos q];exact ⟨hat,hat,by show 1 <= 1000;omega⟩
        ·rw [if_neg q];exact ⟨hae,hae,by show 1 <= 1000;omega⟩
      ·split at h
       ·simp only [Option.some.injEq,Prod.mk.injEq] at h
        obtain ⟨rfl,rfl⟩:=h;refine ⟨rfl,fun g hg=>?_⟩
        split at hg
        ·rcases List.mem_append.1 hg with hg | hg
         ·exact hb g hg
         ·obtain rfl:g=⟨a.thn,a.thn,a.count.toNat⟩:=by simpa using hg
          exact ⟨hat,hat,by have:=(Ac.zJy ha (by assumption)).2;show a.count.toNat <= 1000;omega⟩
        ·exact hb g hg
       ·cases h
theorem zNw {u:Un} {n:Int} {r:List Int} {fs:List WFr} (hf:zJG u n fs):((loc r fs).1.length=r.length /\ zJG u n (loc r fs).2) /\ zCW (loc r fs).1 (loc r fs).2=none :=
 zMC (P:=fun r' fs'=>r'.length=r.length /\ zJG u n fs') (fun r1 fs1 r2 fs2 hp h=>⟨(zIn h hp.2.each).1.trans hp.1,(zIn h hp.2.each).2,zKM h hp.2.low⟩) ⟨rfl,hf⟩
theorem zCp {u:Un} (h:zu u=true):1 <= u.threads.length /\ u.threads.length <= 8 /\ u.cells.length <= 8 /\ 0 <= u.mutexes /\ u.mutexes <= 8 /\ ∀ b,b ∈ u.threads -> 0 <= b.regs /\ b.regs <= 8 /\ Ac.zq u b.regs b.acts=true /\ Ac.hL b.acts <= 500:=by
 unfold zu at h;simp only [Bool.and_eq_true,decide_eq_true_eq] at h;obtain ⟨⟨⟨⟨⟨⟨⟨⟨h1,h2⟩,h3⟩,h4⟩,h5⟩,h6⟩,h7⟩,h8⟩,h9⟩:=h;refine ⟨h1,h2,h3,h4,h5,fun b hb=>?_⟩
 have:=List.all_eq_true.1 h7 b hb
 simp only [Bool.and_eq_true,decide_eq_true_eq] at this;refine ⟨this.1.1,this.1.2,this.2,?_⟩
 have hc:∀ l:List Bd,b ∈ l -> Ac.zM b.acts <= (l.map fun b=>Ac.zM b.acts).foldr (·+·) 0:=fun l=>by
  exact J70 _
 have h1:=hc u.threads hb;have h2:=Ac.zGu b.acts;omega
theorem zNG {u:Un} {b:Bd} (h:Ac.zq u b.regs b.acts=true) (hh:Ac.hL b.acts <= 500):(zLy b).ok u b /\ (zLy b).st=2:=by
 have h1:=zNw (u:=u) (n:=b.regs) (r:=List.replicate b.regs.toNat 0) (fs:=[⟨b.acts,b.acts,1⟩]) ⟨fun f hf=>by
  obtain rfl:f=⟨b.acts,b.acts,1⟩:=by simpa using hf
  exact ⟨h,h,by show 1 <= 1000;omega⟩,zCU (fs:=[]) ⟨Nat.zero_le _,fun j f e=>by cases e⟩ (Nat.zero_le _) (by show Ac.hL b.acts+0 <= _;omega) (by show Ac.hL b.acts+0 <= _;omega)⟩
 refine ⟨⟨.inr (.inl rfl),fun _=>⟨h1.1.1.trans (by simp),h1.1.2⟩,fun _=>h1.2⟩,rfl⟩
theorem WMa.get_some {m:WMa} {i:Nat} (h:i < m.ths.length):m.ths[i]?=some (m.get i):=by
 rw [List.getElem?_eq_getElem h];simp [WMa.get,List.getD,h]
theorem WMa.zKR (m:WMa) (i:Nat) (t:WTh):(m.zC9 i t).ths.length=m.ths.length:=by simp [WMa.zC9]
theorem WMa.zLv (m:WMa) (i:Nat) (t:WTh) (hi:i < m.ths.length):(m.zC9 i t).get i=t:=by simp [WMa.zC9,WMa.get,List.getD,hi]
theorem WMa.zMc (m:WMa) {i j:Nat} (t:WTh) (h:i ≠ j):(m.zC9 i t).get j=m.get j:=by
 show (m.ths.set i t).getD j WTh.zero=_
 unfold WMa.get;rw [List.getD,List.getD,List.getElem?_set_ne h]
theorem WMa.ok.zC9 {u:Un} {m:WMa} (h:m.ok u) {i:Nat} {t:WTh} (ht:∀ b,u.threads[i]?=some b -> t.ok u b):(m.zC9 i t).ok u:=by
 refine ⟨h.cells,h.owners,by rw [WMa.zKR];exact h.ths,h.own,fun j t' b e1 e2=>?_⟩
 have e1':(m.ths.set i t)[j]?=some t':=e1;rw [List.getElem?_set] at e1';split at e1'
 ·rename_i he
  subst he;split at e1'
  ·cases e1';exact ht b e2
  ·cases e1'
 ·exact h.each j t' b e1' e2
theorem WMa.ok.th {u:Un} {m:WMa} (h:m.ok u) {i:Nat} (hi:i < m.ths.length):∃ b,u.threads[i]?=some b /\ (m.get i).ok u b /\ u.body i=b:=by
 have hi2:i < u.threads.length:=by rw [<- h.ths];exact hi
 refine ⟨u.threads[i],List.getElem?_eq_getElem hi2,h.each i _ _ (WMa.get_some hi) (List.getElem?_eq_getElem hi2),?_⟩
 unfold Un.body;simp [List.getD,hi2]
theorem zMk {u:Un} (hr:zu u=true) {m:WMa} (h:m.ok u) (i:Nat):(zLL u m i).ok u:=by
 refine h.zC9 (fun b hb=>?_)
 have hm:=(zCp hr).2.2.2.2.2 b (List.mem_of_getElem? hb);have e:u.body i=b:=by unfold Un.body;simp [List.getD,hb]
 rw [e];exact (zNG hm.2.2.1 hm.2.2.2).1
theorem zIh {u:Un} (hr:zu u=true):(zFu u).ok u:=by
 refine zMk hr ⟨rfl,by simp,by simp,fun o ho=>?_,fun i t b e1 e2=>?_⟩ 0
 ·obtain ⟨_,rfl⟩:=List.mem_replicate.1 ho
  exact Int.le_refl _
 ·rw [List.getElem?_map] at e1
  obtain ⟨b',_,rfl⟩:=Option.map_eq_some_iff.1 e1;exact ⟨.inl rfl,fun h=>absurd rfl h,fun h=>by cases h⟩
theorem WTh.ok.regs {u:Un} {b:Bd} {t:WTh} (h:t.ok u b) (k:Nat) (v:Int) (hs:t.st=2 -> zCW (t.regs.set k v) t.fs=none):WTh.ok u b { t with regs:=t.regs.set k v } :=
 ⟨h.1,fun h1=>⟨by rw [List.length_set];exact (h.2.1 h1).1,(h.2.1 h1).2⟩,hs⟩
theorem zJo {m:WMa} {i:Int} (h:zKU m i=0):0 <= i /\ i < m.ths.length /\ (m.get i.toNat).st ≠ 1 /\ (m.get i.toNat).st ≠ 3 /\ (m.get i.toNat).st ≠ 4 /\ zK2 m i.toNat=true:=by
 unfold zKU at h;split at h
 ·cases h
 ·rename_i q
  simp only at h;split at h
  ·cases h
  ·split at h
   ·cases h
   ·split at h
    ·cases h
    ·split at h
     ·rename_i q1 q2 q3 q4
      exact ⟨by omega,by omega,q1,q2,q3,q4⟩
     ·cases h
end Go.Proofs.YtoapgjjepiopbaaGreatDoor
namespace Go.Proofs.YtoapgjjepiopbaaGreatDoor
open Go.RowKit
theorem zCM.mono {F F':Nat -> Prop} {w:World} {x:Ac} {cs:List Value} (h:zCM w F x cs) (hF:∀ k,F k -> F' k):zCM w F' x cs:=by
 induction h with
 | mk k reg obj ex count t e xs ta ea tc ec tss ess hx t0 _ e0 _ ih1 ih2=>exact .mk k reg obj ex count t e xs ta ea tc ec tss ess (hx.mono hF) (t0.mono hF) ih1 (e0.mono hF) ih2
theorem zAG.mono {F F':Nat -> Prop} {w:World} {l:List Ac} {ad:Option Addr} (h:zAG w F l ad) (hF:∀ k,F k -> F' k):zAG w F' l ad:=by
 exact J80 _
theorem Ac.zC8 (x:Ac):x.cnt=1+(if x.ex.there then x.ex.cnt else 0)+Ac.zM x.thn+Ac.zM x.els:=by cases x;rw [Ac.cnt];rfl
theorem Ac.zK6 {l:List Ac} {a:Ac} (h:a ∈ l):a.cnt <= Ac.zM l:=by
 induction l with
 | nil=>cases h
 | cons x r ih =>
   simp only [Ac.zM];rcases List.mem_cons.1 h with e | e
   ·subst e;omega
   ·have:=ih e;omega
theorem Ac.zD0 (l:List Ac):l.length <= Ac.zM l:=by
 induction l with
 | nil=>simp
 | cons x r ih=>have:=Ac.zC8 x;simp only [List.length_cons,Ac.zM];omega
theorem zFV {u:Un} (h:zu u=true) {b:Bd} (hb:b ∈ u.threads):Ac.zM b.acts <= 500:=by
 unfold zu at h;simp only [Bool.and_eq_true,decide_eq_true_eq] at h;have h9:=h.2
 have hc:∀ l:List Bd,b ∈ l -> Ac.zM b.acts <= (l.map fun b=>Ac.zM b.acts).foldr (·+·) 0:=fun l=>by
  exact J70 _
 have:=hc u.threads hb
 omega
def zLN:zBA WFr:=fun w F f cs=>∃ (ad:Option Addr) (cap at_:Nat),cs=[.slice ad f.all.length cap, .int .i64 at_, .int .i64 f.left] /\ zAG w F f.all ad /\ f.rest=f.all.drop at_ /\ at_ <= f.all.length /\ Ac.zM f.all <= 1000
structure ThX (R:zBA WFr) (sz:Nat) (ty:TypeId) (w:World) (T:zAA) (F:Nat -> Prop) (id g i:Nat) (H:List HTh) (ths:List WTh) (t:WTh) (fs:List WFr) (f:WFr) (rv:Value) (gp cap:Nat) (css:List (List Value)) (cs:List Value):Prop where
 G:zCq R sz ty w T F id g H ths
 th:ths[i]?=some t
 h:H[i]?=some ⟨t.st,rv, .slice (some ⟨gp,0,none⟩) (fs.length+1) cap⟩
 regs:zBS w T id (.regs i) rv t.regs
 tag:T gp=some (id, .fs i)
 len:css.length=fs.length
 room:fs.length+1 <= cap
 flat:css.flatten.length=fs.length*sz
 own:w.ownsRow 0 ty sz (.slice (some ⟨gp,0,none⟩) (fs.length+1) cap) (fs.length+1) (css.flatten++cs)
 pl:R w F f cs
 pls:∀ (j:Nat) (y:WFr) (ds:List Value),fs[j]?=some y -> css[j]?=some ds -> R w F y ds
section
variable {R:zBA WFr} {sz:Nat} {ty:TypeId} (L:zAN R sz) {w w':World} {T:zAA} {F:Nat -> Prop} {id g i gp cap:Nat} {H:List HTh} {ths:List WTh} {t:WTh} {fs:List WFr} {f:WFr} {rv:Value} {css:List (List Value)} {cs:List Value}
namespace ThX
include L in
theorem zD (h:ThX R sz ty w T F id g i H ths t fs f rv gp cap css cs) (hk:Keeps zA w w'):ThX R sz ty w' T F id g i H ths t fs f rv gp cap css cs :=
 ⟨zCq.keeps L h.G hk (fun _ _ h=>h),h.th,h.h,h.regs.keeps hk (fun _ _ h=>h),h.tag,h.len,h.room,h.flat,zF h.own hk (fun _ _ h=>h),L.keeps h.pl hk (fun _ _ h=>h),fun j y ds e1 e2=>L.keeps (h.pls j y ds e1 e2) hk (fun _ _ h=>h)⟩
theorem cell (h:ThX R sz ty w T F id g i H ths t fs f rv gp cap css cs) (j:Nat) {v:Value} (hv:cs[j]?=some v):w.cell? ⟨gp,fs.length*sz+j,none⟩=some v:=by
 refine (zC.zAM h.own).cell ?_
 rw [List.getElem?_append_right (by rw [h.flat];omega),h.flat,Nat.add_sub_cancel_left];exact hv
theorem free (h:ThX R sz ty w T F id g i H ths t fs f rv gp cap css cs) {j:Nat} (hj:j < cs.length):w.frozen? ⟨gp,fs.length*sz+j,none⟩=false :=
 (zC.zAM h.own).free (by rw [List.length_append,h.flat];omega)
theorem fv (h:ThX R sz ty w T F id g i H ths t fs f rv gp cap css cs):w.cell? ⟨g,i*3+2,none⟩=some (.slice (some ⟨gp,0,none⟩) (fs.length+1) cap):=(zDB h.G.row h.h).2.2
end ThX
end
theorem zh.weak {M:World -> Nat -> Value -> Int -> Nat -> Prop} {w w':World} {b:Nat} {v:Value} {rg:Int} {n m m':Nat} {r:Value} {e:Ending} (h:zh M w b v rg n m r e w') (hm:m <= m'):zh M w b v rg n m' r e w':=by
 obtain ⟨v',n',h1,h2,h3,h4⟩:=h;exact ⟨v',n',h1,h2,by omega,h4⟩
theorem zNJ {f:Fl} {reg regs obj most count:Int} {m z:Bool} {nt ne:Nat} (hb:acB f reg regs obj most count m z nt ne=true):(f.ex=true -> m=true) /\ (f.ex=false -> z=true):=by
 unfold acB at hb;simp only [Bool.and_eq_true] at hb;obtain ⟨⟨⟨⟨⟨_,_⟩,h⟩,_⟩,_⟩,_⟩:=hb;constructor <;> (intro e;rw [e] at h;simpa using h)
theorem Ex.zBV {x:Ex} (h:x.none=true):x.kind=0:=by
 cases x;simp only [Ex.none,Bool.and_eq_true,beq_iff_eq] at h;exact h.1.1.1
theorem Ex.zAk {x:Ex} {regs:Int} (h:x.may regs=true):x.kind ≠ 0:=by
 rcases zBt (Ex.zCu h).1 with ⟨h,_⟩ | ⟨h,_⟩ | ⟨h,_⟩ | ⟨h,_⟩ <;> omega
theorem Ex.zE7 {x:Ex} (h:x.kind ≠ 0):x.there=true:=by
 cases x;have h':¬ (_:Int)=0:=h;simp only [Ex.kind] at h';simp [Ex.there,h']
theorem Ac.zF6 {l:List Ac} {i:Nat} (h:i < l.length):Ac.zM (l.take (i+1))=Ac.zM (l.take i)+l[i].cnt:=by
 induction l generalizing i with
 | nil=>exact absurd h (Nat.not_lt_zero _)
 | cons x r ih =>
   cases i with
   | zero=>simp [Ac.zM]
   | succ i =>
     have:=ih (i:=i) (by simpa using h)
     simp only [List.take_succ_cons,Ac.zM,this,List.getElem_cons_succ];omega
theorem Ac.zEK (l:List Ac) (i:Nat):Ac.zM (l.take i) <= Ac.zM l:=by
 induction l generalizing i with
 | nil=>simp
 | cons x r ih =>
   cases i with
   | zero=>simp [Ac.zM]
   | succ i=>have:=ih i;simp only [List.take_succ_cons,Ac.zM];omega
def zIa (x:Ac):Prop:=∀ (u:Un) (regs:Int) (b:Nat) (rg:Int) (F:Nat -> Prop) (w:World) (v:Value) (n:Nat) (d:Int) (xa:Option Addr) (xc:Nat) (ta:Option Addr) (tc:Nat) (ea:Option Addr) (ec:Nat),
 zN w b v rg n -> zR w F x.ex.args xa -> zAG w F x.thn ta -> zAG w F x.els ea -> zAt w b v F -> x.may u regs=true -> n+2*x.cnt < 1000000 →
 Calls Tryz.prog 109 #[.pointer (some ⟨b,0,none⟩),acV x xa xc ta tc ea ec, .int .i64 d] w (zh zN w b v rg n (2*x.cnt) (.tuple #[]))
def zE0 (l:List Ac):Prop:=∀ (u:Un) (regs:Int) (b:Nat) (rg:Int) (F:Nat -> Prop) (w:World) (v:Value) (n:Nat) (d:Int) (ad:Option Addr) (cap:Nat),
 zN w b v rg n -> zAG w F l ad -> zAt w b v F -> Ac.zq u regs l=true -> n+2*Ac.zM l < 1000000 →
 Calls Tryz.prog 70 #[.pointer (some ⟨b,0,none⟩), .slice ad l.length cap, .int .i64 d] w (zh zN w b v rg n (2*Ac.zM l) (.tuple #[]))
theorem zJK (x:Ac) (ht:zE0 x.thn) (he:zE0 x.els):zIa x:=by
 intro u regs b rg F w v n d xa xc ta tc ea ec h hx h1 h2 hF hm hn
 have hc:=Ac.zC8 x
 obtain ⟨hl,hmt,hme⟩:zAr u regs x.kind x.reg x.obj x.ex x.count x.thn.length x.els.length=true /\ Ac.zq u regs x.thn=true /\ Ac.zq u regs x.els=true:=by
  cases x;simp only [Ac.may,Bool.and_eq_true,and_assoc] at hm;exact hm
 rw [zDi] at hl;simp only [Bool.and_eq_true,decide_eq_true_eq] at hl;obtain ⟨⟨k1,k2⟩,hb⟩:=hl;obtain ⟨b1,b2⟩:=zNJ hb
 have HX:x.ex.may regs=true -> Hid (∀ W v' n' k,zN W b v' rg n' -> zK w b v W v' -> n'+x.ex.cnt < 1000000 -> Calls Tryz.prog 161 #[.pointer (some ⟨b,0,none⟩), .int .i64 k, .agg #[.int .i64 x.ex.kind, .int .i64 x.ex.num, .string x.ex.nm, .slice xa x.ex.args.length xc]] W (zh zN W b v' rg n' x.ex.cnt (.tuple #[]))) :=
  fun hmx W v' n' k a1 a2 a3=>zLc b rg regs F x.ex W v' n' k xa xc a1 (hx.keeps a2.keeps (fun q hq=>(hF q hq).2)) (hF.run a2) hmx a3
 have HT:Hid (∀ W v' n' d,zN W b v' rg n' -> zK w b v W v' -> n'+2*Ac.zM x.thn < 1000000 -> Calls Tryz.prog 70 #[.pointer (some ⟨b,0,none⟩), .slice ta x.thn.length tc, .int .i64 d] W (zh zN W b v' rg n' (2*Ac.zM x.thn) (.tuple #[]))) :=
  fun W v' n' d a1 a2 a3=>ht u regs b rg F W v' n' d ta tc a1 (h1.keeps a2.keeps (fun q hq=>(hF q hq).2)) (hF.run a2) hmt a3
 have HE:Hid (∀ W v' n' d,zN W b v' rg n' -> zK w b v W v' -> n'+2*Ac.zM x.els < 1000000 -> Calls Tryz.prog 70 #[.pointer (some ⟨b,0,none⟩), .slice ea x.els.length ec, .int .i64 d] W (zh zN W b v' rg n' (2*Ac.zM x.els) (.tuple #[]))) :=
  fun W v' n' d a1 a2 a3=>he u regs b rg F W v' n' d ea ec a1 (h2.keeps a2.keeps (fun q hq=>(hF q hq).2)) (hF.run a2) hme a3
 have hle:=Ac.zD0 x.els;have hEx:∀ hmx:x.ex.may regs=true,x.cnt=1+x.ex.cnt+Ac.zM x.thn+Ac.zM x.els:=fun hmx=>by rw [hc,if_pos (Ex.zE7 (Ex.zAk hmx))]
 unfold acV;obtain ⟨k,ek⟩:=eX x.kind;rw [<- ek] at b1 b2 k1 k2 ⊢;rcases (show k=1 \/ k=2 \/ k=3 \/ k=4 \/ k=5 \/ k=6 \/ k=7 \/ k=8 \/ k=9 \/ k=10 \/ k=11 by omega) with h0 | h0 | h0 | h0 | h0 | h0 | h0 | h0 | h0 | h0 | h0
 all_goals (clear ek;subst h0)
 ·have hmx:=b1 (by decide)
  have hce:=hEx hmx;exact (zNh h d x.reg x.obj x.ex.kind x.ex.num x.count x.ex.nm xa ta ea x.ex.args.length xc x.thn.length tc x.els.length ec _ (Ex.zAk hmx) (HX hmx) (by omega)).mono (fun e w' h=>h.weak (by omega))
 ·have hz:=Ex.zBV (b2 (by decide))
  exact (zN6 h d x.reg x.obj x.ex.kind x.ex.num x.count x.ex.nm xa ta ea x.ex.args.length xc x.thn.length tc x.els.length ec hz (by omega)).mono (fun e w' h=>h.weak (by omega))
 ·have hmx:=b1 (by decide)
  have hce:=hEx hmx;exact (zNX h d x.reg x.obj x.ex.kind x.ex.num x.count x.ex.nm xa ta ea x.ex.args.length xc x.thn.length tc x.els.length ec _ (Ex.zAk hmx) (HX hmx) (by omega)).mono (fun e w' h=>h.weak (by omega))
 ·have hmx:=b1 (by decide)
  have hce:=hEx hmx;exact (zNr h d x.reg x.obj x.ex.kind x.ex.num x.count x.ex.nm xa ta ea x.ex.args.length xc x.thn.length tc x.els.length ec _ (Ex.zAk hmx) (HX hmx) (by omega)).mono (fun e w' h=>h.weak (by omega))
 ·have hz:=Ex.zBV (b2 (by decide))
  exact (zNs h d x.reg x.obj x.ex.kind x.ex.num x.count x.ex.nm xa ta ea x.ex.args.length xc x.thn.length tc x.els.length ec hz (by omega)).mono (fun e w' h=>h.weak (by omega))
 ·have hz:=Ex.zBV (b2 (by decide))
  exact (zOF h d x.reg x.obj x.ex.kind x.ex.num x.count x.ex.nm xa ta ea x.ex.args.length xc x.thn.length tc x.els.length ec hz (by omega)).mono (fun e w' h=>h.weak (by omega))
 ·have hz:=Ex.zBV (b2 (by decide))
  exact (zNR h d x.reg x.obj x.ex.kind x.ex.num x.count x.ex.nm xa ta ea x.ex.args.length xc x.thn.length tc x.els.length ec hz (by omega)).mono (fun e w' h=>h.weak (by omega))
 ·have hz:=Ex.zBV (b2 (by decide))
  exact (zNT h d x.reg x.obj x.ex.kind x.ex.num x.count x.ex.nm xa ta ea x.ex.args.length xc x.thn.length tc x.els.length ec hz (by omega)).mono (fun e w' h=>h.weak (by omega))
 ·have hmx:=b1 (by decide)
  have hce:=hEx hmx;exact (zNa h d x.reg x.obj x.ex.kind x.ex.num x.count x.ex.nm xa ta ea x.ex.args.length xc x.thn.length tc x.els.length ec _ (Ex.zAk hmx) (HX hmx) (by omega)).mono (fun e w' h=>h.weak (by omega))
 ·have hmx:=b1 (by decide)
  have hce:=hEx hmx
  have HB:Hid (∀ W v' n' k,zN W b v' rg n' -> zK w b v W v' -> n'+(2*Ac.zM x.thn+2*Ac.zM x.els+2) < 1000000 -> Calls Tryz.prog 162 #[.pointer (some ⟨b,0,none⟩), .agg #[.int .i64 10, .int .i64 x.reg, .int .i64 x.obj, .int .i64 x.ex.kind, .int .i64 x.ex.num, .string x.ex.nm, .slice xa x.ex.args.length xc, .int .i64 x.count, .slice ta x.thn.length tc, .slice ea x.els.length ec], .int .i64 d, .int .i64 k] W (zh zN W b v' rg n' (2*Ac.zM x.thn+2*Ac.zM x.els+2) (.tuple #[]))) :=
   fun W v' n' k a1 a2 a3=>zMX a1 d k x.reg x.obj x.ex.kind x.ex.num x.count x.ex.nm xa ta ea x.ex.args.length xc x.thn.length tc x.els.length ec _ _ (fun W2 v2 n2 d2 c1 c2 c3=>HT.out W2 v2 n2 d2 c1 (zK.trans h.lt a2 c2) c3) (fun W2 v2 n2 d2 c1 c2 c3=>HE.out W2 v2 n2 d2 c1 (zK.trans h.lt a2 c2) c3) (by omega) a3
  exact (zMb h d x.reg x.obj x.ex.kind x.ex.num x.count x.ex.nm xa ta ea x.ex.args.length xc x.thn.length tc x.els.length ec _ (Ex.zAk hmx) (HX hmx) _ HB (by omega)).mono (fun e w' h=>h.weak (by omega))
 ·have hz:=Ex.zBV (b2 (by decide))
  exact (zL5 h d x.reg x.obj x.ex.kind x.ex.num x.count x.ex.nm xa ta ea x.ex.args.length xc x.thn.length tc x.els.length ec hz _ HT (by omega)).mono (fun e w' h=>h.weak (by omega))
theorem zDq (l:List Ac) (ih:∀ y,y ∈ l -> zIa y):zE0 l:=by
 intro u regs b rg F w v n d ad cap h hL hF hm hn
 have hlen:=Ac.zD0 l;obtain ⟨nl,hnl⟩:=eX l.length;rw [<- hnl];have HN:=Lib.hid hnl;have hnb:nl < 1000000:=by omega
 have HL:=Lib.hid hL;have IH:=Lib.hid ih;have HF:=Lib.hid hF;have H:=Lib.hid h;have HM:=Lib.hid hm;have HB:=Lib.hid hn;clear h hL ih hF hm hnl hlen hn;go_enter Tryz.func70,Tryz.ntmps70
 go_wp2_with fail
 go_loopw [10] (fun iv wr=>∃ (i:Nat) (v':Value) (n':Nat),i <= nl /\ iv=.int .i64 i /\ Hid (zN wr b v' rg n' /\ zK w b v wr v' /\ n <= n' /\ n' <= n+2*Ac.zM (l.take i))) (fun iv _=>nl - (intOf iv).toNat)
 case atStart=>exact ⟨0,v,n,Nat.zero_le _,rfl,H.out,zK.refl,Nat.le_refl _,by omega⟩
 case round =>
  obtain ⟨i,v1,n1,hi,rfl,HP⟩:=hrel;by_cases hlt:i < nl
  ·have i1:(0:Int) <= i:=by omega
   have i2:(i:Int) < nl:=by omega
   have hlt':i < l.length:=by have:=HN.out;omega
   have HL1:=HL.out.keeps HP.out.2.1.keeps (fun q hq=>(HF.out q hq).2);obtain ⟨g,o,xa,xc,ta,tc,ea,ec,e1,hg,d0,d1,d2,d3,d4,d5,d6,d7,d8,d9,hx,hxt,hxe⟩:=HL1.at hlt';subst e1;have hcT:=Ac.zF6 hlt';have hcM:=Ac.zK6 (List.getElem_mem hlt')
   have HCL:Hid (∀ W,Keeps zA wr W -> Calls Tryz.prog 109 #[.pointer (some ⟨b,0,none⟩), .agg #[.int .i64 l[i].kind, .int .i64 l[i].reg, .int .i64 l[i].obj, .int .i64 l[i].ex.kind, .int .i64 l[i].ex.num, .string l[i].ex.nm, .slice xa l[i].ex.args.length xc, .int .i64 l[i].count, .slice ta l[i].thn.length tc, .slice ea l[i].els.length ec], .int .i64 d] W (zh zN W b v1 rg n1 (2*l[i].cnt) (.tuple #[]))):=fun W hk =>
    IH.out _ (List.getElem_mem hlt') u regs b rg F W v1 n1 d xa xc ta tc ea ec (HP.out.1.zD hk) (hx.keeps hk (fun _ _ h=>h)) (hxt.keeps hk (fun _ _ h=>h)) (hxe.keeps hk (fun _ _ h=>h)) ((HF.out.run HP.out.2.1).zD hk) (Ac.zCP HM.out (List.getElem_mem hlt')) (by
     have h1:=HP.out.2.2.2;have h2:=HB.out;have h3:Ac.zM (l.take (i+1)) <= Ac.zM l:=Ac.zEK _ _;omega)
   have HCT:=Lib.hid hcT;clear hx hxt hxe HL1 hcM hcT;generalize l[i].cnt=m at HCL HCT;generalize l[i].kind=x0 at d0 HCL;generalize l[i].reg=x1 at d1 HCL;generalize l[i].obj=x2 at d2 HCL;generalize l[i].ex.kind=x3 at d3 HCL;generalize l[i].ex.num=x4 at d4 HCL;generalize l[i].ex.nm=x5 at d5 HCL;generalize l[i].ex.args.length=x6 at d6 HCL;generalize l[i].count=x7 at d7 HCL;generalize l[i].thn.length=x8 at d8 HCL;generalize l[i].els.length=x9 at d9 HCL;go_upto_region 3 with fail
   obtain ⟨b7,w7,e1,e2,R7,K7,_⟩:=newRow wr [.int .i64 x0, .int .i64 x1, .int .i64 x2, .int .i64 x3, .int .i64 x4, .string x5, .slice xa x6 xc, .int .i64 x7, .slice ta x8 tc, .slice ea x9 ec] 146;try rw [e1]
   try rw [e2]
   have y:=R7.zl;have k7:=zH w7;have HK7:=Lib.hid K7;clear e1 e2 R7 K7 d0 d1 d2 d3 d4 d5 d6 d7 d8 d9;go_upto_region 4 with (go_at_call 109;refine (HCL.out _ HK7.out).mono ?_;rintro e w8 ⟨v2,n2,rfl,l2,u2,c2,r2⟩;have H2:Hid (zN w8 b v2 rg n2 /\ zK w b v w8 v2 /\ n1 <= n2 /\ n2 <= n1+2*m):=⟨c2,zK.trans H.out.lt HP.out.2.1 (zK.pre HK7.out r2),l2,u2⟩;clear c2 r2 y k7 l2 u2)
   go_wp2_with fail
   exact ⟨⟨i+1,v2,n2,by omega,by go_num,H2.out.1,H2.out.2.1,by have:=HP.out.2.2.1;have:=H2.out.2.2.1;omega,by have:=HP.out.2.2.2;have:=H2.out.2.2.2;have:=HCT.out;omega⟩,by simp [intOf];omega⟩
  ·exact J78 _
theorem zOD (x:Ac):zIa x:=Ac.ind (fun k r o x c t e h1 h2=>zJK _ (zDq t h1) (zDq e h2)) x
theorem zMd (l:List Ac):zE0 l:=zDq l (fun y _=>zOD y)
end Go.Proofs.YtoapgjjepiopbaaGreatDoor
