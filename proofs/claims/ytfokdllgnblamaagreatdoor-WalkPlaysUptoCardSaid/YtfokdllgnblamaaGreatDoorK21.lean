/- Layer K: texts joined. -/
import Derived.Test.YtfokdllgnblamaaGreatDoorK20
set_option linter.all false
set_option maxHeartbeats 1000000
set_option maxRecDepth 8000
namespace Go.Proofs.YtfokdllgnblamaaGreatDoor
abbrev kR:=@List.mem_append
abbrev vX:=@Option.map_eq_some_iff
abbrev vD:=@List.mem_of_getElem?
theorem J18 (P:Prop) (h:P:=by
 have hc0:c=0:=by omega
 subst hc0;clear hrun h1 h2;obtain rfl:i=N:=by omega
 go_wp2_with fail
 go_ret
 first
  | exact ⟨da,dc,by first | rfl | go_num,zAW.ofRow HO.out HN.out (fun kb e=>⟨HB.out kb e,zO HO.out e⟩),HK.out⟩
  | exact ⟨da,⟨dc,by first | rfl | go_num⟩,zAW.ofRow HO.out HN.out (fun kb e=>⟨HB.out kb e,zO HO.out e⟩),HK.out⟩):P:=h
theorem J20 (P:Prop) (h:P:=by
 go_wp2_with (first | (at_builtin;refine zI _ (by rfl) _ _ 128 (by rfl) 0 3 j0 _ 1 8 Tryz.underlying128 hj0 hz0 hz1 hz2 rfl (by decide) (.slice da i dc) i (zCF 1000000000 (x+y) i) (by rfl) (zG HO.out ((yC zA wr).alloc _) (fun _ _ h=>h)) (.slice (some ⟨wr.heap.size,0,none⟩) 1 1) 1 _ (by rfl) (xN (yN (yK wr _))) rfl (by intro q hq;simp only [xX,kF,or_false] at hq;rcases hq with rfl;rfl) (by unfold maxLen;omega) (by omega) (yJ _) ?_;intro da2 dc2 w4 ha;have HA:=yB ha;clear ha) | (go_at_call 98;refine (HDG.out _ _ _ (by first | exact .inl ⟨rfl,rfl⟩ | exact .inr ⟨rfl,rfl⟩) rfl).mono ?_;rintro e w2 ⟨rfl,rfl⟩))
 go_roundw
 case rel =>
  obtain ⟨g1,g2,g3⟩:=grow HO.out HK.out HB.out (by rw [<- HD.out.1];congr 1 <;> omega) HA.out;exact ⟨i+1,(d1+d2+c) / 1000000000,da2,dc2,by omega,by first | rfl | (congr 1 <;> omega),by first | rfl | (congr 1 <;> omega),by go_num,HD.out.2,by have:=HC2.out;omega,g1,g2,g3⟩
 case measure=>simp [intOf];omega):P:=h
theorem J21 (P:Prop) (h:P:=by
 go_wp2_with (first | (at_builtin;refine zI _ (by rfl) _ _ 128 (by rfl) 0 3 j0 _ 1 8 Tryz.underlying128 hj0 hz0 hz1 hz2 rfl (by decide) (.slice da i dc) i (zCF 1000000000 (x*k) i) (by rfl) (zG HO.out ((yC zA wr).alloc _) (fun _ _ h=>h)) (.slice (some ⟨wr.heap.size,0,none⟩) 1 1) 1 _ (by rfl) (xN (yN (yK wr _))) rfl (by intro q hq;simp only [xX,kF,or_false] at hq;rcases hq with rfl;rfl) (by unfold maxLen;omega) (by omega) (yJ _) ?_;intro da2 dc2 w4 ha;have HA:=yB ha;clear ha) | (go_at_call 98;refine HDG.out.mono ?_;rintro e w2 ⟨rfl,rfl⟩))
 go_roundw
 case rel =>
  obtain ⟨g1,g2,g3⟩:=grow HO.out HK.out HB.out (by rw [<- HD.out.1];congr 1 <;> omega) HA.out;exact ⟨i+1,(m+c) / 1000000000,da2,dc2,by omega,by first | rfl | (congr 1 <;> omega),by first | rfl | (congr 1 <;> omega),by go_num,HD.out.2,by have:=HC2.out;omega,g1,g2,g3⟩
 case measure=>simp [intOf];omega):P:=h
theorem J77 (P:Prop) (h:P:=by
 obtain rfl:g=⟨f.rest.tail,f.all,f.left⟩:=by simpa using hg
 refine ⟨?_,hfl.2⟩
 have:=hfl.1
 cases hr:f.rest with
 | nil=>simp [Ac.zAM]
 | cons a r =>
   rw [hr] at this;exact (Ac.zCW this).2):P:=h
theorem J82 (P:Prop) (h:P:=by
 induction l with
 | nil=>intro hb;cases hb
 | cons x r ih =>
   intro hb
   simp only [uZ,List.foldr_cons];rcases xX.1 hb with e | e
   ·subst e;omega
   ·have:=ih e;omega):P:=h
theorem J110 (P:Prop) (h:P:=by
 rw [kY] at e1;obtain ⟨b',_,rfl⟩:=vX.1 e1;exact ⟨.inl rfl,fun h=>absurd rfl h,fun h=>by cases h⟩):P:=h
theorem J175 (P:Prop) (h:P:=by
 have h1:¬ i < p:=fun h=>hlt (hrun.1 (.inl h))
 have h2:¬ 0 < c:=fun h=>hlt (hrun.1 (.inr h))
 have i1:¬ (i:Int) < p:=by omega
 exact J18 _):P:=h
theorem J244 (P:Prop) (h:P:=by rcases hok.1 with e | e | e | e <;> first | exact e | exact absurd e h3 | exact absurd e h4 | exact absurd e h5):P:=h
theorem J259 (P:Prop) (h:P:=by have:=(zl (by decide) p x).2 e;omega):P:=h
theorem J264 (P:Prop) (h:P:=by rw [hbl];show Ac.hL (if a.ex.val r ≠ 0 then a.thn else a.els)+_ <= _;omega):P:=h
theorem Ac.zDI {u:Un} {regs:Int} {a:Ac} (h:Ac.may u regs a=true):zBS u regs a.kind a.reg a.obj a.ex a.count a.thn.length a.els.length=true /\ Ac.zAM u regs a.thn=true /\ Ac.zAM u regs a.els=true:=by
 cases a;simp only [Ac.may,yT] at h;exact ⟨h.1.1,h.1.2,h.2⟩
theorem Ac.zEc {u:Un} {regs:Int} {a:Ac} (h:Ac.may u regs a=true):1 <= a.kind /\ a.kind <= 11:=by
 have h1:=(Ac.zDI h).1;unfold zBS at h1;simp only [yT,yU] at h1;exact ⟨h1.1.1.1.1.1.1.1,h1.1.1.1.1.1.1.2⟩
theorem Ac.zDw {u:Un} {regs:Int} {a:Ac} (h:Ac.may u regs a=true) (hk:a.kind=1 \/ a.kind=2 \/ a.kind=4):0 <= a.reg /\ a.reg < regs:=by
 have h1:=(Ac.zDI h).1;unfold zBS at h1;have hf:(fields a.kind).reg=true:=by rcases hk with e | e | e <;> rw [e] <;> rfl
 rw [if_pos hf] at h1;simp only [yT,yU] at h1;exact ⟨h1.1.1.1.1.1.2.1,h1.1.1.1.1.1.2.2⟩
theorem Ac.zG4 {u:Un} {regs:Int} {a:Ac} (h:Ac.may u regs a=true) (hk:2 <= a.kind /\ a.kind <= 8):0 <= a.obj /\ a.obj < zBM u a.kind:=by
 have h1:=(Ac.zDI h).1;unfold zBS at h1
 have hf:(fields a.kind).name=true:=by
  rcases (show a.kind=2 \/ a.kind=3 \/ a.kind=4 \/ a.kind=5 \/ a.kind=6 \/ a.kind=7 \/ a.kind=8 by omega) with e | e | e | e | e | e | e <;> rw [e] <;> rfl
 rw [if_pos hf] at h1;simp only [yT,yU] at h1;exact ⟨h1.1.1.1.1.2.1,h1.1.1.1.1.2.2⟩
theorem Ac.zDU {u:Un} {regs:Int} {a:Ac} (h:Ac.may u regs a=true) (hk:a.kind=1 \/ a.kind=3 \/ a.kind=4 \/ a.kind=9 \/ a.kind=10):a.ex.may regs=true:=by
 have h1:=(Ac.zDI h).1;unfold zBS at h1;have hf:(fields a.kind).ex=true:=by rcases hk with e | e | e | e | e <;> rw [e] <;> rfl
 rw [if_pos hf] at h1;simp only [yT,yU] at h1;exact h1.1.1.1.2
theorem Ac.zJ8 {u:Un} {regs:Int} {a:Ac} (h:Ac.may u regs a=true) (hk:a.kind=11):0 <= a.count /\ a.count <= 1000:=by
 have h1:=(Ac.zDI h).1;unfold zBS at h1;have hf:(fields a.kind).count=true:=by rw [hk];rfl
 rw [if_pos hf] at h1;simp only [yT,yU] at h1;exact ⟨h1.1.1.2.1,h1.1.1.2.2⟩
theorem Ac.zCW {u:Un} {regs:Int} {x:Ac} {r:List Ac} (h:Ac.zAM u regs (x :: r)=true):Ac.may u regs x=true /\ Ac.zAM u regs r=true:=by
 simpa only [Ac.zAM,yT] using h
mutual
def Ac.h:Ac -> Nat
 | .mk _ _ _ _ _ t e=>1+max (Ac.hL t) (Ac.hL e)
def Ac.hL:List Ac -> Nat
 | []=>0
 | x :: r=>max (Ac.h x) (Ac.hL r)
end
theorem Ac.h_eq (x:Ac):x.h=1+max (Ac.hL x.thn) (Ac.hL x.els):=by cases x;rw [Ac.h];rfl
mutual
theorem Ac.zPB:(x:Ac) -> x.h <= x.cnt
 | .mk _ _ _ ex _ t e=>by
   have h1:=Ac.zHB t;have h2:=Ac.zHB e;simp only [Ac.h,Ac.cnt];omega
theorem Ac.zHB:(l:List Ac) -> Ac.hL l <= Ac.zW l
 | []=>yV _
 | x :: r=>by
   have h1:=Ac.zPB x;have h2:=Ac.zHB r;simp only [Ac.hL,Ac.zW];omega
end
def zHd (fs:List WFr):Prop:=fs.length <= 1001 /\ ∀ (j:Nat) (f:WFr),fs[j]?=some f -> Ac.hL f.rest+j <= 1000 /\ Ac.hL f.all+j <= 1000
theorem zBY {fs:List WFr} {f:WFr} (h:zHd fs) (h1:fs.length <= 1000) (h2:Ac.hL f.rest+fs.length <= 1000) (h3:Ac.hL f.all+fs.length <= 1000):zHd (fs++[f]):=by
 refine ⟨by simp;omega,fun j g e=>?_⟩
 rcases xR j fs.length with hj | hj
 ·rw [xS hj] at e
  exact h.2 j g e
 ·rw [xH hj] at e
  have hz:j - fs.length=0:=by
   have:=(yP.1 e).1
   simpa using this
  rw [hz] at e;simp only [yD,yO] at e;subst e;exact ⟨by omega,by omega⟩
theorem zFF {fs:List WFr} (h:zHd fs):zHd fs.dropLast :=
 ⟨by rw [List.length_dropLast];have:=h.1;omega,fun j f e=>by
  have hj:=(yP.1 e).1;rw [List.length_dropLast] at hj;refine h.2 j f ?_
  rw [List.getElem?_dropLast,if_pos hj] at e;exact e⟩
theorem zFE {fs:List WFr} {f:WFr} (h:zHd fs) (hl:fs.getLast?=some f):fs.dropLast.length+1=fs.length /\ fs.dropLast.length <= 1000 /\ Ac.hL f.rest+fs.dropLast.length <= 1000 /\ Ac.hL f.all+fs.dropLast.length <= 1000:=by
 have hs:=zAr hl
 have hn:fs.length=fs.dropLast.length+1:=by
  have:=kJ List.length hs
  simpa using this
 have e:fs[fs.dropLast.length]?=some f:=by
  have:fs[fs.dropLast.length]?=(fs.dropLast++[f])[fs.dropLast.length]?:=kJ (fun l=>l[fs.dropLast.length]?) hs
  rw [this,xH (yV _)];simp
 have h2:=h.2 _ _ e;have h1:=h.1;exact ⟨hn.symm,by omega,h2.1,h2.2⟩
theorem zIj {r r':List Int} {fs fs':List WFr} (h:zBG r fs=some (r',fs')) (hf:zHd fs):zHd fs':=by
 unfold zBG at h;cases hl:fs.getLast? with
 | none=>rw [hl] at h;cases h
 | some f =>
   obtain ⟨l1,l2,l3,l4⟩:=zFE hf hl;have hi:=zFF hf;rw [hl] at h;simp only at h;cases hr:f.rest with
   | nil =>
     rw [hr] at h;simp only [yO,uN] at h;obtain ⟨_,rfl⟩:=h;split
     ·exact zBY hi l2 l4 l4
     ·exact hi
   | cons a tl =>
     rw [hr] at h l3;have hh:=Ac.h_eq a;simp only [Ac.hL] at l3;have hb:zHd (fs.dropLast++[(⟨tl,f.all,f.left⟩:WFr)]):=zBY hi l2 (by show Ac.hL tl+_ <= _;omega) l4;have hbl:(fs.dropLast++[(⟨tl,f.all,f.left⟩:WFr)]).length=fs.dropLast.length+1:=by rw [xU];rfl
     simp only at h;split at h
     ·simp only [yO,uN] at h
      obtain ⟨_,rfl⟩:=h;exact hb
     ·split at h
      ·simp only [yO,uN] at h
       obtain ⟨_,rfl⟩:=h;have hc:Ac.hL (if a.ex.val r ≠ 0 then a.thn else a.els)+1 <= a.h:=by split <;> omega
       exact zBY hb (by rw [hbl];omega) (J264 _) (J264 _)
      ·split at h
       ·simp only [yO,uN] at h
        obtain ⟨_,rfl⟩:=h;split
        ·exact zBY hb (by rw [hbl];omega) (by rw [hbl];show Ac.hL a.thn+_ <= _;omega) (by rw [hbl];show Ac.hL a.thn+_ <= _;omega)
        ·exact hb
       ·cases h
def WFr.ok (u:Un) (regs:Int) (f:WFr):Prop:=Ac.zAM u regs f.rest=true /\ Ac.zAM u regs f.all=true /\ f.left <= 1000
structure zDG (u:Un) (regs:Int) (fs:List WFr):Prop where
 each:∀ f,f ∈ fs -> f.ok u regs
 low:zHd fs
def WTh.ok (u:Un) (b:Bd) (t:WTh):Prop :=
 (t.st=1 \/ t.st=2 \/ t.st=3 \/ t.st=4) /\ (t.st ≠ 1 -> t.regs.length=b.regs.toNat /\ zDG u b.regs t.fs) /\ (t.st=2 -> zBG t.regs t.fs=none)
structure zm.ok (u:Un) (m:zm):Prop where
 cells:m.cells.length=u.cells.length
 owners:m.owners.length=u.mutexes.toNat
 zM:m.zM.length=u.threads.length
 own:∀ o,o ∈ m.owners -> -1 <= o
 each:∀ (i:Nat) (t:WTh) (b:Bd),m.zM[i]?=some t -> u.threads[i]?=some b -> t.ok u b
theorem zHS {u:Un} {n:Int} {r r':List Int} {fs fs':List WFr} (h:zBG r fs=some (r',fs')) (hf:∀ f,f ∈ fs -> f.ok u n):r'.length=r.length /\ ∀ f,f ∈ fs' -> f.ok u n:=by
 unfold zBG at h;cases hl:fs.getLast? with
 | none=>rw [hl] at h;cases h
 | some f =>
   have hs:=zAr hl;have hfo:f.ok u n:=hf f (by rw [hs];simp);have hd:∀ g,g ∈ fs.dropLast -> g.ok u n:=fun g hg=>hf g (List.dropLast_subset _ hg)
   rw [hl] at h;simp only at h;cases hr:f.rest with
   | nil =>
     rw [hr] at h;simp only [yO,uN] at h;obtain ⟨rfl,rfl⟩:=h;refine ⟨rfl,fun g hg=>?_⟩
     split at hg
     ·rcases kR.1 hg with hg | hg
      ·exact hd g hg
      ·obtain rfl:g=⟨f.all,f.all,f.left - 1⟩:=by simpa using hg
       exact ⟨hfo.2.1,hfo.2.1,by have:=hfo.2.2;show f.left - 1 <= 1000;omega⟩
     ·exact hd g hg
   | cons a tl =>
     rw [hr] at h;have h0:=hfo.1;rw [hr] at h0;obtain ⟨ha,hm⟩:=Ac.zCW h0;obtain ⟨_,hat,hae⟩:=Ac.zDI ha
     have hb:∀ g,g ∈ fs.dropLast++[(⟨tl,f.all,f.left⟩:WFr)] -> g.ok u n:=fun g hg=>by
      rcases kR.1 hg with hg | hg
      ·exact hd g hg
      ·obtain rfl:g=⟨tl,f.all,f.left⟩:=by simpa using hg
       exact ⟨hm,hfo.2⟩
     simp only at h;split at h
     ·simp only [yO,uN] at h
      obtain ⟨rfl,rfl⟩:=h;exact ⟨by simp,hb⟩
     ·split at h
      ·simp only [yO,uN] at h
       obtain ⟨rfl,rfl⟩:=h;refine ⟨rfl,fun g hg=>?_⟩
       rcases kR.1 hg with hg | hg
       ·exact hb g hg
       ·have hg2:g=⟨if a.ex.val r ≠ 0 then a.thn else a.els,if a.ex.val r ≠ 0 then a.thn else a.els,1⟩:=by simpa using hg
        rw [hg2];by_cases q:a.ex.val r ≠ 0
        ·rw [if_pos q];exact ⟨hat,hat,by show 1 <= 1000;omega⟩
        ·rw [if_neg q];exact ⟨hae,hae,by show 1 <= 1000;omega⟩
      ·split at h
       ·simp only [yO,uN] at h
        obtain ⟨rfl,rfl⟩:=h;refine ⟨rfl,fun g hg=>?_⟩
        split at hg
        ·rcases kR.1 hg with hg | hg
         ·exact hb g hg
         ·obtain rfl:g=⟨a.thn,a.thn,a.count.toNat⟩:=by simpa using hg
          exact ⟨hat,hat,by have:=(Ac.zJ8 ha (by assumption)).2;show a.count.toNat <= 1000;omega⟩
        ·exact hb g hg
       ·cases h
theorem zLk {u:Un} {n:Int} {r:List Int} {fs:List WFr} (hf:zDG u n fs):((loc r fs).1.length=r.length /\ zDG u n (loc r fs).2) /\ zBG (loc r fs).1 (loc r fs).2=none :=
 zMq (P:=fun r' fs'=>r'.length=r.length /\ zDG u n fs') (fun r1 fs1 r2 fs2 hp h=>⟨(zHS h hp.2.each).1.trans hp.1,(zHS h hp.2.each).2,zIj h hp.2.low⟩) ⟨rfl,hf⟩
theorem zDv {u:Un} {n:Int} {t:WTh} (hl:zBG t.regs t.fs=none) (hf:zDG u n t.fs):(t.next=none /\ t.fs=[]) \/ ∃ a f r,t.next=some a /\ t.fs.getLast?=some f /\ f.rest=a :: r /\ Ac.may u n a=true /\ 2 <= a.kind /\ a.kind <= 9:=by
 unfold zBG at hl;unfold WTh.next;cases h:t.fs.getLast? with
 | none=>exact .inl ⟨rfl,by simpa using h⟩
 | some f =>
   rw [h] at hl;simp only at hl;have hfo:f.ok u n:=hf.each f (by rw [zAr h];simp);cases hr:f.rest with
   | nil=>rw [hr] at hl;cases hl
   | cons a r =>
     rw [hr] at hl;have h0:=hfo.1;rw [hr] at h0;obtain ⟨ha,_⟩:=Ac.zCW h0;obtain ⟨k1,k2⟩:=Ac.zEc ha;refine .inr ⟨a,f,r,by simp [hr],rfl,hr,ha,?_,?_⟩
     ·simp only at hl
      by_cases q:a.kind=1
      ·rw [if_pos q] at hl;cases hl
      ·omega
     ·simp only at hl
      split at hl
      ·cases hl
      ·split at hl
       ·cases hl
       ·split at hl
        ·cases hl
        ·omega
theorem zAq {u:Un} (h:zX u=true):1 <= u.threads.length /\ u.threads.length <= 8 /\ u.cells.length <= 8 /\ 0 <= u.mutexes /\ u.mutexes <= 8 /\ ∀ b,b ∈ u.threads -> 0 <= b.regs /\ b.regs <= 8 /\ Ac.zAM u b.regs b.acts=true /\ Ac.hL b.acts <= 500:=by
 unfold zX at h;simp only [yT,yU] at h;obtain ⟨⟨⟨⟨⟨⟨⟨⟨h1,h2⟩,h3⟩,h4⟩,h5⟩,h6⟩,h7⟩,h8⟩,h9⟩:=h;refine ⟨h1,h2,h3,h4,h5,fun b hb=>?_⟩
 have:=xI.1 h7 b hb
 simp only [yT,yU] at this;refine ⟨this.1.1,this.1.2,this.2,?_⟩
 have hc:∀ l:List Bd,b ∈ l -> Ac.zW b.acts <= (l.map fun b=>Ac.zW b.acts).foldr (·+·) 0:=fun l=>by
  exact J82 _
 have h1:=hc u.threads hb;have h2:=Ac.zHB b.acts;omega
theorem zNE {u:Un} {b:Bd} (h:Ac.zAM u b.regs b.acts=true) (hh:Ac.hL b.acts <= 500):(zHU b).ok u b /\ (zHU b).st=2:=by
 have h1:=zLk (u:=u) (n:=b.regs) (r:=List.replicate b.regs.toNat 0) (fs:=[⟨b.acts,b.acts,1⟩]) ⟨fun f hf=>by
  obtain rfl:f=⟨b.acts,b.acts,1⟩:=by simpa using hf
  exact ⟨h,h,by show 1 <= 1000;omega⟩,zBY (fs:=[]) ⟨yJ _,fun j f e=>by cases e⟩ (yJ _) (by show Ac.hL b.acts+0 <= _;omega) (by show Ac.hL b.acts+0 <= _;omega)⟩
 refine ⟨⟨.inr (.inl rfl),fun _=>⟨h1.1.1.trans (by simp),h1.1.2⟩,fun _=>h1.2⟩,rfl⟩
theorem zm.get_some {m:zm} {i:Nat} (h:i < m.zM.length):m.zM[i]?=some (m.get i):=by
 rw [yQ h];simp [zm.get,List.getD,h]
theorem zm.zBC (m:zm) (i:Nat) (t:WTh):(m.zAT i t).zM.length=m.zM.length:=by simp [zm.zAT]
theorem zm.zDm (m:zm) (i:Nat) (t:WTh) (hi:i < m.zM.length):(m.zAT i t).get i=t:=by simp [zm.zAT,zm.get,List.getD,hi]
theorem zm.zEg (m:zm) {i j:Nat} (t:WTh) (h:i ≠ j):(m.zAT i t).get j=m.get j:=by
 show (m.zM.set i t).getD j WTh.zero=_
 unfold zm.get;rw [List.getD,List.getD,uQ h]
theorem zm.ok.zAT {u:Un} {m:zm} (h:m.ok u) {i:Nat} {t:WTh} (ht:∀ b,u.threads[i]?=some b -> t.ok u b):(m.zAT i t).ok u:=by
 refine ⟨h.cells,h.owners,by rw [zm.zBC];exact h.zM,h.own,fun j t' b e1 e2=>?_⟩
 have e1':(m.zM.set i t)[j]?=some t':=e1;rw [List.getElem?_set] at e1';split at e1'
 ·rename_i he
  subst he;split at e1'
  ·cases e1';exact ht b e2
  ·cases e1'
 ·exact h.each j t' b e1' e2
theorem zm.ok.th {u:Un} {m:zm} (h:m.ok u) {i:Nat} (hi:i < m.zM.length):∃ b,u.threads[i]?=some b /\ (m.get i).ok u b /\ u.body i=b:=by
 have hi2:i < u.threads.length:=by rw [<- h.zM];exact hi
 refine ⟨u.threads[i],yQ hi2,h.each i _ _ (zm.get_some hi) (yQ hi2),?_⟩
 unfold Un.body;simp [List.getD,hi2]
theorem zJc {u:Un} (hr:zX u=true) {m:zm} (h:m.ok u) (i:Nat):(zEP u m i).ok u:=by
 refine h.zAT (fun b hb=>?_)
 have hm:=(zAq hr).2.2.2.2.2 b (vD hb);have e:u.body i=b:=by unfold Un.body;simp [List.getD,hb]
 rw [e];exact (zNE hm.2.2.1 hm.2.2.2).1
theorem zJj {u:Un} (hr:zX u=true):(zCY u).ok u:=by
 refine zJc hr ⟨rfl,by simp,by simp,fun o ho=>?_,fun i t b e1 e2=>?_⟩ 0
 ·obtain ⟨_,rfl⟩:=kM.1 ho
  exact Int.le_refl _
 ·exact J110 _
theorem zIP {u:Un} {b:Bd} {t:WTh} (h:t.ok u b) (h2:t.st=2):t.on.local.ok u b /\ t.on.local.st=2:=by
 obtain ⟨hl,hf⟩:=h.2.1 (by rw [h2];decide)
 have hfo:zDG u b.regs t.on.fs:=by
  unfold WTh.on;cases e:t.fs.getLast? with
  | none=>exact hf
  | some f =>
    obtain ⟨l1,l2,l3,l4⟩:=zFE hf.low e
    refine ⟨fun g hg=>?_,zBY (zFF hf.low) l2 (by
     show Ac.hL f.rest.tail+_ <= _
     cases hr:f.rest with
     | nil=>simp only [List.tail_nil,Ac.hL];omega
     | cons a tl=>rw [hr] at l3;simp only [Ac.hL] at l3;simp only [List.tail_cons];omega) l4⟩
    have hs:=zAr e;have hfl:f.ok u b.regs:=hf.each f (by rw [hs];simp);rcases kR.1 hg with hg | hg
    ·exact hf.each g (List.dropLast_subset _ hg)
    ·exact J77 _
 have hst:t.on.st=t.st:=by unfold WTh.on;split <;> rfl
 have hre:t.on.regs=t.regs:=by unfold WTh.on;split <;> rfl
 have h1:=zLk (u:=u) (n:=b.regs) (r:=t.on.regs) (fs:=t.on.fs) hfo;refine ⟨⟨.inr (.inl (by show t.on.st=2;rw [hst];exact h2)),fun _=>⟨?_,h1.1.2⟩,fun _=>h1.2⟩,by show t.on.st=2;rw [hst];exact h2⟩
 show (loc t.on.regs t.on.fs).1.length=_
 rw [h1.1.1,hre];exact hl
theorem WTh.ok.regs {u:Un} {b:Bd} {t:WTh} (h:t.ok u b) (k:Nat) (v:Int) (hs:t.st=2 -> zBG (t.regs.set k v) t.fs=none):WTh.ok u b { t with regs:=t.regs.set k v } :=
 ⟨h.1,fun h1=>⟨by rw [uU];exact (h.2.1 h1).1,(h.2.1 h1).2⟩,hs⟩
theorem zKg {r r':List Int} {fs:List WFr} (h:zBG r fs=none):zBG r' fs=none:=by
 unfold zBG at h ⊢;cases hl:fs.getLast? with
 | none=>rfl
 | some f =>
   rw [hl] at h;simp only at h ⊢;cases hr:f.rest with
   | nil=>rw [hr] at h;cases h
   | cons a t =>
     rw [hr] at h;simp only at h ⊢;split at h
     ·cases h
     ·rename_i q1
      rw [if_neg q1];split at h
      ·cases h
      ·rename_i q2
       rw [if_neg q2];split at h
       ·cases h
       ·rename_i q3
        rw [if_neg q3]
theorem zG6 {u:Un} (hr:zX u=true) {m:zm} (h:m.ok u) {i:Nat} (hi:i < m.zM.length) (a:Ac):(doM u m i a).1.ok u /\ (doM u m i a).1.zM.length=m.zM.length:=by
 have hset:∀ k v,(m.zAT i { m.get i with regs:=(m.get i).regs.set k v }).ok u:=fun k v=>h.zAT (fun b hb=>by
  obtain ⟨b',e,hok,_⟩:=h.th hi;rw [hb] at e;cases e;exact hok.regs k v (fun h2=>zKg (hok.2.2 h2)))
 have hcell:∀ k v,zm.ok u { m with cells:=m.cells.set k v }:=fun k v=>⟨by simp [h.cells],h.owners,h.zM,h.own,h.each⟩
 have hown:∀ k (v:Int),-1 <= v -> zm.ok u { m with owners:=m.owners.set k v }:=fun k v hv=>⟨h.cells,by simp [h.owners],h.zM,fun o ho=>by
  rcases List.mem_or_eq_of_mem_set ho with ho | ho
  ·exact h.own o ho
  ·subst ho;exact hv,h.each⟩
 unfold doM;simp only
 split
 ·exact ⟨hset _ _,by rw [zm.zBC]⟩
 ·split
  ·exact ⟨hcell _ _,rfl⟩
  ·split
   ·refine ⟨?_,by rw [zm.zBC]⟩
    have:=hset a.reg.toNat (m.cells.getD a.obj.toNat 0)
    exact ⟨by simp [zm.zAT,h.cells],this.owners,this.zM,this.own,this.each⟩
   ·split
    ·exact ⟨hown _ _ (by omega),rfl⟩
    ·split
     ·split
      ·exact ⟨hown _ _ (by omega),rfl⟩
      ·exact ⟨h,rfl⟩
     ·split
      ·split
       ·exact ⟨zJc hr h _,by unfold zEP;rw [zm.zBC]⟩
       ·exact ⟨h,rfl⟩
      ·split
       ·split <;> exact ⟨h,rfl⟩
       ·exact ⟨h,rfl⟩
theorem zEy {u:Un} {m:zm} {i:Nat} (hi:i < m.zM.length) (h2:(m.get i).st=2) (a:Ac):((doM u m i a).1.get i).st=2 /\ ((doM u m i a).1.get i).fs=(m.get i).fs:=by
 have hs:∀ (c:List Int) (o:List Int) (t:WTh),(zm.zAT ⟨c,o,m.zM⟩ i t).get i=t:=fun c o t=>zm.zDm _ _ _ hi
 unfold doM;simp only
 split
 ·rw [hs];exact ⟨h2,rfl⟩
 ·split
  ·exact ⟨h2,rfl⟩
  ·split
   ·rw [hs];exact ⟨h2,rfl⟩
   ·split
    ·exact ⟨h2,rfl⟩
    ·split
     ·split <;> exact ⟨h2,rfl⟩
     ·split
      ·split
       ·rename_i q
        have hne:a.obj.toNat ≠ i:=fun e=>by rw [e,h2] at q;cases q
        unfold zEP;rw [zm.zEg _ _ hne];exact ⟨h2,rfl⟩
       ·exact ⟨h2,rfl⟩
      ·split
       ·split <;> exact ⟨h2,rfl⟩
       ·exact ⟨h2,rfl⟩
theorem zH7 {u:Un} (hr:zX u=true) {m:zm} (h:m.ok u) {i:Nat} (hi:i < m.zM.length) (h2:(m.get i).st=2):(zAs u m i).1.ok u /\ (zAs u m i).1.zM.length=m.zM.length:=by
 unfold zAs;cases hn:(m.get i).next with
 | none =>
   refine ⟨h.zAT (fun b hb=>?_),by rw [zm.zBC]⟩
   obtain ⟨b',e,hok,_⟩:=h.th hi;rw [hb] at e;cases e;exact ⟨.inr (.inr (.inl rfl)),fun _=>hok.2.1 (by rw [h2];decide),fun q=>by cases q⟩
 | some a =>
   obtain ⟨g1,g2⟩:=zG6 hr h hi a;obtain ⟨s1,s2⟩:=zEy (u:=u) hi h2 a;have hi':i < (doM u m i a).1.zM.length:=by rw [g2];exact hi
   simp only
   split
   ·refine ⟨g1.zAT (fun b hb=>?_),by rw [zm.zBC,g2]⟩
    obtain ⟨b',e,hok,_⟩:=g1.th hi';rw [hb] at e;cases e;exact ⟨.inr (.inr (.inr rfl)),fun _=>hok.2.1 (by rw [s1];decide),fun q=>by cases q⟩
   ·refine ⟨g1.zAT (fun b hb=>?_),by rw [zm.zBC,g2]⟩
    obtain ⟨b',e,hok,_⟩:=g1.th hi';rw [hb] at e;cases e;exact (zIP hok s1).1
theorem zE1 {m:zm} {i:Int} (h:zBh m i=0):0 <= i /\ i < m.zM.length /\ (m.get i.toNat).st ≠ 1 /\ (m.get i.toNat).st ≠ 3 /\ (m.get i.toNat).st ≠ 4 /\ zAa m i.toNat=true:=by
 unfold zBh at h;split at h
 ·cases h
 ·rename_i q
  simp only at h;split at h
  ·cases h
  ·split at h
   ·cases h
   ·split at h
    ·cases h
    ·split at h
     ·rename_i q1 q2 q3 q4
      exact ⟨by omega,by omega,q1,q2,q3,q4⟩
     ·cases h
theorem zLq {u:Un} (hr:zX u=true) {m:zm} (h:m.ok u) (i:Int):(stepM u m i).1.ok u /\ (stepM u m i).1.zM.length=m.zM.length:=by
 unfold stepM;split
 ·rename_i q
  obtain ⟨h1,h2,h3,h4,h5,_⟩:=zE1 q;have hi:i.toNat < m.zM.length:=by omega
  obtain ⟨b,_,hok,_⟩:=h.th hi;have hst:(m.get i.toNat).st=2:=J244 _;exact zH7 hr h hi hst
 ·exact ⟨h,rfl⟩
end Go.Proofs.YtfokdllgnblamaaGreatDoor
namespace Go.Proofs.YtfokdllgnblamaaGreatDoor
open Go.RowKit
theorem zMB (x y:Nat) (w:World) (F:Nat -> Prop) (xa ya:Option Addr) (xc yc:Nat) (hx:zAW w F 1000000000 x xa) (hy:zAW w F 1000000000 y ya) (lx:(dig 1000000000 x).length <= 100000000000) (ly:(dig 1000000000 y).length <= 100000000000) :
 Calls Tryz.prog 117 #[.slice xa (dig 1000000000 x).length xc, .slice ya (dig 1000000000 y).length yc] w (zBb 1000000000 (x+y) w):=by
 obtain ⟨j0,hj0,hz0,hz1,hz2⟩:=info_parts zA3;have HX:=yB hx;have HY:=yB hy;obtain ⟨N,hN⟩:=eX ((dig 1000000000 (x+y)).length);have HN:=yB hN;obtain ⟨p,hp⟩:=eX ((dig 1000000000 x).length);obtain ⟨q,hq⟩:=eX ((dig 1000000000 y).length);have HPQ:Hid (p=(dig 1000000000 x).length /\ q=(dig 1000000000 y).length):=⟨hp,hq⟩;obtain ⟨L,hL⟩:=eX (max p q);have hmx:max (p:Int) (q:Int)=(L:Int):=by omega
 have hrun:∀ i,(i < L \/ 0 < (x % 1000000000 ^ i+y % 1000000000 ^ i) / 1000000000 ^ i) ↔ i < N:=fun i=>by rw [hL,hp,hq,hN];exact zIL (by decide) x y i
 have HRUN:=yB hrun
 have hNL:N <= L+1:=by
  rcases xR (L+1) N with h | h
  ·have h1:=(hrun (L+1)).2 h
   have hx2:x < 1000000000 ^ L:=uO fun e=>by have:=(zl (by decide) L x).2 e;omega
   have hy2:y < 1000000000 ^ L:=uO fun e=>by have:=(zl (by decide) L y).2 e;omega
   have h2:1000000000 ^ (L+1) <= x+y:=(zl (by decide) (L+1) (x+y)).1 (by omega);rw [uV] at h2;omega
  ·exact h
 unfold zBb;rw [<- hN];rw [<- hp] at lx ⊢;rw [<- hq] at ly ⊢;have hN9:N <= 100000000001:=by omega
 have hL9:L <= 100000000000:=by omega
 clear hN hx hy hp hq hrun hL hNL;go_enter Tryz.func117,Tryz.ntmps117
 go_wp2_with fail
 go_loopw [5,6,7] (fun ov cv iv wr=>∃ (i c:Nat) (da:Option Addr) (dc:Nat),i <= N /\ iv=.int .i64 i /\ cv=.int .i64 c /\ ov=.slice da i dc /\ Hid (c=(x % 1000000000 ^ i+y % 1000000000 ^ i) / 1000000000 ^ i) /\ c < 2 /\ Hid (wr.ownsRow 0 3 1 (.slice da i dc) i (zCF 1000000000 (x+y) i)) /\ Hid (Keeps zA w wr) /\ Hid (∀ kb,(Value.slice da i dc).ownBlock=some kb -> w.heap.size <= kb)) (fun _ _ iv _=>N - (intOf iv).toNat)
 case atStart=>exact ⟨0,0,none,0,yJ _,rfl,rfl,rfl,by show _=_;simp [Nat.mod_one],by decide,xJ _ _ _ _,yC _ _,fun kb e=>by exact J190 _⟩
 case round =>
  obtain ⟨i,c,da,dc,hi,rfl,rfl,rfl,HC,hc2,HO,HK,HB⟩:=hrel;have hrun:=HRUN.out i;rw [<- HC.out] at hrun;by_cases hlt:i < N
  ·have HDG:Hid (∀ W s z,(s=.slice xa p xc /\ z=x / 1000000000 ^ i % 1000000000 \/ s=.slice ya q yc /\ z=y / 1000000000 ^ i % 1000000000) -> W=wr -> Calls Tryz.prog 98 #[s, .int .i64 i] W fun e w'=>e=.returned (.int .i64 (z:Nat)) /\ W=w'):=fun W s z h hW=>by
    subst hW;rcases h with ⟨rfl,rfl⟩ | ⟨rfl,rfl⟩
    ·rw [HPQ.out.1];exact zDE 1000000000 (by decide) x i _ F xa xc (HX.out.keeps HK.out (fun _ _ h=>h))
    ·rw [HPQ.out.2];exact zDE 1000000000 (by decide) y i _ F ya yc (HY.out.keeps HK.out (fun _ _ h=>h))
   have hs:=zGw (b:=1000000000) (by decide) x y i;have hcn:=zGK (b:=1000000000) (by decide) x y (i+1);have hd1:=zC8 (b:=1000000000) (by decide) x i;have hd2:=zC8 (b:=1000000000) (by decide) y i;rw [<- HC.out] at hs;rw [<- hs.2] at hcn;have HD:Hid ((x / 1000000000 ^ i % 1000000000+y / 1000000000 ^ i % 1000000000+c) % 1000000000=(x+y) / 1000000000 ^ i % 1000000000 /\ (x / 1000000000 ^ i % 1000000000+y / 1000000000 ^ i % 1000000000+c) / 1000000000=(x % 1000000000 ^ (i+1)+y % 1000000000 ^ (i+1)) / 1000000000 ^ (i+1)):=hs;have HC2:Hid ((x / 1000000000 ^ i % 1000000000+y / 1000000000 ^ i % 1000000000+c) / 1000000000 < 2):=hcn;clear hs hcn;generalize x / 1000000000 ^ i % 1000000000=d1 at HDG HD hd1 HC2;generalize y / 1000000000 ^ i % 1000000000=d2 at HDG HD hd2 HC2;have hor:=hrun.2 hlt;clear hrun;have i0:(0:Int) <= i:=by omega
   rcases (show (i < L) \/ (¬ i < L /\ 0 < c) by omega) with h | ⟨h,h2⟩
   ·have i1:(i:Int) < L:=by omega
    exact J20 _
   ·have i1:¬ (i:Int) < L:=by omega
    have i2:(0:Int) < c:=by omega
    exact J20 _
  ·have h1:¬ i < L:=fun h=>hlt (hrun.1 (.inl h))
   have h2:¬ 0 < c:=fun h=>hlt (hrun.1 (.inr h))
   have i1:¬ (i:Int) < L:=by omega
   exact J18 _
theorem zKC (x k:Nat) (w:World) (F:Nat -> Prop) (xa:Option Addr) (xc:Nat) (hx:zAW w F 1000000000 x xa) (lx:(dig 1000000000 x).length <= 100000000000) (hk:k <= 1000) :
 Calls Tryz.prog 118 #[.slice xa (dig 1000000000 x).length xc, .int .i64 k] w (zBb 1000000000 (x*k) w):=by
 obtain ⟨j0,hj0,hz0,hz1,hz2⟩:=info_parts zA3;by_cases hk0:k=0
 ·subst hk0
  unfold zBb;rw [Nat.mul_zero,zCJ];generalize (dig 1000000000 x).length=p;clear hx lx;go_enter Tryz.func118,Tryz.ntmps118
  go_wp2_with fail
  go_ret
  exact ⟨none,0,rfl,zAW.zero _ _ _ _,yC _ _⟩
 have HX:=yB hx;have k0:0 < k:=by omega
 have k0':¬ (k:Int)=0:=by omega
 have k0b:((k:Int)==0)=false:=by simpa using k0'
 obtain ⟨N,hN⟩:=eX ((dig 1000000000 (x*k)).length);have HN:=yB hN;obtain ⟨p,hp⟩:=eX ((dig 1000000000 x).length);have HPQ:Hid (p=(dig 1000000000 x).length):=hp;have hrun:∀ i,(i < p \/ 0 < x % 1000000000 ^ i*k / 1000000000 ^ i) ↔ i < N:=fun i=>by rw [hp,hN];exact zGr (by decide) x k i k0
 have HRUN:=yB hrun
 have hNL:N <= p+1:=by
  rcases xR (p+1) N with h | h
  ·have hx2:x < 1000000000 ^ p:=uO fun e=>by exact J259 _
   have h2:1000000000 ^ (p+1) <= x*k:=(zl (by decide) (p+1) (x*k)).1 (by omega);rw [uV] at h2;have h3:x*k <= x*1000:=Nat.mul_le_mul_left x hk;omega
  ·exact h
 unfold zBb;rw [<- hN];rw [<- hp] at lx ⊢;have hN9:N <= 100000000001:=by omega
 clear hN hx hp hrun hNL hk0;go_enter Tryz.func118,Tryz.ntmps118
 go_wp2_with fail
 go_loopw [5,6,7] (fun ov cv iv wr=>∃ (i c:Nat) (da:Option Addr) (dc:Nat),i <= N /\ iv=.int .i64 i /\ cv=.int .i64 c /\ ov=.slice da i dc /\ Hid (c=x % 1000000000 ^ i*k / 1000000000 ^ i) /\ c < 1000 /\ Hid (wr.ownsRow 0 3 1 (.slice da i dc) i (zCF 1000000000 (x*k) i)) /\ Hid (Keeps zA w wr) /\ Hid (∀ kb,(Value.slice da i dc).ownBlock=some kb -> w.heap.size <= kb)) (fun _ _ iv _=>N - (intOf iv).toNat)
 case atStart=>exact ⟨0,0,none,0,yJ _,rfl,rfl,rfl,by show _=_;simp [Nat.mod_one],by decide,xJ _ _ _ _,yC _ _,fun kb e=>by exact J190 _⟩
 case round =>
  obtain ⟨i,c,da,dc,hi,rfl,rfl,rfl,HC,hc2,HO,HK,HB⟩:=hrel;have hrun:=HRUN.out i;rw [<- HC.out] at hrun;by_cases hlt:i < N
  ·have HDG:Hid (Calls Tryz.prog 98 #[.slice xa p xc, .int .i64 i] wr fun e w'=>e=.returned (.int .i64 ((x / 1000000000 ^ i % 1000000000:Nat):Int)) /\ wr=w'):=by
    rw [HPQ.out];exact zDE 1000000000 (by decide) x i _ F xa xc (HX.out.keeps HK.out (fun _ _ h=>h))
   have hs:=zGo (b:=1000000000) (by decide) x k i;have hcn:=zFc (b:=1000000000) (by decide) x k (i+1) k0;have hd1:=zC8 (b:=1000000000) (by decide) x i;rw [<- HC.out] at hs;rw [<- hs.2] at hcn;obtain ⟨m,hm⟩:=eX (x / 1000000000 ^ i % 1000000000*k);have hm2:m <= 1000000000*1000:=by rw [hm];exact Nat.mul_le_mul (by omega) hk
   have HD:Hid ((m+c) % 1000000000=x*k / 1000000000 ^ i % 1000000000 /\ (m+c) / 1000000000=x % 1000000000 ^ (i+1)*k / 1000000000 ^ (i+1)):=by rw [hm];exact hs
   have HC2:Hid ((m+c) / 1000000000 < 1000):=by rw [hm];show _ < _;omega
   clear hs hcn;generalize x / 1000000000 ^ i % 1000000000=d1 at HDG hd1 hm;have hmi:((d1:Int)*(k:Int))=(m:Int):=by rw [hm,Int.natCast_mul]
   have hor:=hrun.2 hlt;clear hrun hm;have i0:(0:Int) <= i:=by omega
   rcases (show (i < p) \/ (¬ i < p /\ 0 < c) by omega) with h | ⟨h,h2⟩
   ·have i1:(i:Int) < p:=by omega
    exact J21 _
   ·have i1:¬ (i:Int) < p:=by omega
    have i2:(0:Int) < c:=by omega
    exact J21 _
  ·exact J175 _
end Go.Proofs.YtfokdllgnblamaaGreatDoor
