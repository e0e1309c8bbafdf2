/- Layer D: texts joined. -/
import Derived.Test.YtoapgjjepiopbaaGreatDoorD24
set_option linter.all false
namespace Go.Proofs.YtoapgjjepiopbaaGreatDoor
abbrev yj:=@List.mem_append
theorem J54(P:Prop)(h:P:=by exact⟨by omega,by omega⟩):P:=h
theorem J73(P:Prop) (h:P:=by
 obtain rfl:g=⟨f.rest.tail,f.all,f.left⟩:=by simpa using hg
 refine⟨?_,hfl.2⟩
 have:=hfl.1
 cases hr:f.rest with
 | nil=>simp[Ac.zAC]
 | cons a r =>
   rw[hr] at this;exact(Ac.zDD this).2):P:=h
theorem J77(P:Prop) (h:P:=by
 induction l with
 | nil=>intro hb;cases hb
 | cons x r ih =>
   intro hb
   simp only[uO,List.foldr_cons];rcases xU.1 hb with e|e
   ·subst e;omega
   ·have:=ih e;omega):P:=h
theorem J101(P:Prop) (h:P:=by
 rw[List.getElem?_map] at e1;obtain⟨b',_,rfl⟩:=Option.map_eq_some_iff.1 e1;exact⟨.inl rfl,λh=>absurd rfl h,λh=>by cases h⟩):P:=h
theorem J223(P:Prop)(h:P:=by rcases hok.1 with e|e|e|e <;> first|exact e|exact absurd e h3|exact absurd e h4|exact absurd e h5):P:=h
theorem J245(P:Prop)(h:P:=by rw[hbl];show Ac.hL (if a.ex.val r≠0 then a.thn else a.els)+_<=_;omega):P:=h
theorem Ac.zDA{u:Un}{regs:Int}{a:Ac}(h:Ac.may u regs a=true):zBH u regs a.kind a.reg a.obj a.ex a.count a.thn.length a.els.length=true/\Ac.zAC u regs a.thn=true/\Ac.zAC u regs a.els=true:=by
 cases a;simp only[Ac.may,yS] at h;exact⟨h.1.1,h.1.2,h.2⟩
theorem Ac.zBU{u:Un}{regs:Int}{a:Ac}(h:Ac.may u regs a=true):1<=a.kind/\a.kind<=11:=by
 have h1:=(Ac.zDA h).1;unfold zBH at h1;simp only[yS,yV] at h1;exact⟨h1.1.1.1.1.1.1.1,h1.1.1.1.1.1.1.2⟩
theorem Ac.zHt{u:Un}{regs:Int}{a:Ac}(h:Ac.may u regs a=true)(hk:a.kind=1\/a.kind=2\/a.kind=4):0<=a.reg/\a.reg<regs:=by
 have h1:=(Ac.zDA h).1;unfold zBH at h1;have hf:(fields a.kind).reg=true:=by rcases hk with e|e|e <;> rw[e] <;> rfl
 rw[if_pos hf] at h1;simp only[yS,yV] at h1;exact⟨h1.1.1.1.1.1.2.1,h1.1.1.1.1.1.2.2⟩
theorem Ac.zF4{u:Un}{regs:Int}{a:Ac}(h:Ac.may u regs a=true)(hk:2<=a.kind/\a.kind<=8):0<=a.obj/\a.obj<zBJ u a.kind:=by
 have h1:=(Ac.zDA h).1;unfold zBH at h1
 have hf:(fields a.kind).name=true:=by
  rcases (show a.kind=2\/a.kind=3\/a.kind=4\/a.kind=5\/a.kind=6\/a.kind=7\/a.kind=8 by omega) with e|e|e|e|e|e|e <;> rw[e] <;> rfl
 rw[if_pos hf] at h1;simp only[yS,yV] at h1;exact⟨h1.1.1.1.1.2.1,h1.1.1.1.1.2.2⟩
theorem Ac.zGa{u:Un}{regs:Int}{a:Ac}(h:Ac.may u regs a=true)(hk:a.kind=1\/a.kind=3\/a.kind=4\/a.kind=9\/a.kind=10):a.ex.may regs=true:=by
 have h1:=(Ac.zDA h).1;unfold zBH at h1;have hf:(fields a.kind).ex=true:=by rcases hk with e|e|e|e|e <;> rw[e] <;> rfl
 rw[if_pos hf] at h1;simp only[yS,yV] at h1;exact h1.1.1.1.2
theorem Ac.zLz{u:Un}{regs:Int}{a:Ac}(h:Ac.may u regs a=true)(hk:a.kind=11):0<=a.count/\a.count<=1000:=by
 have h1:=(Ac.zDA h).1;unfold zBH at h1;have hf:(fields a.kind).count=true:=by rw[hk];rfl
 rw[if_pos hf] at h1;simp only[yS,yV] at h1;exact⟨h1.1.1.2.1,h1.1.1.2.2⟩
theorem Ac.zE3{u:Un}{regs:Int}{l:List Ac}(h:Ac.zAC u regs l=true){a:Ac}(ha:a∈l):Ac.may u regs a=true:=by
 induction l with
 | nil=>cases ha
 | cons x r ih =>
   simp only[Ac.zAC,yS] at h;rcases xU.1 ha with e|e
   ·subst e;exact h.1
   ·exact ih h.2 e
theorem Ac.zDD{u:Un}{regs:Int}{x:Ac}{r:List Ac}(h:Ac.zAC u regs (x :: r)=true):Ac.may u regs x=true/\Ac.zAC u regs r=true:=by
 simpa only[Ac.zAC,yS] using h
mutual
def Ac.h:Ac->Nat
 | .mk _ _ _ _ _ t e=>1+max (Ac.hL t) (Ac.hL e)
def Ac.hL:List Ac->Nat
 | []=>0
 | x :: r=>max (Ac.h x) (Ac.hL r)
end
theorem Ac.h_eq(x:Ac):x.h=1+max (Ac.hL x.thn) (Ac.hL x.els):=by cases x;rw[Ac.h];rfl
mutual
theorem Ac.zRT:(x:Ac)->x.h<=x.cnt
 | .mk _ _ _ ex _ t e=>by
   have h1:=Ac.zH7 t;have h2:=Ac.zH7 e;simp only[Ac.h,Ac.cnt];omega
theorem Ac.zH7:(l:List Ac)->Ac.hL l<=Ac.zT l
 | []=>yT _
 | x :: r=>by
   have h1:=Ac.zRT x;have h2:=Ac.zH7 r;simp only[Ac.hL,Ac.zT];omega
end
def zH0(fs:List WFr):Prop:=fs.length<=1001/\∀(j:Nat)(f:WFr),fs[j]?=some f->Ac.hL f.rest+j<=1000/\Ac.hL f.all+j<=1000
theorem zBw{fs:List WFr}{f:WFr}(h:zH0 fs)(h1:fs.length<=1000)(h2:Ac.hL f.rest+fs.length<=1000)(h3:Ac.hL f.all+fs.length<=1000):zH0 (fs++[f]):=by
 refine⟨by simp;omega,λj g e=>?_⟩
 rcases xR j fs.length with hj|hj
 ·rw[xL hj] at e
  exact h.2 j g e
 ·rw[xI hj] at e
  have hz:j-fs.length=0:=by
   have:=(yP.1 e).1
   simpa using this
  rw[hz] at e;simp only[yC,yN] at e;subst e;exact J54 _
theorem zFH{fs:List WFr}(h:zH0 fs):zH0 fs.dropLast:=
 ⟨by rw[List.length_dropLast];have:=h.1;omega,λj f e=>by
  have hj:=(yP.1 e).1;rw[List.length_dropLast] at hj;refine h.2 j f ?_
  rw[List.getElem?_dropLast,if_pos hj] at e;exact e⟩
theorem zFE{fs:List WFr}{f:WFr}(h:zH0 fs)(hl:fs.getLast?=some f):fs.dropLast.length+1=fs.length/\fs.dropLast.length<=1000/\Ac.hL f.rest+fs.dropLast.length<=1000/\Ac.hL f.all+fs.dropLast.length<=1000:=by
 have hs:=zAg hl
 have hn:fs.length=fs.dropLast.length+1:=by
  have:=congrArg List.length hs
  simpa using this
 have e:fs[fs.dropLast.length]?=some f:=by
  have:fs[fs.dropLast.length]?=(fs.dropLast++[f])[fs.dropLast.length]?:=congrArg (λl=>l[fs.dropLast.length]?) hs
  rw[this,xI (yT _)];simp
 have h2:=h.2 _ _ e;have h1:=h.1;exact⟨hn.symm,by omega,h2.1,h2.2⟩
theorem zIp{r r':List Int}{fs fs':List WFr}(h:zA4 r fs=some (r',fs'))(hf:zH0 fs):zH0 fs':=by
 unfold zA4 at h;cases hl:fs.getLast? with
 | none=>rw[hl] at h;cases h
 | some f =>
   obtain⟨l1,l2,l3,l4⟩:=zFE hf hl;have hi:=zFH hf;rw[hl] at h;simp only at h;cases hr:f.rest with
   | nil =>
     rw[hr] at h;simp only[yN,xZ] at h;obtain⟨_,rfl⟩:=h;split
     ·exact zBw hi l2 l4 l4
     ·exact hi
   | cons a tl =>
     rw[hr] at h l3;have hh:=Ac.h_eq a;simp only[Ac.hL] at l3;have hb:zH0 (fs.dropLast++[(⟨tl,f.all,f.left⟩:WFr)]):=zBw hi l2 (by show Ac.hL tl+_<=_;omega) l4;have hbl:(fs.dropLast++[(⟨tl,f.all,f.left⟩:WFr)]).length=fs.dropLast.length+1:=by rw[xC];rfl
     simp only at h;split at h
     ·simp only[yN,xZ] at h
      obtain⟨_,rfl⟩:=h;exact hb
     ·split at h
      ·simp only[yN,xZ] at h
       obtain⟨_,rfl⟩:=h;have hc:Ac.hL (if a.ex.val r≠0 then a.thn else a.els)+1<=a.h:=by split <;> omega
       exact zBw hb (by rw[hbl];omega) (J245 _) (J245 _)
      ·split at h
       ·simp only[yN,xZ] at h
        obtain⟨_,rfl⟩:=h;split
        ·exact zBw hb (by rw[hbl];omega) (by rw[hbl];show Ac.hL a.thn+_<=_;omega) (by rw[hbl];show Ac.hL a.thn+_<=_;omega)
        ·exact hb
       ·cases h
def WFr.ok(u:Un)(regs:Int)(f:WFr):Prop:=Ac.zAC u regs f.rest=true/\Ac.zAC u regs f.all=true/\f.left<=1000
structure zD5(u:Un)(regs:Int)(fs:List WFr):Prop where
 each:∀f,f∈fs->f.ok u regs
 low:zH0 fs
def WTh.ok(u:Un)(b:Bd)(t:WTh):Prop:=
 (t.st=1\/t.st=2\/t.st=3\/t.st=4)/\(t.st≠1->t.regs.length=b.regs.toNat/\zD5 u b.regs t.fs)/\(t.st=2->zA4 t.regs t.fs=none)
structure zy.ok(u:Un)(m:zy):Prop where
 cells:m.cells.length=u.cells.length
 owners:m.owners.length=u.mutexes.toNat
 zP:m.zP.length=u.threads.length
 own:∀o,o∈m.owners -> -1<=o
 each:∀(i:Nat)(t:WTh)(b:Bd),m.zP[i]?=some t->u.threads[i]?=some b->t.ok u b
theorem zH6{u:Un}{n:Int}{r r':List Int}{fs fs':List WFr}(h:zA4 r fs=some (r',fs'))(hf:∀f,f∈fs->f.ok u n):r'.length=r.length/\∀f,f∈fs'->f.ok u n:=by
 unfold zA4 at h;cases hl:fs.getLast? with
 | none=>rw[hl] at h;cases h
 | some f =>
   have hs:=zAg hl;have hfo:f.ok u n:=hf f (by rw[hs];simp);have hd:∀g,g∈fs.dropLast->g.ok u n:=λg hg=>hf g (List.dropLast_subset _ hg)
   rw[hl] at h;simp only at h;cases hr:f.rest with
   | nil =>
     rw[hr] at h;simp only[yN,xZ] at h;obtain⟨rfl,rfl⟩:=h;refine⟨rfl,λg hg=>?_⟩
     split at hg
     ·rcases yj.1 hg with hg|hg
      ·exact hd g hg
      ·obtain rfl:g=⟨f.all,f.all,f.left-1⟩:=by simpa using hg
       exact⟨hfo.2.1,hfo.2.1,by have:=hfo.2.2;show f.left-1<=1000;omega⟩
     ·exact hd g hg
   | cons a tl =>
     rw[hr] at h;have h0:=hfo.1;rw[hr] at h0;obtain⟨ha,hm⟩:=Ac.zDD h0;obtain⟨_,hat,hae⟩:=Ac.zDA ha
     have hb:∀g,g∈fs.dropLast++[(⟨tl,f.all,f.left⟩:WFr)]->g.ok u n:=λg hg=>by
      rcases yj.1 hg with hg|hg
      ·exact hd g hg
      ·obtain rfl:g=⟨tl,f.all,f.left⟩:=by simpa using hg
       exact⟨hm,hfo.2⟩
     simp only at h;split at h
     ·simp only[yN,xZ] at h
      obtain⟨rfl,rfl⟩:=h;exact⟨by simp,hb⟩
     ·split at h
      ·simp only[yN,xZ] at h
       obtain⟨rfl,rfl⟩:=h;refine⟨rfl,λg hg=>?_⟩
       rcases yj.1 hg with hg|hg
       ·exact hb g hg
       ·have hg2:g=⟨if a.ex.val r≠0 then a.thn else a.els,if a.ex.val r≠0 then a.thn else a.els,1⟩:=by simpa using hg
        rw[hg2];by_cases q:a.ex.val r≠0
        ·rw[if_pos q];exact⟨hat,hat,by show 1<=1000;omega⟩
        ·rw[if_neg q];exact⟨hae,hae,by show 1<=1000;omega⟩
      ·split at h
       ·simp only[yN,xZ] at h
        obtain⟨rfl,rfl⟩:=h;refine⟨rfl,λg hg=>?_⟩
        split at hg
        ·rcases yj.1 hg with hg|hg
         ·exact hb g hg
         ·obtain rfl:g=⟨a.thn,a.thn,a.count.toNat⟩:=by simpa using hg
          exact⟨hat,hat,by have:=(Ac.zLz ha (by assumption)).2;show a.count.toNat<=1000;omega⟩
        ·exact hb g hg
       ·cases h
theorem zNM{u:Un}{n:Int}{r:List Int}{fs:List WFr}(hf:zD5 u n fs):((loc r fs).1.length=r.length/\zD5 u n (loc r fs).2)/\zA4 (loc r fs).1 (loc r fs).2=none:=
 zKr (P:=λr' fs'=>r'.length=r.length/\zD5 u n fs') (λr1 fs1 r2 fs2 hp h=>⟨(zH6 h hp.2.each).1.trans hp.1,(zH6 h hp.2.each).2,zIp h hp.2.low⟩) ⟨rfl,hf⟩
theorem zDH{u:Un}{n:Int}{t:WTh}(hl:zA4 t.regs t.fs=none)(hf:zD5 u n t.fs):(t.next=none/\t.fs=[])\/∃a f r,t.next=some a/\t.fs.getLast?=some f/\f.rest=a :: r/\Ac.may u n a=true/\2<=a.kind/\a.kind<=9:=by
 unfold zA4 at hl;unfold WTh.next;cases h:t.fs.getLast? with
 | none=>exact .inl ⟨rfl,by simpa using h⟩
 | some f =>
   rw[h] at hl;simp only at hl;have hfo:f.ok u n:=hf.each f (by rw[zAg h];simp);cases hr:f.rest with
   | nil=>rw[hr] at hl;cases hl
   | cons a r =>
     rw[hr] at hl;have h0:=hfo.1;rw[hr] at h0;obtain⟨ha,_⟩:=Ac.zDD h0;obtain⟨k1,k2⟩:=Ac.zBU ha;refine .inr ⟨a,f,r,by simp[hr],rfl,hr,ha,?_,?_⟩
     ·simp only at hl
      by_cases q:a.kind=1
      ·rw[if_pos q] at hl;cases hl
      ·omega
     ·simp only at hl
      split at hl
      ·cases hl
      ·split at hl
       ·cases hl
       ·split at hl
        ·cases hl
        ·omega
theorem zBT{u:Un}(h:zX u=true):1<=u.threads.length/\u.threads.length<=8/\u.cells.length<=8/\0<=u.mutexes/\u.mutexes<=8/\∀b,b∈u.threads->0<=b.regs/\b.regs<=8/\Ac.zAC u b.regs b.acts=true/\Ac.hL b.acts<=500:=by
 unfold zX at h;simp only[yS,yV] at h;obtain⟨⟨⟨⟨⟨⟨⟨⟨h1,h2⟩,h3⟩,h4⟩,h5⟩,h6⟩,h7⟩,h8⟩,h9⟩:=h;refine⟨h1,h2,h3,h4,h5,λb hb=>?_⟩
 have:=xB.1 h7 b hb
 simp only[yS,yV] at this;refine⟨this.1.1,this.1.2,this.2,?_⟩
 have hc:∀l:List Bd,b∈l->Ac.zT b.acts<=(l.map λb=>Ac.zT b.acts).foldr (·+·) 0:=λl=>by
  exact J77 _
 have h1:=hc u.threads hb;have h2:=Ac.zH7 b.acts;omega
theorem zOp{u:Un}{b:Bd}(h:Ac.zAC u b.regs b.acts=true)(hh:Ac.hL b.acts<=500):(zFU b).ok u b/\(zFU b).st=2:=by
 have h1:=zNM (u:=u) (n:=b.regs) (r:=List.replicate b.regs.toNat 0) (fs:=[⟨b.acts,b.acts,1⟩]) ⟨λf hf=>by
  obtain rfl:f=⟨b.acts,b.acts,1⟩:=by simpa using hf
  exact⟨h,h,by show 1<=1000;omega⟩,zBw (fs:=[]) ⟨yF _,λj f e=>by cases e⟩ (yF _) (by show Ac.hL b.acts+0<=_;omega) (by show Ac.hL b.acts+0<=_;omega)⟩
 refine⟨⟨.inr (.inl rfl),λ_=>⟨h1.1.1.trans (by simp),h1.1.2⟩,λ_=>h1.2⟩,rfl⟩
theorem zy.get_eq{m:zy}{i:Nat}{t:WTh}(h:m.zP[i]?=some t):m.get i=t:=by simp[zy.get,List.getD,h]
theorem zy.get_some{m:zy}{i:Nat}(h:i<m.zP.length):m.zP[i]?=some (m.get i):=by
 rw[yL h];simp[zy.get,List.getD,h]
theorem zy.zB4(m:zy)(i:Nat)(t:WTh):(m.zA0 i t).zP.length=m.zP.length:=by simp[zy.zA0]
theorem zy.zCw(m:zy)(i:Nat)(t:WTh)(hi:i<m.zP.length):(m.zA0 i t).get i=t:=by simp[zy.zA0,zy.get,List.getD,hi]
theorem zy.zCM(m:zy){i j:Nat}(t:WTh)(h:i≠j):(m.zA0 i t).get j=m.get j:=by
 show(m.zP.set i t).getD j WTh.zero=_
 unfold zy.get;rw[List.getD,List.getD,kG h]
theorem zy.ok.zA0{u:Un}{m:zy}(h:m.ok u){i:Nat}{t:WTh}(ht:∀b,u.threads[i]?=some b->t.ok u b):(m.zA0 i t).ok u:=by
 refine⟨h.cells,h.owners,by rw[zy.zB4];exact h.zP,h.own,λj t' b e1 e2=>?_⟩
 have e1':(m.zP.set i t)[j]?=some t':=e1;rw[List.getElem?_set] at e1';split at e1'
 ·rename_i he
  subst he;split at e1'
  ·cases e1';exact ht b e2
  ·cases e1'
 ·exact h.each j t' b e1' e2
theorem zy.ok.th{u:Un}{m:zy}(h:m.ok u){i:Nat}(hi:i<m.zP.length):∃b,u.threads[i]?=some b/\(m.get i).ok u b/\u.body i=b:=by
 have hi2:i<u.threads.length:=by rw[<-h.zP];exact hi
 refine⟨u.threads[i],yL hi2,h.each i _ _ (zy.get_some hi) (yL hi2),?_⟩
 unfold Un.body;simp[List.getD,hi2]
theorem zK4{u:Un}(hr:zX u=true){m:zy}(h:m.ok u)(i:Nat):(zGb u m i).ok u:=by
 refine h.zA0 (λb hb=>?_)
 have hm:=(zBT hr).2.2.2.2.2 b (List.mem_of_getElem? hb);have e:u.body i=b:=by unfold Un.body;simp[List.getD,hb]
 rw[e];exact(zOp hm.2.2.1 hm.2.2.2).1
theorem zIE{u:Un}(hr:zX u=true):(zBr u).ok u:=by
 refine zK4 hr ⟨rfl,by simp,by simp,λo ho=>?_,λi t b e1 e2=>?_⟩ 0
 ·obtain⟨_,rfl⟩:=kY.1 ho
  exact Int.le_refl _
 ·exact J101 _
theorem zJR{u:Un}{b:Bd}{t:WTh}(h:t.ok u b)(h2:t.st=2):t.on.local.ok u b/\t.on.local.st=2:=by
 obtain⟨hl,hf⟩:=h.2.1 (by rw[h2];decide)
 have hfo:zD5 u b.regs t.on.fs:=by
  unfold WTh.on;cases e:t.fs.getLast? with
  | none=>exact hf
  | some f =>
    obtain⟨l1,l2,l3,l4⟩:=zFE hf.low e
    refine⟨λg hg=>?_,zBw (zFH hf.low) l2 (by
     show Ac.hL f.rest.tail+_<=_
     cases hr:f.rest with
     | nil=>simp only[List.tail_nil,Ac.hL];omega
     | cons a tl=>rw[hr] at l3;simp only[Ac.hL] at l3;simp only[List.tail_cons];omega) l4⟩
    have hs:=zAg e;have hfl:f.ok u b.regs:=hf.each f (by rw[hs];simp);rcases yj.1 hg with hg|hg
    ·exact hf.each g (List.dropLast_subset _ hg)
    ·exact J73 _
 have hst:t.on.st=t.st:=by unfold WTh.on;split <;> rfl
 have hre:t.on.regs=t.regs:=by unfold WTh.on;split <;> rfl
 have h1:=zNM (u:=u) (n:=b.regs) (r:=t.on.regs) (fs:=t.on.fs) hfo;refine⟨⟨.inr (.inl (by show t.on.st=2;rw[hst];exact h2)),λ_=>⟨?_,h1.1.2⟩,λ_=>h1.2⟩,by show t.on.st=2;rw[hst];exact h2⟩
 show(loc t.on.regs t.on.fs).1.length=_
 rw[h1.1.1,hre];exact hl
theorem WTh.ok.regs{u:Un}{b:Bd}{t:WTh}(h:t.ok u b)(k:Nat)(v:Int)(hs:t.st=2->zA4 (t.regs.set k v) t.fs=none):WTh.ok u b { t with regs:=t.regs.set k v }:=
 ⟨h.1,λh1=>⟨by rw[xQ];exact(h.2.1 h1).1,(h.2.1 h1).2⟩,hs⟩
theorem zLk{r r':List Int}{fs:List WFr}(h:zA4 r fs=none):zA4 r' fs=none:=by
 unfold zA4 at h ⊢;cases hl:fs.getLast? with
 | none=>rfl
 | some f =>
   rw[hl] at h;simp only at h ⊢;cases hr:f.rest with
   | nil=>rw[hr] at h;cases h
   | cons a t =>
     rw[hr] at h;simp only at h ⊢;split at h
     ·cases h
     ·rename_i q1
      rw[if_neg q1];split at h
      ·cases h
      ·rename_i q2
       rw[if_neg q2];split at h
       ·cases h
       ·rename_i q3
        rw[if_neg q3]
theorem zIQ{u:Un}(hr:zX u=true){m:zy}(h:m.ok u){i:Nat}(hi:i<m.zP.length)(a:Ac):(doM u m i a).1.ok u/\(doM u m i a).1.zP.length=m.zP.length:=by
 have hset:∀k v,(m.zA0 i { m.get i with regs:=(m.get i).regs.set k v }).ok u:=λk v=>h.zA0 (λb hb=>by
  obtain⟨b',e,hok,_⟩:=h.th hi;rw[hb] at e;cases e;exact hok.regs k v (λh2=>zLk (hok.2.2 h2)))
 have hcell:∀k v,zy.ok u { m with cells:=m.cells.set k v }:=λk v=>⟨by simp[h.cells],h.owners,h.zP,h.own,h.each⟩
 have hown:∀k (v:Int),-1<=v->zy.ok u { m with owners:=m.owners.set k v }:=λk v hv=>⟨h.cells,by simp[h.owners],h.zP,λo ho=>by
  rcases List.mem_or_eq_of_mem_set ho with ho|ho
  ·exact h.own o ho
  ·subst ho;exact hv,h.each⟩
 unfold doM;simp only
 split
 ·exact⟨hset _ _,by rw[zy.zB4]⟩
 ·split
  ·exact⟨hcell _ _,rfl⟩
  ·split
   ·refine⟨?_,by rw[zy.zB4]⟩
    have:=hset a.reg.toNat (m.cells.getD a.obj.toNat 0)
    exact⟨by simp[zy.zA0,h.cells],this.owners,this.zP,this.own,this.each⟩
   ·split
    ·exact⟨hown _ _ (by omega),rfl⟩
    ·split
     ·split
      ·exact⟨hown _ _ (by omega),rfl⟩
      ·exact⟨h,rfl⟩
     ·split
      ·split
       ·exact⟨zK4 hr h _,by unfold zGb;rw[zy.zB4]⟩
       ·exact⟨h,rfl⟩
      ·split
       ·split <;> exact⟨h,rfl⟩
       ·exact⟨h,rfl⟩
theorem zEt{u:Un}{m:zy}{i:Nat}(hi:i<m.zP.length)(h2:(m.get i).st=2)(a:Ac):((doM u m i a).1.get i).st=2/\((doM u m i a).1.get i).fs=(m.get i).fs:=by
 have hs:∀(c:List Int)(o:List Int)(t:WTh),(zy.zA0 ⟨c,o,m.zP⟩ i t).get i=t:=λc o t=>zy.zCw _ _ _ hi
 unfold doM;simp only
 split
 ·rw[hs];exact⟨h2,rfl⟩
 ·split
  ·exact⟨h2,rfl⟩
  ·split
   ·rw[hs];exact⟨h2,rfl⟩
   ·split
    ·exact⟨h2,rfl⟩
    ·split
     ·split <;> exact⟨h2,rfl⟩
     ·split
      ·split
       ·rename_i q
        have hne:a.obj.toNat≠i:=λe=>by rw[e,h2] at q;cases q
        unfold zGb;rw[zy.zCM _ _ hne];exact⟨h2,rfl⟩
       ·exact⟨h2,rfl⟩
      ·split
       ·split <;> exact⟨h2,rfl⟩
       ·exact⟨h2,rfl⟩
theorem zGp{u:Un}(hr:zX u=true){m:zy}(h:m.ok u){i:Nat}(hi:i<m.zP.length)(h2:(m.get i).st=2):(zAJ u m i).1.ok u/\(zAJ u m i).1.zP.length=m.zP.length:=by
 unfold zAJ;cases hn:(m.get i).next with
 | none =>
   refine⟨h.zA0 (λb hb=>?_),by rw[zy.zB4]⟩
   obtain⟨b',e,hok,_⟩:=h.th hi;rw[hb] at e;cases e;exact⟨.inr (.inr (.inl rfl)),λ_=>hok.2.1 (by rw[h2];decide),λq=>by cases q⟩
 | some a =>
   obtain⟨g1,g2⟩:=zIQ hr h hi a;obtain⟨s1,s2⟩:=zEt (u:=u) hi h2 a;have hi':i<(doM u m i a).1.zP.length:=by rw[g2];exact hi
   simp only
   split
   ·refine⟨g1.zA0 (λb hb=>?_),by rw[zy.zB4,g2]⟩
    obtain⟨b',e,hok,_⟩:=g1.th hi';rw[hb] at e;cases e;exact⟨.inr (.inr (.inr rfl)),λ_=>hok.2.1 (by rw[s1];decide),λq=>by cases q⟩
   ·refine⟨g1.zA0 (λb hb=>?_),by rw[zy.zB4,g2]⟩
    obtain⟨b',e,hok,_⟩:=g1.th hi';rw[hb] at e;cases e;exact(zJR hok s1).1
theorem zHK{m:zy}{i:Int}(h:zCF m i=0):0<=i/\i<m.zP.length/\(m.get i.toNat).st≠1/\(m.get i.toNat).st≠3/\(m.get i.toNat).st≠4/\zBA m i.toNat=true:=by
 unfold zCF at h;split at h
 ·cases h
 ·rename_i q
  simp only at h;split at h
  ·cases h
  ·split at h
   ·cases h
   ·split at h
    ·cases h
    ·split at h
     ·rename_i q1 q2 q3 q4
      exact⟨by omega,by omega,q1,q2,q3,q4⟩
     ·cases h
theorem zGK{u:Un}(hr:zX u=true){m:zy}(h:m.ok u)(i:Int):(stepM u m i).1.ok u/\(stepM u m i).1.zP.length=m.zP.length:=by
 unfold stepM;split
 ·rename_i q
  obtain⟨h1,h2,h3,h4,h5,_⟩:=zHK q;have hi:i.toNat<m.zP.length:=by omega
  obtain⟨b,_,hok,_⟩:=h.th hi;have hst:(m.get i.toNat).st=2:=J223 _;exact zGp hr h hi hst
 ·exact⟨h,rfl⟩
