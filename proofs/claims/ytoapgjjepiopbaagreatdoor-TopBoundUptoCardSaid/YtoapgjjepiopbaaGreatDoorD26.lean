/- Layer D: texts joined. -/
import Derived.Test.YtoapgjjepiopbaaGreatDoorD25
set_option linter.all false
namespace Go.Proofs.YtoapgjjepiopbaaGreatDoor
abbrev kJ:=@zy.zCM
theorem J105(P:Prop) (h:P:=by
 rw[kJ _ _ e];rcases hd with hd|⟨_,_,_,h1,hd⟩|hd
 ·rw[hd];exact yT _
 ·exact hbeg _ hd h1
 ·omega):P:=h
theorem J121(P:Prop) (h:P:=by
 split
 ·split <;> exact .inl rfl
 ·exact .inl rfl):P:=h
theorem J125(P:Prop) (h:P:=by
 rename_i h
 by_cases e:a.obj.toNat=k
 ·exact .inr ⟨.inl h,e.symm⟩
 ·exact .inl (zEx _ e)):P:=h
theorem J129(P:Prop) (h:P:=by
 by_cases e:a.obj.toNat=k
 ·exact .inr ⟨.inr h,e.symm⟩
 ·exact .inl (zEx _ e)):P:=h
theorem J227(P:Prop)(h:P:=by unfold zAc;rw[h2,h3];rfl):P:=h
def WFr.pot(f:WFr):Nat:=Ac.zh f.rest+Ac.zh f.all*(f.left-1)
def zBd:List WFr->Nat
 | []=>0
 | f :: r=>f.pot+zBd r
theorem zAW:(a b:List WFr)->zBd (a++b)=zBd a+zBd b
 | [],b=>by simp[zBd]
 | x :: r,b=>by have:=zAW r b;simp only[vU,zBd,this];omega
theorem zMY{regs regs':List Int}{fs fs':List WFr}(h:zA4 regs fs=some (regs',fs')):zBd fs'<=zBd fs:=by
 unfold zA4 at h;cases hl:fs.getLast? with
 | none=>rw[hl] at h;cases h
 | some f =>
   have hs:=zAg hl
   have hm:zBd fs=zBd fs.dropLast+f.pot:=by
    have:=congrArg zBd hs
    rw[zAW] at this;simpa [zBd] using this
   rw[hl] at h;simp only at h;cases hr:f.rest with
   | nil =>
     rw[hr] at h;simp only[yN,xZ] at h;obtain⟨_,rfl⟩:=h;split
     ·rw[zAW,hm]
      simp only[zBd,WFr.pot,hr,Ac.zh];obtain⟨q,hq⟩:∃q,f.left-1=q+1:=⟨f.left-2,by omega⟩
      rw[hq,vR];simp only[Nat.add_sub_cancel,Nat.mul_one,xA,uQ];omega
     ·omega
   | cons a r =>
     rw[hr] at h;have hf:f.pot=a.stp+Ac.zh r+Ac.zh f.all*(f.left-1):=by simp only[WFr.pot,hr,Ac.zh]
     have ha:=Ac.zFZ a;simp only at h;split at h
     ·simp only[yN,xZ] at h
      obtain⟨_,rfl⟩:=h;rw[zAW,hm,hf];simp only[zBd,WFr.pot];omega
     ·rename_i h1
      rw[if_neg h1] at ha;split at h
      ·rename_i h10
       rw[if_pos h10] at ha;simp only[yN,xZ] at h;obtain⟨_,rfl⟩:=h;rw[zAW,zAW,hm,hf];simp only[zBd,WFr.pot];split <;> omega
      ·rename_i h10
       split at h
       ·rename_i h11
        rw[if_neg h10,if_pos h11] at ha;simp only[yN,xZ] at h;obtain⟨_,rfl⟩:=h;split
        ·rename_i hc
         rw[zAW,zAW,hm,hf];simp only[zBd,WFr.pot];obtain⟨q,hq⟩:∃q,a.count.toNat=q+1:=⟨a.count.toNat-1,by omega⟩
         rw[hq] at ha ⊢;rw[vR] at ha;simp only[Nat.add_sub_cancel,Nat.mul_one] at ha ⊢;omega
        ·rw[zAW,hm,hf]
         simp only[zBd,WFr.pot];omega
       ·cases h
theorem zKo(r:List Int)(fs:List WFr):zBd (loc r fs).2<=zBd fs:=
 (zKr (P:=λ_ fs'=>zBd fs'<=zBd fs) (λ_ _ _ _ h h1=>yX (zMY h1) h) (yT _)).1
def WTh.pot(b:Bd)(t:WTh):Nat:=if t.st=1 then Ac.zh b.acts+1 else if t.st=2 then zBd t.fs+1 else 0
def zGF(f:Nat->Nat):Nat->Nat
 | 0=>0
 | n+1=>zGF f n+f n
theorem zIS{f g:Nat->Nat}:(n:Nat)->(∀i,i<n->f i<=g i)->zGF f n<=zGF g n
 | 0,_=>yT _
 | n+1,h=>by
   have h1:=zIS n (λi hi=>h i (by omega));have h2:=h n (by omega);simp only[zGF];omega
theorem zKs{f g:Nat->Nat}{k:Nat}:(n:Nat)->k<n->(∀i,i<n->f i<=g i)->f k<g k->zGF f n<zGF g n
 | 0,h,_,_=>absurd h (Nat.not_lt_zero _)
 | n+1,hk,h,hl=>by
   have h2:=h n (by omega);simp only[zGF];by_cases e:k=n
   ·subst e
    have h1:=zIS k (λi hi=>h i (by omega));omega
   ·have h1:=zKs n (by omega) (λi hi=>h i (by omega)) hl
    omega
def zCj(u:Un)(m:zy):Nat:=zGF (λi=>(m.get i).pot (u.body i)) m.zP.length
theorem zK7(l:List Bd):(n:Nat)->n<=l.length->unS (l.take n)=zGF (λi=>Ac.zh (l.getD i ⟨0,[]⟩).acts+1) n
 | 0,_=>by simp[unS,zGF]
 | n+1,h=>by
   rw[zDn (by omega),zK7 l n (by omega)];simp only[zGF,List.getD];rw[yL (by omega)];rfl
theorem zIo(b:Bd):(zFU b).pot b<=Ac.zh b.acts+1:=by
 have h:=zKo (List.replicate b.regs.toNat 0) [⟨b.acts,b.acts,1⟩];unfold WTh.pot zFU WTh.local;simp only
 simp only[zBd,WFr.pot,Nat.sub_self,Nat.mul_zero] at h;simp
 omega
theorem zGE(u:Un):(zBr u).zP=(u.threads.map λ_=>(⟨1,[],[]⟩:WTh)).set 0 (zFU (u.body 0)):=rfl
theorem zI3(u:Un):zCj u (zBr u)<=unS u.threads:=by
 have h:=zK7 u.threads u.threads.length (yT _);rw[xS] at h;have hl:(zBr u).zP.length=u.threads.length:=by rw[zGE];simp
 rw[h];unfold zCj;rw[hl];refine zIS _ (λi hi=>?_)
 have hg:((zBr u).get i).pot (u.body i)<=Ac.zh (u.body i).acts+1:=by
  by_cases e:i=0
  ·subst e
   have:(zBr u).get 0=zFU (u.body 0):=zy.get_eq (by rw[zGE];exact xV (by simp;omega))
   rw[this];exact zIo _
  ·have:(zBr u).get i=⟨1,[],[]⟩:=zy.get_eq (by rw[zGE,kG (λh=>e h.symm)];simp[hi])
   rw[this];simp[WTh.pot]
 exact hg
theorem zQu{t:WTh}{a:Ac}{f:WFr}{r:List Ac}(h1:t.fs.getLast?=some f)(h2:f.rest=a :: r)(hk:2<=a.kind/\a.kind<=9):zBd t.on.local.fs<zBd t.fs:=by
 have hs:=zAg h1
 have hm:zBd t.fs=zBd t.fs.dropLast+f.pot:=by
  have:=congrArg zBd hs
  rw[zAW] at this;simpa [zBd] using this
 have e:t.on.fs=t.fs.dropLast++[⟨r,f.all,f.left⟩]:=by unfold WTh.on;rw[h1];simp[h2]
 have h3:zBd t.on.local.fs<=zBd t.on.fs:=zKo _ _;have ha:=Ac.zFZ a;rw[if_neg (by omega),if_neg (by omega),if_neg (by omega)] at ha;rw[e,zAW] at h3;have hf:f.pot=a.stp+Ac.zh r+Ac.zh f.all*(f.left-1):=by simp only[WFr.pot,h2,Ac.zh]
 simp only[zBd,WFr.pot] at h3;omega
theorem zFX{u:Un}{m:zy}{i j:Nat}(hij:i≠j)(a:Ac):(doM u m i a).1.get j=m.get j\/(a.kind=7/\a.obj.toNat=j/\(doM u m i a).2.2=0/\(m.get j).st=1/\(doM u m i a).1.get j=zFU (u.body j))\/m.zP.length<=j:=by
 have hs:∀(c:List Int)(o:List Int)(t:WTh),(zy.zA0 ⟨c,o,m.zP⟩ i t).get j=m.get j:=λc o t=>kJ _ _ hij
 unfold doM;simp only
 split
 ·exact .inl (hs _ _ _)
 ·split
  ·exact .inl rfl
  ·split
   ·exact .inl (hs _ _ _)
   ·split
    ·exact .inl rfl
    ·split
     ·split <;> exact .inl rfl
     ·split
      ·rename_i h7
       split
       ·rename_i q
        by_cases e:a.obj.toNat=j
        ·rw[e] at q ⊢
         by_cases hj:j<m.zP.length
         ·exact .inr (.inl ⟨h7,rfl,rfl,q,zy.zCw _ _ _ hj⟩)
         ·exact .inr (.inr (by omega))
        ·exact .inl (kJ _ _ e)
       ·exact .inl rfl
      ·exact J121 _
theorem zLd{u:Un}(hr:zX u=true){m:zy}(h:m.ok u){i:Nat}(hi:i<m.zP.length)(h2:(m.get i).st=2):zCj u (zAJ u m i).1<zCj u m:=by
 have hlen:=(zGp hr h hi h2).2;obtain⟨b,hb,hok,hbe⟩:=h.th hi;unfold zCj;rw[hlen]
 have hself:((zAJ u m i).1.get i).pot (u.body i)<(m.get i).pot (u.body i):=by
  have hp:(m.get i).pot (u.body i)=zBd (m.get i).fs+1:=by unfold WTh.pot;rw[h2];rfl
  rw[hp];unfold zAJ;cases hn:(m.get i).next with
  | none =>
    simp only
    rw[zy.zCw _ _ _ hi];unfold WTh.pot;simp
  | some a =>
    obtain⟨s1,s2⟩:=zEt (u:=u) hi h2 a;have hi':i<(doM u m i a).1.zP.length:=by rw[(zIQ hr h hi a).2];exact hi
    simp only
    split
    ·rw[zy.zCw _ _ _ hi']
     unfold WTh.pot;simp
    ·rw[zy.zCw _ _ _ hi']
     obtain⟨h3,h4⟩|⟨a',f,r,h3,h4,h5,h6,h7⟩:=zDH (hok.2.2 h2) (hok.2.1 (by rw[h2];decide)).2
     ·rw[h3] at hn;cases hn
     ·rw[hn] at h3;cases h3
      have hst:((doM u m i a).1.get i).on.local.st=2:=by
       show((doM u m i a).1.get i).on.st=2
       unfold WTh.on;split <;> exact s1
      have h8:=zQu (t:=(doM u m i a).1.get i) (by rw[s2];exact h4) h5 h7;unfold WTh.pot;rw[hst];simp only[Int.reduceEq,if_false,if_true];rw[s2] at h8;omega
 refine zKs _ hi (λj hj=>?_) hself
 by_cases e:i=j
 ·subst e;exact Nat.le_of_lt hself
 have hbeg:∀t:WTh,t=zFU (u.body j)->(m.get j).st=1->t.pot (u.body j)<=(m.get j).pot (u.body j):=λt ht h1=>by
  rw[ht];refine yX (zIo _) ?_
  unfold WTh.pot;rw[h1];simp
 show((zAJ u m i).1.get j).pot (u.body j)<=(m.get j).pot (u.body j)
 unfold zAJ;cases hn:(m.get i).next with
 | none=>simp only;rw[kJ _ _ e];exact yT _
 | some a =>
   simp only
   have hd:=zFX (u:=u) (m:=m) e a;split
   ·exact J105 _
   ·exact J105 _
theorem zy.ok.run{u:Un}{m:zy}(h:m.ok u){i:Int}(h0:zCF m i=0):0<=i/\i.toNat<m.zP.length/\(m.get i.toNat).st=2:=by
 obtain⟨h1,h2,h3,h4,h5,_⟩:=zHK h0;have hi:i.toNat<m.zP.length:=by omega
 obtain⟨b,_,hok,_⟩:=h.th hi;exact⟨h1,hi,by exact J223 _⟩
theorem zHf{u:Un}(hr:zX u=true){m:zy}(h:m.ok u){i:Int}(h0:zCF m i=0):zCj u (stepM u m i).1<zCj u m:=by
 obtain⟨h1,hi,h2⟩:=h.run h0;unfold stepM;rw[if_pos h0];exact zLd hr h hi h2
theorem zHa{u:Un}{m:zy}(h:m.ok u){i:Int}(hi:i∈zA1 m):zCF m i=0:=by
 unfold zA1 at hi;obtain⟨k,hk,rfl⟩:=List.mem_map.1 hi;obtain⟨hk1,hk2⟩:=List.mem_filter.1 hk;have hlt:=xT.1 hk1;obtain⟨b,_,hok,_⟩:=h.th hlt
 have h2:(m.get k).st=2:=by
  refine uP λhn=>?_
  have:zBA m k=false:=by unfold zBA zAc;simp[hn]
  rw[this] at hk2;cases hk2
 unfold zCF;rw[if_neg (by omega)];simp[h2,hk2]
theorem zOW{m m':zy}{i:Nat}(h:m'.get i=m.get i):zAc m' i=zAc m i:=by unfold zAc;rw[h]
structure Apart(m m':zy)(x:Evt):Prop where
 nc:m.cells.length=m'.cells.length
 no:m.owners.length=m'.owners.length
 nt:m.zP.length=m'.zP.length
 cells:∀k,k<m.cells.length->m.cells.getD k 0=m'.cells.getD k 0\/((x.kind=2\/x.kind=3)/\(k:Int)=x.obj)
 owners:∀k,k<m.owners.length->m.owners.getD k 0=m'.owners.getD k 0\/((x.kind=4\/x.kind=5)/\(k:Int)=x.obj)
 zP:∀k,k<m.zP.length->((m.get k).st=(m'.get k).st/\zAc m k=zAc m' k)\/(k:Int)=x.thread\/(x.kind=6/\x.bad=0/\(k:Int)=x.obj)
theorem zEx{l:List Int}{k j:Nat}(v:Int)(h:k≠j):(l.set k v).getD j 0=l.getD j 0:=by rw[List.getD,List.getD,kG h]
theorem zLQ{u:Un}{m:zy}{i:Nat}(a:Ac)(k:Nat):(doM u m i a).1.cells.getD k 0=m.cells.getD k 0\/((a.kind=3\/a.kind=4)/\k=a.obj.toNat):=by
 unfold doM;simp only
 split
 ·exact .inl rfl
 ·split
  ·exact J125 _
  ·split
   ·rename_i h
    exact J129 _
   ·split
    ·exact .inl rfl
    ·split
     ·split <;> exact .inl rfl
     ·split
      ·split <;> exact .inl rfl
      ·exact J121 _
theorem zJw{u:Un}{m:zy}{i:Nat}(a:Ac)(k:Nat):(doM u m i a).1.owners.getD k 0=m.owners.getD k 0\/((a.kind=5\/a.kind=6)/\k=a.obj.toNat):=by
 unfold doM;simp only
 split
 ·exact .inl rfl
 ·split
  ·exact .inl rfl
  ·split
   ·exact .inl rfl
   ·split
    ·exact J125 _
    ·split
     ·rename_i h
      split
      ·exact J129 _
      ·exact .inl rfl
     ·split
      ·split <;> exact .inl rfl
      ·exact J121 _
theorem zJr{u:Un}(hr:zX u=true){m:zy}(h:m.ok u){i:Int}(h0:zCF m i=0):Apart m (stepM u m i).1 (stepM u m i).2.1/\(stepM u m i).2.1.thread=i:=by
 obtain⟨h1,hi,h2⟩:=h.run h0;obtain⟨k,rfl⟩:∃k:Nat,i=k:=⟨i.toNat,by omega⟩
 rw[Int.toNat_natCast] at hi h2;obtain⟨b,hb,hok,hbe⟩:=h.th hi;have g:=(zGK hr h (k:Int)).1;have hth:∀(m':zy)(j:Nat),(m.get j=m'.get j)->((m.get j).st=(m'.get j).st/\zAc m j=zAc m' j):=λm' j e=>⟨by rw[e],(zOW e.symm).symm⟩
 have hcl:m.cells.length=(stepM u m k).1.cells.length:=by rw[h.cells,g.cells]
 have hol:m.owners.length=(stepM u m k).1.owners.length:=by rw[h.owners,g.owners]
 have htl:m.zP.length=(stepM u m k).1.zP.length:=by rw[h.zP,g.zP]
 have hx:(stepM u m k)=((zAJ u m k).1,(zAJ u m k).2,0):=by unfold stepM;rw[if_pos h0,Int.toNat_natCast]
 have key:(zAJ u m k).2.thread=(k:Int)/\(∀j,m.cells.getD j 0=(zAJ u m k).1.cells.getD j 0\/(((zAJ u m k).2.kind=2\/(zAJ u m k).2.kind=3)/\(j:Int)=(zAJ u m k).2.obj)) ∧
  (∀j,m.owners.getD j 0=(zAJ u m k).1.owners.getD j 0\/(((zAJ u m k).2.kind=4\/(zAJ u m k).2.kind=5)/\(j:Int)=(zAJ u m k).2.obj)) ∧
  (∀j,j<m.zP.length->m.get j=(zAJ u m k).1.get j\/j=k\/((zAJ u m k).2.kind=6/\(zAJ u m k).2.bad=0/\(j:Int)=(zAJ u m k).2.obj)):=by
  unfold zAJ;rcases zDH (hok.2.2 h2) (hok.2.1 (by rw[h2];decide)).2 with⟨h3,_⟩|⟨a,f,r,h3,h4,h5,h6,h7⟩
  ·rw[h3]
   refine⟨rfl,λj=>.inl rfl,λj=>.inl rfl,λj hj=>?_⟩
   by_cases e:k=j
   ·exact .inr (.inl e.symm)
   ·exact .inl (kJ _ _ e).symm
  ·have e:zAc m k=(a.kind-1,a.obj):=J227 _
   have hob:∀j:Nat,j=a.obj.toNat->2<=a.kind/\a.kind<=8->(j:Int)=a.obj:=λj e1 e2=>by have:=(Ac.zF4 h6 e2).1;omega
   rw[h3];simp only
   have hot:∀(x:WTh)(j:Nat),j<m.zP.length->m.get j=((doM u m k a).1.zA0 k x).get j\/j=k\/(a.kind-1=6/\(doM u m k a).2.2=0/\(j:Int)=a.obj):=λx j hj=>by
    by_cases e:k=j
    ·exact .inr (.inl e.symm)
    ·rw[kJ _ _ e]
     rcases zFX (u:=u) (m:=m) e a with hd|⟨q1,q2,q3,_,_⟩|hd
     ·exact .inl hd.symm
     ·exact .inr (.inr ⟨by omega,q3,hob j q2.symm (by omega)⟩)
     ·omega
   have hce:∀j,m.cells.getD j 0=(doM u m k a).1.cells.getD j 0\/((a.kind-1=2\/a.kind-1=3)/\(j:Int)=a.obj):=λj=>by
    rcases zLQ (u:=u) (m:=m) (i:=k) a j with q|⟨q1,q2⟩
    ·exact .inl q.symm
    ·exact .inr ⟨by omega,hob j q2 (by omega)⟩
   have how:∀j,m.owners.getD j 0=(doM u m k a).1.owners.getD j 0\/((a.kind-1=4\/a.kind-1=5)/\(j:Int)=a.obj):=λj=>by
    rcases zJw (u:=u) (m:=m) (i:=k) a j with q|⟨q1,q2⟩
    ·exact .inl q.symm
    ·exact .inr ⟨by omega,hob j q2 (by omega)⟩
   split
   ·rename_i hbad
    refine⟨rfl,by rw[e];exact hce,by rw[e];exact how,λj hj=>?_⟩
    rw[e];rcases hot _ j hj with q|q|⟨_,q,_⟩
    ·exact .inl q
    ·exact .inr (.inl q)
    ·exact absurd q hbad
   ·rename_i hbad
    refine⟨rfl,by rw[e];exact hce,by rw[e];exact how,λj hj=>?_⟩
    rw[e];rcases hot _ j hj with q|q|⟨q1,_,q2⟩
    ·exact .inl q
    ·exact .inr (.inl q)
    ·exact .inr (.inr ⟨q1,rfl,q2⟩)
 rw[hx] at hcl hol htl ⊢;obtain⟨k1,k2,k3,k4⟩:=key;refine⟨⟨hcl,hol,htl,λj _=>k2 j,λj _=>k3 j,λj hj=>?_⟩,k1⟩
 rcases k4 j hj with q|q|q
 ·exact .inl (hth _ j q)
 ·exact .inr (.inl (by rw[k1,q]))
 ·exact .inr (.inr q)
def zy.idle(m:zy):Prop:=∀j,j<m.zP.length->(m.get j).st=1->(m.get j).regs=[]/\(m.get j).fs=[]
theorem zLf{u:Un}(hr:zX u=true):(zBr u).idle:=by
 intro j hj h1
 have hb:=(zIE hr).zP;by_cases h0:j=0
 ·subst h0
  have h8:0<u.threads.length:=by have:=(zBT hr).1;omega
  have e:(zBr u).get 0=zFU (u.body 0):=by unfold zBr zGb;exact zy.zCw _ _ _ (by simpa using h8)
  rw[e] at h1;unfold zFU at h1;cases h1
 ·have e:(zBr u).get j=(⟨1,[],[]⟩:WTh):=by
   unfold zBr zGb;rw[kJ _ _ (λh=>h0 h.symm)];have hj':j<u.threads.length:=by rw[<-hb];exact hj
   simp[zy.get,List.getD,hj']
  rw[e];exact⟨rfl,rfl⟩
theorem zKY{u:Un}(hr:zX u=true){m:zy}(h:m.ok u)(hi:m.idle)(i:Int):(stepM u m i).1.idle:=by
 unfold stepM;by_cases h0:zCF m i=0
 ·rw[if_pos h0]
  obtain⟨_,hl,h2⟩:=h.run h0;generalize i.toNat=k at hl h2;have hlen:=(zGp hr h hl h2).2;intro j hj h1
  rw[hlen] at hj;show((zAJ u m k).1.get j).regs=[]/\((zAJ u m k).1.get j).fs=[]
  replace h1:((zAJ u m k).1.get j).st=1:=h1
  have key:∀(m1:zy)(t:WTh),m1.zP.length=m.zP.length->t.st≠1->(∀q,q≠k->q<m.zP.length->(m1.get q).st=1->(m1.get q).regs=[]/\(m1.get q).fs=[])->((m1.zA0 k t).get j).st=1->((m1.zA0 k t).get j).regs=[]/\((m1.zA0 k t).get j).fs=[]:=by
   intro m1 t hl1 ht ho h1
   by_cases e:j=k
   ·subst e
    rw[zy.zCw _ _ _ (by rw[hl1];exact hl)] at h1;exact absurd h1 ht
   ·rw[kJ _ _ (λh=>e h.symm)] at h1 ⊢
    exact ho j e hj h1
  revert h1
  unfold zAJ;cases hn:(m.get k).next with
  | none =>
    simp only
    exact key m _ rfl (by show(3:Int)≠1;decide) (λq _ hq=>hi q hq)
  | some a =>
    simp only
    have hd:=(zIQ hr h hl a).2;have hs:=(zEt (u:=u) hl h2 a).1
    have ho:∀q,q≠k->q<m.zP.length->((doM u m k a).1.get q).st=1->((doM u m k a).1.get q).regs=[]/\((doM u m k a).1.get q).fs=[]:=λq hq hlq hq1=>by
     rcases zFX (u:=u) (m:=m) (λe=>hq e.symm) a with e|⟨_,_,_,_,e⟩|e
     ·rw[e] at hq1 ⊢;exact hi q hlq hq1
     ·rw[e] at hq1;unfold zFU at hq1;cases hq1
     ·omega
    split
    ·exact key _ _ hd (by show(4:Int)≠1;decide) ho
    ·refine key _ _ hd ?_ ho
     have e:((doM u m k a).1.get k).on.local.st=2:=by
      unfold WTh.local WTh.on;split <;> exact hs
     rw[e];decide
 ·rw[if_neg h0];exact hi
structure zRQ where
 t:Int
 c:Int
 e:Evt
def plN(u:Un):zy->List Int->List zRQ × zy
 | m,[]=>([],m)
 | m,t :: r=>(⟨t,(stepM u m t).2.2,(stepM u m t).2.1⟩ :: (plN u (stepM u m t).1 r).1,(plN u (stepM u m t).1 r).2)
def chN(ch:List Int)(k n:Nat):Nat:=if k<ch.length then (ch.getD k 0 % (n:Int)).toNat else 0
theorem zMq(ch:List Int)(k:Nat){n:Nat}(h:0<n):chN ch k n<n:=by
 unfold chN;split
 ·have h1:=Int.emod_nonneg (ch.getD k 0) (b:=(n:Int)) (by omega)
  have h2:=Int.emod_lt_of_pos (ch.getD k 0) (b:=(n:Int)) (by omega);omega
 ·exact h
def whT(ch:List Int)(k:Nat)(m:zy):Int:=(zA1 m).getD (chN ch k (zA1 m).length) 0
def whN(u:Un)(ch:List Int):Nat->Nat->zy->List Evt × zy
 | 0,_,m=>([],m)
 | f+1,k,m=>if zA1 m=[] then ([],m) else ((stepM u m (whT ch k m)).2.1 :: (whN u ch f (k+1) (stepM u m (whT ch k m)).1).1,(whN u ch f (k+1) (stepM u m (whT ch k m)).1).2)
theorem zLF(ch:List Int)(k:Nat){m:zy}(h:zA1 m ≠ []):whT ch k m∈zA1 m:=by
 unfold whT
 have hl:0<(zA1 m).length:=by cases hm:zA1 m with
  | nil=>exact absurd hm h
  | cons=>simp
 have:=zMq ch k hl
 simp[List.getD,this]
theorem zJD{u:Un}(hr:zX u=true)(ch:List Int){f k:Nat}{m:zy}(hm:m.ok u)(he:zA1 m ≠ [])(hf:zCj u m<=f):
 ∃f',whN u ch f k m=((stepM u m (whT ch k m)).2.1 :: (whN u ch f' (k+1) (stepM u m (whT ch k m)).1).1,(whN u ch f' (k+1) (stepM u m (whT ch k m)).1).2)/\zCj u (stepM u m (whT ch k m)).1<=f'/\zCj u (stepM u m (whT ch k m)).1<zCj u m/\zCF m (whT ch k m)=0:=by
 have h0:=zHa hm (zLF ch k he);have hp:=zHf hr hm h0;cases f with
 | zero=>omega
 | succ f=>exact⟨f,by rw[whN,if_neg he],by omega,hp,h0⟩
theorem zHz{u:Un}(hr:zX u=true)(ch:List Int){f k:Nat}{m:zy}(he:zA1 m=[]):whN u ch f k m=([],m):=by
 cases f with
 | zero=>rfl
 | succ f=>rw[whN,if_pos he]
def whole(u:Un)(ch:List Int):List Evt × zy:=whN u ch (zCj u (zBr u)) 0 (zBr u)
theorem zO6{u:Un}(hr:zX u=true)(ch:List Int):∀(f k:Nat)(m:zy),m.ok u->zCj u m<=f →
 (whN u ch f k m).1.length<=zCj u m/\(whN u ch f k m).2.ok u/\zA1 (whN u ch f k m).2=[]/\plN u m ((whN u ch f k m).1.map Evt.thread)=((whN u ch f k m).1.map λx=>⟨x.thread,0,x⟩,(whN u ch f k m).2):=by
 intro f
 induction f with
 | zero =>
   intro k m hm hf
   by_cases he:zA1 m=[]
   ·rw[zHz hr ch he]
    exact⟨yF _,hm,he,rfl⟩
   ·obtain⟨f',_,_,h,_⟩:=zJD hr ch (k:=k) hm he hf
    omega
 | succ f ih =>
   intro k m hm hf
   by_cases he:zA1 m=[]
   ·rw[zHz hr ch he]
    exact⟨yF _,hm,he,rfl⟩
   ·have h0:=zHa hm (zLF ch k he)
    have hp:=zHf hr hm h0;have ho:=(zGK hr hm (whT ch k m)).1;obtain⟨q1,q2,q3,q4⟩:=ih (k+1) _ ho (by omega);have e:whN u ch (f+1) k m=((stepM u m (whT ch k m)).2.1 :: (whN u ch f (k+1) (stepM u m (whT ch k m)).1).1,(whN u ch f (k+1) (stepM u m (whT ch k m)).1).2):=by rw[whN,if_neg he]
    have ht:(stepM u m (whT ch k m)).2.1.thread=whT ch k m:=(zJr hr hm h0).2;have hc:(stepM u m (whT ch k m)).2.2=0:=by unfold stepM;rw[if_pos h0]
    rw[e];refine⟨by simp only[xM];omega,q2,q3,?_⟩
    simp only[uO,plN,ht,hc,q4]
end Go.Proofs.YtoapgjjepiopbaaGreatDoor
namespace Go.Proofs.YtoapgjjepiopbaaGreatDoor
open Go.RowKit
def zGh(gs:Nat->Nat × Nat)(i:Nat)(p:Nat × Nat)(j:Nat):Nat × Nat:=if j=i then p else gs j
def zE8(md:Region.Mode)(l:List Oper)(n:Nat)(D:Nat->List Nat):Bool:=
 (List.range n).all λi=>((l[i]?).map λo=>(D i).all λa=>decide (a=i) || o.after.any λe=>Region.binds md e&&(D e.on).contains a).getD true
def zMc(md:Region.Mode)(ops:Array Oper)(n p:Nat):Bool:=
 (List.range n).all λi=>decide (i=p) || (List.range (n+1)).any λj=>decide (i<j)&&decide (j≠p)&&Region.waitsFor md ops j i
theorem zJQ{md:Region.Mode}{ops:Array Oper}{n p:Nat}{listed:Array Bool}(hs:zMc md ops n p=true)(hc:Region.chainB md ops n=true)(hn:n<ops.size)(inv:HeadInv md ops n listed):
 ∀(d i:Nat),n-i=d->i≠p->i<n->listed.getD i true=false->∀t,n<=t->t∉Region.ready md ops listed:=by
 intro d
 induction d using Nat.strongRecOn with
 | _ d ih =>
   intro i hd hip hi hun t ht hr
   obtain⟨_,ot,hot,hall⟩:=uW.1 hr;have htlt:t<ops.size:=(Array.getElem?_eq_some_iff.1 hot).1;by_cases htn:t=n
   ·exact J21 _
   ·exact J24 _
def zFB(n g p:Nat):Array Bool:=(zo n g).setIfInBounds p false
def zIi(md:Region.Mode)(l:List Oper)(n p:Nat):Bool:=
 decide (n<l.length)&&zMc md l.toArray n p&&Region.chainB md l.toArray n&&zKu md l n&&((List.range (n+1)).all λm=>zCC l m)&&Region.seqB md l.toArray (l.length-n) n (zo n (l.length-n)) &&
  (decide (n<=p) || (Region.free md l.toArray (zFB n (l.length-n) p) p&&(Region.ready md l.toArray (zFB n (l.length-n) p)).contains p&&Region.noSelect l.toArray))
section
variable {P:Program}
theorem zO2{id:Nat}{Q:Exit->Act->World->Prop}{a:Act}{w:World}{l:List Oper}(n p:Nat)(hm:P.follows .mixedOrders=true)(hB:zIi .any l n p=true)(D:Nat->List Nat)(hDB:zE8 .any l n D=true)
 (F:Nat->Value->(Nat->Nat × Nat)->World->Prop) (hst:∀j v gs W W',F j v gs W->Keeps zA W W'->F j v gs W') (hloc:∀j v gs gs' W,(∀a,a∈D j->gs a=gs' a)->F j v gs W->F j v gs' W)
 (hp:p<n->∃op,l[p]?=some op/\(∀c a w v,Q (.panic c) (a.put op.dst v) w->Q (.panic c) a w)/\∀(vs:Nat->Value) gs W,Keeps zA w.drew W->(∀j,j<n->j≠p->F j (vs j) gs W)->∃v,Yields P l.toArray op v (zJ l vs a n)/\F p v (zGh gs p (W.heap.size,W.heap.size)) W)
 (hstep:∀i o,i<n->l[i]?=some o->∀(vs:Nat->Value)(gs:Nat->Nat × Nat)(W:World)(Q':Exit->Act->World->Prop),Keeps zA w.drew W->(∀e,e∈o.after.toList->Region.binds .any e=true->F e.on (vs e.on) gs W) →
   (∀v W',Keeps zA W W'->F i v (zGh gs i (W.heap.size,W'.heap.size)) W'->Q' .normal ((zJ l vs a n).put o.dst v) W')->wpList P l.toArray Q' [o] (zJ l vs a n) W)
 (htail:∀(vs:Nat->Value)(gs:Nat->Nat × Nat)(W:World),Keeps zA w.drew W->(∀j,j<n->F j (vs j) gs W)->(∀j,j<n->(gs j).2<=W.heap.size)->(∀i j,i<n->j<n->i≠j->(gs i).2<=(gs j).1\/(gs j).2<=(gs i).1)->wpList P l.toArray Q (l.drop n) (zJ l vs a n) W):(Code.region id l.toArray true).wp P Q a w:=by
 simp only[zIi,yS,kD,yV,xB,xT] at hB;obtain⟨⟨⟨⟨⟨⟨hn,hs⟩,hc⟩,hback⟩,hdis⟩,hseq⟩,hpB⟩:=hB
 have key:∀(f:Nat)(listed:Array Bool)(vs:Nat->Value)(gs:Nat->Nat × Nat)(W:World),HeadInv .any l.toArray n listed->zBp listed n=f->Keeps zA w.drew W->(∀j,j<n->listed.getD j true=true->F j (vs j) gs W)->(∀j,j<n->listed.getD j true=true->∀a,a∈D j->listed.getD a true=true)->(∀j,j<n->listed.getD j true=true->(gs j).2<=W.heap.size)->(∀i j,i<n->j<n->i≠j->listed.getD i true=true->listed.getD j true=true->(gs i).2<=(gs j).1\/(gs j).2<=(gs i).1) →
  wpAny P .any l.toArray Q (f+(l.length-n)) listed (zJ l vs a n) W:=by
  intro f
  induction f with
  | zero =>
    intro listed vs gs W inv hcnt hR hF hL hG hD
    have hall:=zCE n hcnt
    have he:listed=zo n (l.length-n):=by
     exact J10 _
    have h1:=htail vs gs W hR (λj hj=>hF j hj (hall j hj)) (λj hj=>hG j hj (hall j hj)) (λi j hi hj hne=>hD i j hi hj hne (hall i hi) (hall j hj));have hdl:(l.drop n).length=l.length-n:=by simp
    have:=wpAny_of_seq (P:=P) (md:=.any) (ops:=l.toArray) (Q':=Q) (l.drop n) n listed (zJ l vs a n) W (λj=>by simp[kV]) (by rw[hdl,he];exact hseq) h1
    rw[hdl] at this;rw[xA];exact this
  | succ f ih =>
    intro listed vs gs W inv hcnt hR hF hL hG hD
    have hle:∀ {i o},i<n->l[i]?=some o->∀e,e∈o.after->Region.binds .any e=true->e.on<i:=λ{i o} hin ho' e he hb=>by
     have h1:=xB.1 hback i (xT.2 hin);simp only[ho',vM,kQ,uU] at h1;have h2:=h1 e he;simpa only[hb,Bool.not_true,Bool.false_or,yV] using h2
    have adv:∀i o v W',i∈Region.ready .any l.toArray listed->i<n->l[i]?=some o->Keeps zA W W'->F i v (zGh gs i (W.heap.size,W'.heap.size)) W'->wpAny P .any l.toArray Q (f+(l.length-n)) (listed.setIfInBounds i true) ((zJ l vs a n).put o.dst v) W':=by
     intro i o v W' hi hin ho' hR' hF'
     have hun:=(uW.1 hi).1;obtain⟨_,o2,ho2,hafter⟩:=uW.1 hi;have ho2':l[i]?=some o2:=by simpa using ho2
     have e2:o2=o:=yi (ho2'.symm.trans ho');subst e2;have hd:o2.dst=(l[i]?).bind (·.dst):=by rw[ho'];rfl
     rw[hd,zBO v n vs hin (hdis n (by omega)) (λm hm=>hdis m (by omega))];refine ih _ _ (zGh gs i (W.heap.size,W'.heap.size)) _ (inv.set hi hin) ?_ (hR.trans hR' (λ_ _ h=>h.elim)) (λj hj hl=>?_) (λj hj hl b hb=>?_) (λj hj hl=>?_) (λi1 j1 hi1 hj1 hne hl1 hl2=>?_)
     ·exact J74 _
     ·exact J50 _
     ·by_cases eb:b=i
      ·subst eb
       by_cases hs2:b<listed.size
       ·simp[hs2]
       ·simp[hs2]
      ·rw[uJ true (λh=>eb h.symm)]
       by_cases e:j=i
       ·subst e
        have h1:=xB.1 hDB j (xT.2 hin);simp only[ho',vM,kQ,xB] at h1;have h2:=h1 b hb;simp only[kD,yV,Array.any_eq_true',yS,List.contains_iff_mem] at h2;rcases h2 with h2|⟨e,he,hbe,h3⟩
        ·exact absurd h2 eb
        ·have h4:=hafter e he hbe
         have h6:=hle hin ho' e he hbe;exact J113 _
       ·rw[uJ true (λh=>e h.symm)] at hl
        exact hL j hj hl b hb
     ·by_cases e:j=i
      ·subst e;unfold zGh;rw[if_pos rfl];exact yT _
      ·rw[uJ true (λh=>e h.symm)] at hl
       unfold zGh;rw[if_neg e];exact yX (hG j hj hl) hR'.size
     ·by_cases e1:i1=i
      ·subst e1
       have e2:¬j1=i1:=λh=>hne h.symm
       rw[uJ true hne] at hl2;unfold zGh;rw[if_pos rfl,if_neg e2];exact .inr (hG j1 hj1 hl2)
      ·rw[uJ true (λh=>e1 h.symm)] at hl1
       by_cases e2:j1=i
       ·subst e2
        unfold zGh;rw[if_pos rfl,if_neg e1];exact .inl (hG i1 hi1 hl1)
       ·rw[uJ true (λh=>e2 h.symm)] at hl2
        unfold zGh;rw[if_neg e1,if_neg e2];exact hD i1 j1 hi1 hj1 hne hl1 hl2
    rw[show f+1+(l.length-n)=(f+(l.length-n))+1 by omega];by_cases hall:∀i,i<n->i≠p->listed.getD i true=true
    ·obtain⟨i,hi1,hup,_⟩:=zBN n (by omega:zBp listed n≠0)
     have ei:i=p:=uP λei=>by rw[hall i hi1 ei] at hup;cases hup
     subst ei;rcases hpB with hpB|⟨⟨hfr,hrd⟩,hsel⟩
     ·omega
     have he:listed=zFB n (l.length-n) i:=by
      apply Array.ext
      ·rw[inv.size];simp[zFB,zo];omega
      ·intro k h1 h2
       unfold zFB;have hkl:k<l.toArray.size:=by rw[<-inv.size];exact h1
       by_cases hkp:k=i
       ·exact J76 _
       ·have hpk:¬i=k:=λe=>hkp e.symm
        by_cases hk:k<n
        ·have:=hall k hk hkp
         simp only[Array.getD,h1,dif_pos] at this;rw[show listed[k]=true from this];exact J71 _
        ·have:=inv.tail k (by omega) hkl
         simp only[Array.getD,h1,dif_pos] at this;rw[show listed[k]=false from this];exact J71 _
     have hrp:i∈Region.ready .any l.toArray listed:=by rw[he];simpa using hrd
     obtain⟨op,hop,hQ,hy⟩:=hp hi1;obtain⟨v,hyv,hFp⟩:=hy vs gs W hR (λj hj hjp=>hF j hj (hall j hj hjp));have hop':l.toArray[i]?=some op:=by simpa using hop
     exact wpAny_first (P:=P) (ops:=l.toArray) (Q:=Q) (md:=.any) hop' (Region.noSelect_spec hsel) (λc a w=>hQ c a w v) (f+(l.length-n)) listed (zJ l vs a n) W (by rw[he];exact Region.free_spec hop' hfr) hrp hyv (adv i op v W hrp hi1 hop (yB _ _) hFp)
    obtain⟨iu,hiu,hiup,hiuu⟩:∃i,i<n/\i≠p/\listed.getD i true=false:=uP λhno=>hall λi hi hip=>by
     exact J130 _
    obtain⟨i0,hi0,hu0,hb0⟩:=zBN n (by omega:zBp listed n≠0)
    have hr0:i0∈Region.ready .any l.toArray listed:=by
     have hil:i0<l.length:=by omega
     rw[uW];refine⟨hu0,l[i0],by simp[hil],λe he hb=>?_⟩
     have h3:=hb0 e.on (hle hi0 (yL hil) e he hb);have h2:=hle hi0 (yL hil) e he hb;have h4:e.on<listed.size:=by rw[inv.size];simp;omega
     simpa [h4] using h3
    refine⟨λh0=>by exact J198 _,λi hi=>?_⟩
    have hin:i<n:=by
     rcases xR i n with h|h
     ·exact h
     ·exact absurd hi (zJQ hs hc (by simpa using hn) inv _ iu rfl hiup hiu hiuu i h)
    obtain⟨_,o,ho,hafter⟩:=uW.1 hi;have ho':l[i]?=some o:=by simpa using ho
    refine zB0 ho (hstep i o hin ho' vs gs W _ hR (λe he hb=>?_) (λv W' hR' hF'=>adv i o v W' hi hin ho' hR' hF'))
    have he:e∈o.after:=by simpa using he
    have h1:=hafter e he hb;have h2:=hle hin ho' e he hb;have h4:e.on<listed.size:=by rw[inv.size];simp;omega
    exact hF e.on (by omega) (by simpa [h4] using h1)
 refine wp_region_any hm ?_
 have inv0:HeadInv .any l.toArray n (Array.replicate l.toArray.size false):=
  ⟨by simp,λj oj _ hl=>(J200 _),λt _ ht=>getD_in (by simpa using ht) (vH _ _)⟩
 have hz:∀m,m<l.length->(Array.replicate l.toArray.size false).getD m true=false:=λm hm=>by simp[hm]
 have hcn:∀m,m<=l.length->zBp (Array.replicate l.toArray.size false) m=m:=by
  intro m
  induction m with
  | zero=>intro _;rfl
  | succ m ih =>
    intro hm
    unfold zBp;rw[ih (by omega),hz m (by omega)];simp
 have hno:∀j,j<n->(Array.replicate l.toArray.size false).getD j true=true->False:=λj hj hl=>by
  rw[hz j (by omega)] at hl;cases hl
 have:=key n (Array.replicate l.toArray.size false) (slotsOf l a) (λ_=>(0,0)) w.drew inv0 (hcn n (by omega)) (yB _ _) (λj hj hl=>(hno j hj hl).elim) (λj hj hl=>(hno j hj hl).elim) (λj hj hl=>(hno j hj hl).elim) (λi j hi hj _ hl _=>(hno i hi hl).elim)
 rw[zBx l a n,show n+(l.length-n)=l.toArray.size by simp;omega] at this;exact this
end
