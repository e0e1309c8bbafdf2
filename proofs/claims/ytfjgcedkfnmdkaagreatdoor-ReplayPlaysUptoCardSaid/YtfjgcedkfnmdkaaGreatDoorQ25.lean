/- Layer Q: texts joined. -/
import Derived.Test.YtfjgcedkfnmdkaaGreatDoorQ24
set_option linter.all false
namespace Go.Proofs.YtfjgcedkfnmdkaaGreatDoor
abbrev kR:=@ze.zCG
theorem J115 (P:Prop) (h:P:=by
 rw [ze.zCk _ _ e];rcases hd with hd | ⟨_,_,_,h1,hd⟩ | hd
 ·rw [hd];exact xC _
 ·exact hbeg _ hd h1
 ·omega):P:=h
def WFr.pot (f:WFr):Nat:=Ac.zh f.rest+Ac.zh f.all*(f.left - 1)
def zBb:List WFr -> Nat
 | []=>0
 | f :: r=>f.pot+zBb r
theorem zAk:(a b:List WFr) -> zBb (a++b)=zBb a+zBb b
 | [],b=>by simp [zBb]
 | x :: r,b=>by have:=zAk r b;simp only [kG,zBb,this];omega
theorem zLt {regs regs':List Int} {fs fs':List WFr} (h:zA8 regs fs=some (regs',fs')):zBb fs' <= zBb fs:=by
 unfold zA8 at h;cases hl:fs.getLast? with
 | none=>rw [hl] at h;cases h
 | some f =>
   have hs:=zAd hl
   have hm:zBb fs=zBb fs.dropLast+f.pot:=by
    have:=vP zBb hs
    rw [zAk] at this;simpa [zBb] using this
   rw [hl] at h;simp only at h;cases hr:f.rest with
   | nil =>
     rw [hr] at h;simp only [yM,uC] at h;obtain ⟨_,rfl⟩:=h;split
     ·rw [zAk,hm]
      simp only [zBb,WFr.pot,hr,Ac.zh];obtain ⟨q,hq⟩:∃ q,f.left - 1=q+1:=⟨f.left - 2,by omega⟩
      rw [hq,yd];simp only [Nat.add_sub_cancel,yg,yY,kP];omega
     ·omega
   | cons a r =>
     rw [hr] at h;have hf:f.pot=a.stp+Ac.zh r+Ac.zh f.all*(f.left - 1):=by simp only [WFr.pot,hr,Ac.zh]
     have ha:=Ac.zE5 a;simp only at h;split at h
     ·simp only [yM,uC] at h
      obtain ⟨_,rfl⟩:=h;rw [zAk,hm,hf];simp only [zBb,WFr.pot];omega
     ·rename_i h1
      rw [if_neg h1] at ha;split at h
      ·rename_i h10
       rw [if_pos h10] at ha;simp only [yM,uC] at h;obtain ⟨_,rfl⟩:=h;rw [zAk,zAk,hm,hf];simp only [zBb,WFr.pot];split <;> omega
      ·rename_i h10
       split at h
       ·rename_i h11
        rw [if_neg h10,if_pos h11] at ha;simp only [yM,uC] at h;obtain ⟨_,rfl⟩:=h;split
        ·rename_i hc
         rw [zAk,zAk,hm,hf];simp only [zBb,WFr.pot];obtain ⟨q,hq⟩:∃ q,a.count.toNat=q+1:=⟨a.count.toNat - 1,by omega⟩
         rw [hq] at ha ⊢;rw [yd] at ha;simp only [Nat.add_sub_cancel,yg] at ha ⊢;omega
        ·rw [zAk,hm,hf]
         simp only [zBb,WFr.pot];omega
       ·cases h
theorem zJI (r:List Int) (fs:List WFr):zBb (loc r fs).2 <= zBb fs :=
 (zJW (P:=fun _ fs'=>zBb fs' <= zBb fs) (fun _ _ _ _ h h1=>yX (zLt h1) h) (xC _)).1
def WTh.pot (b:Bd) (t:WTh):Nat:=if t.st=1 then Ac.zh b.acts+1 else if t.st=2 then zBb t.fs+1 else 0
def zFw (f:Nat -> Nat):Nat -> Nat
 | 0=>0
 | n+1=>zFw f n+f n
theorem zG1 {f g:Nat -> Nat}:(n:Nat) -> (∀ i,i < n -> f i <= g i) -> zFw f n <= zFw g n
 | 0,_=>xC _
 | n+1,h=>by
   have h1:=zG1 n (fun i hi=>h i (by omega));have h2:=h n (by omega);simp only [zFw];omega
theorem zJG {f g:Nat -> Nat} {k:Nat}:(n:Nat) -> k < n -> (∀ i,i < n -> f i <= g i) -> f k < g k -> zFw f n < zFw g n
 | 0,h,_,_=>absurd h (vV _)
 | n+1,hk,h,hl=>by
   have h2:=h n (by omega);simp only [zFw];by_cases e:k=n
   ·subst e
    have h1:=zG1 k (fun i hi=>h i (by omega));omega
   ·have h1:=zJG n (by omega) (fun i hi=>h i (by omega)) hl
    omega
def zDC (u:Un) (m:ze):Nat:=zFw (fun i=>(m.get i).pot (u.body i)) m.zL.length
theorem zJO (l:List Bd):(n:Nat) -> n <= l.length -> unS (l.take n)=zFw (fun i=>Ac.zh (l.getD i ⟨0,[]⟩).acts+1) n
 | 0,_=>by simp [unS,zFw]
 | n+1,h=>by
   rw [zDb (by omega),zJO l n (by omega)];simp only [zFw,List.getD];rw [yQ (by omega)];rfl
theorem zHt (b:Bd):(zEW b).pot b <= Ac.zh b.acts+1:=by
 have h:=zJI (List.replicate b.regs.toNat 0) [⟨b.acts,b.acts,1⟩];unfold WTh.pot zEW WTh.local;simp only
 simp only [zBb,WFr.pot,yi,Nat.mul_zero] at h;simp
 omega
theorem zFh (u:Un):(zAi u).zL=(u.threads.map fun _=>(⟨1,[],[]⟩:WTh)).set 0 (zEW (u.body 0)):=rfl
theorem zK2 (u:Un):zDC u (zAi u) <= unS u.threads:=by
 have h:=zJO u.threads u.threads.length (xC _);rw [xV] at h;have hl:(zAi u).zL.length=u.threads.length:=by rw [zFh];simp
 rw [h];unfold zDC;rw [hl];refine zG1 _ (fun i hi=>?_)
 have hg:((zAi u).get i).pot (u.body i) <= Ac.zh (u.body i).acts+1:=by
  by_cases e:i=0
  ·subst e
   have:(zAi u).get 0=zEW (u.body 0):=ze.get_eq (by rw [zFh];exact yU (by simp;omega))
   rw [this];exact zHt _
  ·have:(zAi u).get i=⟨1,[],[]⟩:=ze.get_eq (by rw [zFh,uK (fun h=>e h.symm)];simp [hi])
   rw [this];simp [WTh.pot]
 exact hg
theorem zOB {t:WTh} {a:Ac} {f:WFr} {r:List Ac} (h1:t.fs.getLast?=some f) (h2:f.rest=a :: r) (hk:2 <= a.kind /\ a.kind <= 9):zBb t.on.local.fs < zBb t.fs:=by
 have hs:=zAd h1
 have hm:zBb t.fs=zBb t.fs.dropLast+f.pot:=by
  have:=vP zBb hs
  rw [zAk] at this;simpa [zBb] using this
 have e:t.on.fs=t.fs.dropLast++[⟨r,f.all,f.left⟩]:=by unfold WTh.on;rw [h1];simp [h2]
 have h3:zBb t.on.local.fs <= zBb t.on.fs:=zJI _ _;have ha:=Ac.zE5 a;rw [if_neg (by omega),if_neg (by omega),if_neg (by omega)] at ha;rw [e,zAk] at h3;have hf:f.pot=a.stp+Ac.zh r+Ac.zh f.all*(f.left - 1):=by simp only [WFr.pot,h2,Ac.zh]
 simp only [zBb,WFr.pot] at h3;omega
theorem zGT {u:Un} {m:ze} {i j:Nat} (hij:i ≠ j) (a:Ac):(doM u m i a).1.get j=m.get j \/ (a.kind=7 /\ a.obj.toNat=j /\ (doM u m i a).2.2=0 /\ (m.get j).st=1 /\ (doM u m i a).1.get j=zEW (u.body j)) \/ m.zL.length <= j:=by
 have hs:∀ (c:List Int) (o:List Int) (t:WTh),(ze.zAS ⟨c,o,m.zL⟩ i t).get j=m.get j:=fun c o t=>ze.zCk _ _ hij
 unfold doM;simp only
 split
 ·exact .inl (hs _ _ _)
 ·split
  ·exact .inl rfl
  ·split
   ·exact .inl (hs _ _ _)
   ·split
    ·exact .inl rfl
    ·split
     ·split <;> exact .inl rfl
     ·split
      ·rename_i h7
       split
       ·rename_i q
        by_cases e:a.obj.toNat=j
        ·rw [e] at q ⊢
         by_cases hj:j < m.zL.length
         ·exact .inr (.inl ⟨h7,rfl,rfl,q,kR _ _ _ hj⟩)
         ·exact .inr (.inr (by omega))
        ·exact .inl (ze.zCk _ _ e)
       ·exact .inl rfl
      ·split
       ·split <;> exact .inl rfl
       ·exact .inl rfl
theorem zKP {u:Un} (hr:zW u=true) {m:ze} (h:m.ok u) {i:Nat} (hi:i < m.zL.length) (h2:(m.get i).st=2):zDC u (zAg u m i).1 < zDC u m:=by
 have hlen:=(zFa hr h hi h2).2;obtain ⟨b,hb,hok,hbe⟩:=h.th hi;unfold zDC;rw [hlen]
 have hself:((zAg u m i).1.get i).pot (u.body i) < (m.get i).pot (u.body i):=by
  have hp:(m.get i).pot (u.body i)=zBb (m.get i).fs+1:=by unfold WTh.pot;rw [h2];rfl
  rw [hp];unfold zAg;cases hn:(m.get i).next with
  | none =>
    simp only
    rw [kR _ _ _ hi];unfold WTh.pot;simp
  | some a =>
    obtain ⟨s1,s2⟩:=zDk (u:=u) hi h2 a;have hi':i < (doM u m i a).1.zL.length:=by rw [(zF3 hr h hi a).2];exact hi
    simp only
    split
    ·rw [kR _ _ _ hi']
     unfold WTh.pot;simp
    ·rw [kR _ _ _ hi']
     obtain ⟨h3,h4⟩ | ⟨a',f,r,h3,h4,h5,h6,h7⟩:=zC9 (hok.2.2 h2) (hok.2.1 (by rw [h2];decide)).2
     ·rw [h3] at hn;cases hn
     ·rw [hn] at h3;cases h3
      have hst:((doM u m i a).1.get i).on.local.st=2:=by
       show ((doM u m i a).1.get i).on.st=2
       unfold WTh.on;split <;> exact s1
      have h8:=zOB (t:=(doM u m i a).1.get i) (by rw [s2];exact h4) h5 h7;unfold WTh.pot;rw [hst];simp only [Int.reduceEq,if_false,if_true];rw [s2] at h8;omega
 refine zJG _ hi (fun j hj=>?_) hself
 by_cases e:i=j
 ·subst e;exact Nat.le_of_lt hself
 have hbeg:∀ t:WTh,t=zEW (u.body j) -> (m.get j).st=1 -> t.pot (u.body j) <= (m.get j).pot (u.body j):=fun t ht h1=>by
  rw [ht];refine yX (zHt _) ?_
  unfold WTh.pot;rw [h1];simp
 show ((zAg u m i).1.get j).pot (u.body j) <= (m.get j).pot (u.body j)
 unfold zAg;cases hn:(m.get i).next with
 | none=>simp only;rw [ze.zCk _ _ e];exact xC _
 | some a =>
   simp only
   have hd:=zGT (u:=u) (m:=m) e a;split
   ·exact J115 _
   ·exact J115 _
theorem ze.ok.run {u:Un} {m:ze} (h:m.ok u) {i:Int} (h0:zBP m i=0):0 <= i /\ i.toNat < m.zL.length /\ (m.get i.toNat).st=2:=by
 obtain ⟨h1,h2,h3,h4,h5,_⟩:=zFB h0;have hi:i.toNat < m.zL.length:=by omega
 obtain ⟨b,_,hok,_⟩:=h.th hi;exact ⟨h1,hi,by exact J237 _⟩
theorem zJk {u:Un} (hr:zW u=true) {m:ze} (h:m.ok u) {i:Int} (h0:zBP m i=0):zDC u (stepM u m i).1 < zDC u m:=by
 obtain ⟨h1,hi,h2⟩:=h.run h0;unfold stepM;rw [if_pos h0];exact zKP hr h hi h2
theorem zKC {u:Un} {m:ze} (h:m.ok u) {i:Int} (hi:i ∈ zBM m):zBP m i=0:=by
 unfold zBM at hi;obtain ⟨k,hk,rfl⟩:=List.mem_map.1 hi;obtain ⟨hk1,hk2⟩:=List.mem_filter.1 hk;have hlt:=xU.1 hk1;obtain ⟨b,_,hok,_⟩:=h.th hlt
 have h2:(m.get k).st=2:=by
  refine uW fun hn=>?_
  have:zAY m k=false:=by unfold zAY zAP;simp [hn]
  rw [this] at hk2;cases hk2
 unfold zBP;rw [if_neg (by omega)];simp [h2,hk2]
def ze.idle (m:ze):Prop:=∀ j,j < m.zL.length -> (m.get j).st=1 -> (m.get j).fs=[]
theorem zKU {u:Un} (hr:zW u=true):(zAi u).idle:=by
 intro j hj h1
 have hb:=(zHK hr).zL;by_cases h0:j=0
 ·subst h0
  have h8:0 < u.threads.length:=by have:=(zAw hr).1;omega
  have e:(zAi u).get 0=zEW (u.body 0):=by unfold zAi zEM;exact kR _ _ _ (by simpa using h8)
  rw [e] at h1;unfold zEW at h1;cases h1
 ·have e:(zAi u).get j=(⟨1,[],[]⟩:WTh):=by
   unfold zAi zEM;rw [ze.zCk _ _ (fun h=>h0 h.symm)];have hj':j < u.threads.length:=by rw [<- hb];exact hj
   simp [ze.get,List.getD,hj']
  rw [e]
theorem zIl {u:Un} (hr:zW u=true) {m:ze} (h:m.ok u) (hi:m.idle) (i:Int):(stepM u m i).1.idle:=by
 unfold stepM;by_cases h0:zBP m i=0
 ·rw [if_pos h0]
  obtain ⟨_,hl,h2⟩:=h.run h0;generalize i.toNat=k at hl h2;have hlen:=(zFa hr h hl h2).2;intro j hj h1
  rw [hlen] at hj;show ((zAg u m k).1.get j).fs=[]
  replace h1:((zAg u m k).1.get j).st=1:=h1
  have key:∀ (m1:ze) (t:WTh),m1.zL.length=m.zL.length -> t.st ≠ 1 -> (∀ q,q ≠ k -> q < m.zL.length -> (m1.get q).st=1 -> (m1.get q).fs=[]) -> ((m1.zAS k t).get j).st=1 -> ((m1.zAS k t).get j).fs=[]:=by
   intro m1 t hl1 ht ho h1
   by_cases e:j=k
   ·subst e
    rw [kR _ _ _ (by rw [hl1];exact hl)] at h1;exact absurd h1 ht
   ·rw [ze.zCk _ _ (fun h=>e h.symm)] at h1 ⊢
    exact ho j e hj h1
  revert h1
  unfold zAg;cases hn:(m.get k).next with
  | none =>
    simp only
    exact key m _ rfl (by show (3:Int) ≠ 1;decide) (fun q _ hq=>hi q hq)
  | some a =>
    simp only
    have hd:=(zF3 hr h hl a).2;have hs:=(zDk (u:=u) hl h2 a).1
    have ho:∀ q,q ≠ k -> q < m.zL.length -> ((doM u m k a).1.get q).st=1 -> ((doM u m k a).1.get q).fs=[]:=fun q hq hlq hq1=>by
     rcases zGT (u:=u) (m:=m) (fun e=>hq e.symm) a with e | ⟨_,_,_,_,e⟩ | e
     ·rw [e] at hq1 ⊢;exact hi q hlq hq1
     ·rw [e] at hq1;unfold zEW at hq1;cases hq1
     ·omega
    split
    ·exact key _ _ hd (by show (4:Int) ≠ 1;decide) ho
    ·refine key _ _ hd ?_ ho
     have e:((doM u m k a).1.get k).on.local.st=2:=by
      unfold WTh.local WTh.on;split <;> exact hs
     rw [e];decide
 ·rw [if_neg h0];exact hi
structure zDW where
 t:Int
 c:Int
 e:Evt
def plN (u:Un):ze -> List Int -> List zDW × ze
 | m,[]=>([],m)
 | m,t :: r=>(⟨t,(stepM u m t).2.2,(stepM u m t).2.1⟩ :: (plN u (stepM u m t).1 r).1,(plN u (stepM u m t).1 r).2)
theorem zHv (u:Un):∀ (l:List Int) (m:ze) (t:Int),plN u m (l++[t])=((plN u m l).1++[⟨t,(stepM u (plN u m l).2 t).2.2,(stepM u (plN u m l).2 t).2.1⟩],(stepM u (plN u m l).2 t).1):=by
 intro l
 induction l with
 | nil=>intro m t;rfl
 | cons a r ih=>intro m t;simp only [kG,plN,ih]
theorem zFZ (u:Un):∀ (l:List Int) (m:ze),(plN u m l).1.length=l.length:=by
 intro l
 induction l with
 | nil=>intro m;rfl
 | cons a r ih=>intro m;simp only [plN,xZ,ih]
def chN (ch:List Int) (k n:Nat):Nat:=if k < ch.length then (ch.getD k 0 % (n:Int)).toNat else 0
theorem zLu (ch:List Int) (k:Nat) {n:Nat} (h:0 < n):chN ch k n < n:=by
 unfold chN;split
 ·have h1:=Int.emod_nonneg (ch.getD k 0) (b:=(n:Int)) (by omega)
  have h2:=Int.emod_lt_of_pos (ch.getD k 0) (b:=(n:Int)) (by omega);omega
 ·exact h
def whT (ch:List Int) (k:Nat) (m:ze):Int:=(zBM m).getD (chN ch k (zBM m).length) 0
def whN (u:Un) (ch:List Int):Nat -> Nat -> ze -> List Evt × ze
 | 0,_,m=>([],m)
 | f+1,k,m=>if zBM m=[] then ([],m) else ((stepM u m (whT ch k m)).2.1 :: (whN u ch f (k+1) (stepM u m (whT ch k m)).1).1,(whN u ch f (k+1) (stepM u m (whT ch k m)).1).2)
theorem zM0 (ch:List Int) (k:Nat) {m:ze} (h:zBM m ≠ []):whT ch k m ∈ zBM m:=by
 unfold whT
 have hl:0 < (zBM m).length:=by cases hm:zBM m with
  | nil=>exact absurd hm h
  | cons=>simp
 have:=zLu ch k hl
 simp [List.getD,this]
theorem zL4 {u:Un} (hr:zW u=true) (ch:List Int) {f k:Nat} {m:ze} (hm:m.ok u) (he:zBM m ≠ []) (hf:zDC u m <= f) :
 ∃ f',whN u ch f k m=((stepM u m (whT ch k m)).2.1 :: (whN u ch f' (k+1) (stepM u m (whT ch k m)).1).1,(whN u ch f' (k+1) (stepM u m (whT ch k m)).1).2) /\ zDC u (stepM u m (whT ch k m)).1 <= f' /\ zDC u (stepM u m (whT ch k m)).1 < zDC u m /\ zBP m (whT ch k m)=0:=by
 have h0:=zKC hm (zM0 ch k he);have hp:=zJk hr hm h0;cases f with
 | zero=>omega
 | succ f=>exact ⟨f,by rw [whN,if_neg he],by omega,hp,h0⟩
theorem zMi {u:Un} (hr:zW u=true) (ch:List Int) {f k:Nat} {m:ze} (he:zBM m=[]):whN u ch f k m=([],m):=by
 cases f with
 | zero=>rfl
 | succ f=>rw [whN,if_pos he]
def whole (u:Un) (ch:List Int):List Evt × ze:=whN u ch (zDC u (zAi u)) 0 (zAi u)
end Go.Proofs.YtfjgcedkfnmdkaaGreatDoor
namespace Go.Proofs.YtfjgcedkfnmdkaaGreatDoor
open Go.RowKit
def zFl (gs:Nat -> Nat × Nat) (i:Nat) (p:Nat × Nat) (j:Nat):Nat × Nat:=if j=i then p else gs j
def zEg (md:Region.Mode) (l:List Oper) (n:Nat) (D:Nat -> List Nat):Bool :=
 (List.range n).all fun i=>((l[i]?).map fun o=>(D i).all fun a=>decide (a=i) || o.after.any fun e=>Region.binds md e&&(D e.on).contains a).getD true
def zMK (md:Region.Mode) (ops:Array Oper) (n p:Nat):Bool :=
 (List.range n).all fun i=>decide (i=p) || (List.range (n+1)).any fun j=>decide (i < j)&&decide (j ≠ p)&&Region.waitsFor md ops j i
theorem zHU {md:Region.Mode} {ops:Array Oper} {n p:Nat} {listed:Array Bool} (hs:zMK md ops n p=true) (hc:Region.chainB md ops n=true) (hn:n < ops.size) (inv:HeadInv md ops n listed) :
 ∀ (d i:Nat),n - i=d -> i ≠ p -> i < n -> listed.getD i true=false -> ∀ t,n <= t -> t ∉ Region.ready md ops listed:=by
 intro d
 induction d using Nat.strongRecOn with
 | _ d ih =>
   intro i hd hip hi hun t ht hr
   obtain ⟨_,ot,hot,hall⟩:=vD.1 hr;have htlt:t < ops.size:=(Array.getElem?_eq_some_iff.1 hot).1;by_cases htn:t=n
   ·exact J24 _
   ·exact J27 _
def zEr (n g p:Nat):Array Bool:=(zn n g).setIfInBounds p false
def zIM (md:Region.Mode) (l:List Oper) (n p:Nat):Bool :=
 decide (n < l.length)&&zMK md l.toArray n p&&Region.chainB md l.toArray n&&zJg md l n&&((List.range (n+1)).all fun m=>zB6 l m)&&Region.seqB md l.toArray (l.length - n) n (zn n (l.length - n)) &&
  (decide (n <= p) || (Region.free md l.toArray (zEr n (l.length - n) p) p&&(Region.ready md l.toArray (zEr n (l.length - n) p)).contains p&&Region.noSelect l.toArray))
section
variable {P:Program}
theorem zMc {id:Nat} {Q:Exit -> Act -> World -> Prop} {a:Act} {w:World} {l:List Oper} (n p:Nat) (hm:P.follows .mixedOrders=true) (hB:zIM .any l n p=true) (D:Nat -> List Nat) (hDB:zEg .any l n D=true)
 (F:Nat -> Value -> (Nat -> Nat × Nat) -> World -> Prop) (hst:∀ j v gs W W',F j v gs W -> Keeps zA W W' -> F j v gs W') (hloc:∀ j v gs gs' W,(∀ a,a ∈ D j -> gs a=gs' a) -> F j v gs W -> F j v gs' W)
 (hp:p < n -> ∃ op,l[p]?=some op /\ (∀ c a w v,Q (.panic c) (a.put op.dst v) w -> Q (.panic c) a w) /\ ∀ (vs:Nat -> Value) gs W,Keeps zA w.drew W -> (∀ j,j < n -> j ≠ p -> F j (vs j) gs W) -> ∃ v,Yields P l.toArray op v (zJ l vs a n) /\ F p v (zFl gs p (W.heap.size,W.heap.size)) W)
 (hstep:∀ i o,i < n -> l[i]?=some o -> ∀ (vs:Nat -> Value) (gs:Nat -> Nat × Nat) (W:World) (Q':Exit -> Act -> World -> Prop),Keeps zA w.drew W -> (∀ e,e ∈ o.after.toList -> Region.binds .any e=true -> F e.on (vs e.on) gs W) →
   (∀ v W',Keeps zA W W' -> F i v (zFl gs i (W.heap.size,W'.heap.size)) W' -> Q' .normal ((zJ l vs a n).put o.dst v) W') -> wpList P l.toArray Q' [o] (zJ l vs a n) W)
 (htail:∀ (vs:Nat -> Value) (gs:Nat -> Nat × Nat) (W:World),Keeps zA w.drew W -> (∀ j,j < n -> F j (vs j) gs W) -> (∀ j,j < n -> (gs j).2 <= W.heap.size) -> (∀ i j,i < n -> j < n -> i ≠ j -> (gs i).2 <= (gs j).1 \/ (gs j).2 <= (gs i).1) -> wpList P l.toArray Q (l.drop n) (zJ l vs a n) W):(Code.region id l.toArray true).wp P Q a w:=by
 simp only [zIM,yT,kN,yV,xH,xU] at hB;obtain ⟨⟨⟨⟨⟨⟨hn,hs⟩,hc⟩,hback⟩,hdis⟩,hseq⟩,hpB⟩:=hB
 have key:∀ (f:Nat) (listed:Array Bool) (vs:Nat -> Value) (gs:Nat -> Nat × Nat) (W:World),HeadInv .any l.toArray n listed -> zBq listed n=f -> Keeps zA w.drew W -> (∀ j,j < n -> listed.getD j true=true -> F j (vs j) gs W) -> (∀ j,j < n -> listed.getD j true=true -> ∀ a,a ∈ D j -> listed.getD a true=true) -> (∀ j,j < n -> listed.getD j true=true -> (gs j).2 <= W.heap.size) -> (∀ i j,i < n -> j < n -> i ≠ j -> listed.getD i true=true -> listed.getD j true=true -> (gs i).2 <= (gs j).1 \/ (gs j).2 <= (gs i).1) →
  wpAny P .any l.toArray Q (f+(l.length - n)) listed (zJ l vs a n) W:=by
  intro f
  induction f with
  | zero =>
    intro listed vs gs W inv hcnt hR hF hL hG hD
    have hall:=zB4 n hcnt
    have he:listed=zn n (l.length - n):=by
     exact J9 _
    have h1:=htail vs gs W hR (fun j hj=>hF j hj (hall j hj)) (fun j hj=>hG j hj (hall j hj)) (fun i j hi hj hne=>hD i j hi hj hne (hall i hi) (hall j hj));have hdl:(l.drop n).length=l.length - n:=by simp
    have:=wpAny_of_seq (P:=P) (md:=.any) (ops:=l.toArray) (Q':=Q) (l.drop n) n listed (zJ l vs a n) W (fun j=>by simp [yj]) (by rw [hdl,he];exact hseq) h1
    rw [hdl] at this;rw [yY];exact this
  | succ f ih =>
    intro listed vs gs W inv hcnt hR hF hL hG hD
    have hle:∀ {i o},i < n -> l[i]?=some o -> ∀ e,e ∈ o.after -> Region.binds .any e=true -> e.on < i:=fun {i o} hin ho' e he hb=>by
     have h1:=xH.1 hback i (xU.2 hin);simp only [ho',vE,kY,vA] at h1;have h2:=h1 e he;simpa only [hb,Bool.not_true,Bool.false_or,yV] using h2
    have adv:∀ i o v W',i ∈ Region.ready .any l.toArray listed -> i < n -> l[i]?=some o -> Keeps zA W W' -> F i v (zFl gs i (W.heap.size,W'.heap.size)) W' -> wpAny P .any l.toArray Q (f+(l.length - n)) (listed.setIfInBounds i true) ((zJ l vs a n).put o.dst v) W':=by
     intro i o v W' hi hin ho' hR' hF'
     have hun:=(vD.1 hi).1;obtain ⟨_,o2,ho2,hafter⟩:=vD.1 hi;have ho2':l[i]?=some o2:=by simpa using ho2
     have e2:o2=o:=yn (ho2'.symm.trans ho');subst e2;have hd:o2.dst=(l[i]?).bind (·.dst):=by rw [ho'];rfl
     rw [hd,zBT v n vs hin (hdis n (by omega)) (fun m hm=>hdis m (by omega))];refine ih _ _ (zFl gs i (W.heap.size,W'.heap.size)) _ (inv.set hi hin) ?_ (hR.trans hR' (fun _ _ h=>h.elim)) (fun j hj hl=>?_) (fun j hj hl b hb=>?_) (fun j hj hl=>?_) (fun i1 j1 hi1 hj1 hne hl1 hl2=>?_)
     ·exact J77 _
     ·exact J56 _
     ·by_cases eb:b=i
      ·subst eb
       by_cases hs2:b < listed.size
       ·simp [hs2]
       ·simp [hs2]
      ·rw [uL true (fun h=>eb h.symm)]
       by_cases e:j=i
       ·subst e
        have h1:=xH.1 hDB j (xU.2 hin);simp only [ho',vE,kY,xH] at h1;have h2:=h1 b hb;simp only [kN,yV,Array.any_eq_true',yT,List.contains_iff_mem] at h2;rcases h2 with h2 | ⟨e,he,hbe,h3⟩
        ·exact absurd h2 eb
        ·have h4:=hafter e he hbe
         have h6:=hle hin ho' e he hbe;exact J122 _
       ·rw [uL true (fun h=>e h.symm)] at hl
        exact hL j hj hl b hb
     ·by_cases e:j=i
      ·subst e;unfold zFl;rw [if_pos rfl];exact xC _
      ·rw [uL true (fun h=>e h.symm)] at hl
       unfold zFl;rw [if_neg e];exact yX (hG j hj hl) hR'.size
     ·by_cases e1:i1=i
      ·subst e1
       have e2:¬ j1=i1:=fun h=>hne h.symm
       rw [uL true hne] at hl2;unfold zFl;rw [if_pos rfl,if_neg e2];exact .inr (hG j1 hj1 hl2)
      ·rw [uL true (fun h=>e1 h.symm)] at hl1
       by_cases e2:j1=i
       ·subst e2
        unfold zFl;rw [if_pos rfl,if_neg e1];exact .inl (hG i1 hi1 hl1)
       ·rw [uL true (fun h=>e2 h.symm)] at hl2
        unfold zFl;rw [if_neg e1,if_neg e2];exact hD i1 j1 hi1 hj1 hne hl1 hl2
    rw [show f+1+(l.length - n)=(f+(l.length - n))+1 by omega];by_cases hall:∀ i,i < n -> i ≠ p -> listed.getD i true=true
    ·obtain ⟨i,hi1,hup,_⟩:=zBW n (by omega:zBq listed n ≠ 0)
     have ei:i=p:=uW fun ei=>by rw [hall i hi1 ei] at hup;cases hup
     subst ei;rcases hpB with hpB | ⟨⟨hfr,hrd⟩,hsel⟩
     ·omega
     have he:listed=zEr n (l.length - n) i:=by
      apply Array.ext
      ·rw [inv.size];simp [zEr,zn];omega
      ·intro k h1 h2
       unfold zEr;have hkl:k < l.toArray.size:=by rw [<- inv.size];exact h1
       by_cases hkp:k=i
       ·exact J79 _
       ·have hpk:¬ i=k:=fun e=>hkp e.symm
        by_cases hk:k < n
        ·have:=hall k hk hkp
         simp only [Array.getD,h1,dif_pos] at this;rw [show listed[k]=true from this];exact J74 _
        ·have:=inv.tail k (by omega) hkl
         simp only [Array.getD,h1,dif_pos] at this;rw [show listed[k]=false from this];exact J74 _
     have hrp:i ∈ Region.ready .any l.toArray listed:=by rw [he];simpa using hrd
     obtain ⟨op,hop,hQ,hy⟩:=hp hi1;obtain ⟨v,hyv,hFp⟩:=hy vs gs W hR (fun j hj hjp=>hF j hj (hall j hj hjp));have hop':l.toArray[i]?=some op:=by simpa using hop
     exact wpAny_first (P:=P) (ops:=l.toArray) (Q:=Q) (md:=.any) hop' (Region.noSelect_spec hsel) (fun c a w=>hQ c a w v) (f+(l.length - n)) listed (zJ l vs a n) W (by rw [he];exact Region.free_spec hop' hfr) hrp hyv (adv i op v W hrp hi1 hop (yC _ _) hFp)
    obtain ⟨iu,hiu,hiup,hiuu⟩:∃ i,i < n /\ i ≠ p /\ listed.getD i true=false:=uW fun hno=>hall fun i hi hip=>by
     exact J139 _
    obtain ⟨i0,hi0,hu0,hb0⟩:=zBW n (by omega:zBq listed n ≠ 0)
    have hr0:i0 ∈ Region.ready .any l.toArray listed:=by
     have hil:i0 < l.length:=by omega
     rw [vD];refine ⟨hu0,l[i0],by simp [hil],fun e he hb=>?_⟩
     have h3:=hb0 e.on (hle hi0 (yQ hil) e he hb);have h2:=hle hi0 (yQ hil) e he hb;have h4:e.on < listed.size:=by rw [inv.size];simp;omega
     simpa [h4] using h3
    refine ⟨fun h0=>by exact J209 _,fun i hi=>?_⟩
    have hin:i < n:=by
     rcases xR i n with h | h
     ·exact h
     ·exact absurd hi (zHU hs hc (by simpa using hn) inv _ iu rfl hiup hiu hiuu i h)
    obtain ⟨_,o,ho,hafter⟩:=vD.1 hi;have ho':l[i]?=some o:=by simpa using ho
    refine zBy ho (hstep i o hin ho' vs gs W _ hR (fun e he hb=>?_) (fun v W' hR' hF'=>adv i o v W' hi hin ho' hR' hF'))
    have he:e ∈ o.after:=by simpa using he
    have h1:=hafter e he hb;have h2:=hle hin ho' e he hb;have h4:e.on < listed.size:=by rw [inv.size];simp;omega
    exact hF e.on (by omega) (by simpa [h4] using h1)
 refine wp_region_any hm ?_
 have inv0:HeadInv .any l.toArray n (Array.replicate l.toArray.size false) :=
  ⟨by simp,fun j oj _ hl=>(J211 _),fun t _ ht=>getD_in (by simpa using ht) (vQ _ _)⟩
 have hz:∀ m,m < l.length -> (Array.replicate l.toArray.size false).getD m true=false:=fun m hm=>by simp [hm]
 have hcn:∀ m,m <= l.length -> zBq (Array.replicate l.toArray.size false) m=m:=by
  intro m
  induction m with
  | zero=>intro _;rfl
  | succ m ih =>
    intro hm
    unfold zBq;rw [ih (by omega),hz m (by omega)];simp
 have hno:∀ j,j < n -> (Array.replicate l.toArray.size false).getD j true=true -> False:=fun j hj hl=>by
  rw [hz j (by omega)] at hl;cases hl
 have:=key n (Array.replicate l.toArray.size false) (slotsOf l a) (fun _=>(0,0)) w.drew inv0 (hcn n (by omega)) (yC _ _) (fun j hj hl=>(hno j hj hl).elim) (fun j hj hl=>(hno j hj hl).elim) (fun j hj hl=>(hno j hj hl).elim) (fun i j hi hj _ hl _=>(hno i hi hl).elim)
 rw [zBs l a n,show n+(l.length - n)=l.toArray.size by simp;omega] at this;exact this
end
end Go.Proofs.YtfjgcedkfnmdkaaGreatDoor
