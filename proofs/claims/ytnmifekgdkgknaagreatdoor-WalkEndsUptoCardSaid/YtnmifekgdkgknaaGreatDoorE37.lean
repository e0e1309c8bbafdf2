/- Layer E: texts joined. -/
import Derived.Test.YtnmifekgdkgknaaGreatDoorE23
import Derived.Test.YtnmifekgdkgknaaGreatDoorE36
import Derived.Test.YtnmifekgdkgknaaGreatDoorE28
import Derived.Test.YtnmifekgdkgknaaGreatDoorE29
set_option linter.unusedVariables false
set_option linter.unusedSimpArgs false
set_option linter.unnecessarySimpa false
namespace Go.Proofs.YtnmifekgdkgknaaGreatDoor
open Go.RowKit
def unS:List Bd -> Nat
  | []=>0
  | b :: r=>(Ac.stpL b.acts+1)+unS r
def unW:List Bd -> Nat
  | []=>0
  | b :: r=>(Ac.wrkL b.acts+1)+unW r
theorem unS_le:(bs:List Bd) -> unS bs <= unW bs
  | []=>Nat.le_refl _
  | b :: r=>by
    have h1:=Ac.stpL_le b.acts
    have h2:=unS_le r
    simp only [unS,unW];omega
theorem unS_append:(a b:List Bd) -> unS (a++b)=unS a+unS b
  | [],b=>by simp [unS]
  | x :: r,b=>by have:=unS_append r b;simp only [List.cons_append,unS,this];omega
theorem unW_append:(a b:List Bd) -> unW (a++b)=unW a+unW b
  | [],b=>by simp [unW]
  | x :: r,b=>by have:=unW_append r b;simp only [List.cons_append,unW,this];omega
theorem unS_take {l:List Bd} {i:Nat} (hi:i < l.length):unS (l.take (i+1))=unS (l.take i)+(Ac.stpL l[i].acts+1):=by
  rw [take_at hi,unS_append];simp [unS]
theorem unW_take {l:List Bd} {i:Nat} (hi:i < l.length):unW (l.take (i+1))=unW (l.take i)+(Ac.wrkL l[i].acts+1):=by
  rw [take_at hi,unW_append];simp [unW]
theorem unS_part (l:List Bd) (i:Nat):unS (l.take i) <= unS l:=by
  have h:=unS_append (l.take i) (l.drop i)
  rw [List.take_append_drop] at h;omega
theorem unW_part (l:List Bd) (i:Nat):unW (l.take i) <= unW l:=by
  have h:=unW_append (l.take i) (l.drop i)
  rw [List.take_append_drop] at h;omega
def bsOk (bs:List Bd):Prop:=∀ b,b ∈ bs -> Ac.okcL b.acts
theorem bsOk_right {u:Un} (h:rightU u=true):bsOk u.threads:=by
  intro b hb
  have h1:Ac.mayL u b.regs b.acts=true:=by
    rcases hq:Ac.mayL u b.regs b.acts
    · rw [right_no4 hb hq] at h;cases h
    · rfl
  exact Ac.okcL_may u b.regs b.acts h1
theorem unW_lt:(bs:List Bd) -> bsOk bs -> unW bs+1 <= 2 ^ (11*bsSz bs)
  | [],_=>by simp [unW,bsSz]
  | b :: r,h=>by
    have h1:=Ac.wrkL_lt b.acts (h b List.mem_cons_self)
    have h2:=unW_lt r (fun x hx=>h x (List.mem_cons_of_mem _ hx))
    have e0:bsSz (b :: r)=1+Ac.szL b.acts+bsSz r:=rfl
    have e:11*bsSz (b :: r)=(11+11*Ac.szL b.acts)+11*bsSz r:=by rw [e0];omega
    rw [e,Nat.pow_add,Nat.pow_add]
    simp only [unW]
    generalize 2 ^ (11*Ac.szL b.acts)=A at h1 ⊢
    generalize 2 ^ (11*bsSz r)=B at h2 ⊢
    have h3:A+B <= A*B+1:=by
      have ha:1 <= A:=by omega
      have hb:1 <= B:=by omega
      obtain ⟨a,rfl⟩:∃ a,A=a+1:=⟨A - 1,by omega⟩
      obtain ⟨b,rfl⟩:∃ b,B=b+1:=⟨B - 1,by omega⟩
      rw [Nat.add_mul,Nat.mul_add]
      omega
    have h4:2 ^ 11*A*B=2048*(A*B):=by rw [Nat.mul_assoc]
    have h5:A <= A*B:=Nat.le_mul_of_pos_right A (by omega)
    rw [h4]
    omega
theorem un_dlen {b:Nat} (hb:2 <= b) {bs:List Bd} (h:bsOk bs) (hs:bsSz bs < 900000000) (hl:bs.length < 1000000000) {m:Nat} (hm:m <= unW bs+1):(dig b m).length <= 12000000000:=by
  have h1:=unW_lt bs h
  have h2:m < b ^ (11*bsSz bs+1):=by
    have h3:=pow_mono2 (n:=11*bsSz bs) hb
    have h4:0 < b ^ (11*bsSz bs):=Nat.pow_pos (by omega)
    have h5:2*b ^ (11*bsSz bs) <= b*b ^ (11*bsSz bs):=Nat.mul_le_mul_right _ hb
    rw [Nat.pow_succ,Nat.mul_comm]
    omega
  have:=dig_le hb h2
  omega
theorem un_dlen8 {b:Nat} (hb:2 <= b) {bs:List Bd} (h:bsOk bs) (hs:bsSz bs < 900000000) (hl:bs.length <= 8) {m:Nat} (hm:m <= unW bs+1):(dig b m).length <= 9900000010:=by
  have h1:=unW_lt bs h
  have h2:m < b ^ (11*bsSz bs+1):=by
    have h3:=pow_mono2 (n:=11*bsSz bs) hb
    have h4:0 < b ^ (11*bsSz bs):=Nat.pow_pos (by omega)
    have h5:2*b ^ (11*bsSz bs) <= b*b ^ (11*bsSz bs):=Nat.mul_le_mul_right _ hb
    rw [Nat.pow_succ,Nat.mul_comm]
    omega
  have:=dig_le hb h2
  omega
theorem NumV.lt {w:World} {F:Nat -> Prop} {b n:Nat} {v:Value} (h:NumV w F b n v):NumV w (fun k=>k < w.heap.size) b n v:=by
  obtain ⟨ad,cap,e,h1⟩:=h
  refine ⟨ad,cap,e,fun i hi=>?_⟩
  obtain ⟨g,o,e1,hg,hc⟩:=h1 i hi
  exact ⟨g,o,e1,World.block_lt_of_cell? w ⟨g,_,none⟩ hc,hc⟩
theorem plusV {x y:Nat} {w:World} {F:Nat -> Prop} {v u:Value} (hx:NumV w F 1000000000 x v) (hy:NumV w F 1000000000 y u) (lx:(dig 1000000000 x).length <= 100000000000) (ly:(dig 1000000000 y).length <= 100000000000) :
    Calls Tryz.prog 121 #[v,u] w fun e w'=>∃ z,e=.returned z /\ NumV w' (Since w.heap.size w') 1000000000 (x+y) z /\ Keeps NoBlk w w':=by
  obtain ⟨xa,xc,rfl,h1⟩:=hx
  obtain ⟨ya,yc,rfl,h2⟩:=hy
  exact (plus_any x y w F xa ya xc yc h1 h2 lx ly).mono fun e w' h=>h.v
theorem timesV {x k:Nat} {w:World} {F:Nat -> Prop} {v:Value} (hx:NumV w F 1000000000 x v) (lx:(dig 1000000000 x).length <= 100000000000) (hk:k <= 1000) :
    Calls Tryz.prog 122 #[v, .int .i64 k] w fun e w'=>∃ z,e=.returned z /\ NumV w' (Since w.heap.size w') 1000000000 (x*k) z /\ Keeps NoBlk w w':=by
  obtain ⟨xa,xc,rfl,h1⟩:=hx
  exact (times_any x k w F xa xc h1 lx hk).mono fun e w' h=>h.v
theorem greaterV {x y:Nat} {w:World} {F:Nat -> Prop} {v u:Value} (hx:NumV w F 1000000000 x v) (hy:NumV w F 1000000000 y u) (lx:(dig 1000000000 x).length <= 100000000000) (ly:(dig 1000000000 y).length <= 100000000000) :
    Calls Tryz.prog 120 #[v,u] w fun e w'=>∃ z,e=.returned z /\ NumV w' F 1000000000 (max x y) z /\ Keeps NoBlk w w':=by
  obtain ⟨xa,xc,rfl,h1⟩:=hx
  obtain ⟨ya,yc,rfl,h2⟩:=hy
  exact (greater_any x y w F xa ya xc yc h1 h2 lx ly).mono fun e w' h=>by
    obtain ⟨⟨ad,cap,he,h3⟩,rfl⟩:=h;exact ⟨_,he,⟨ad,cap,rfl,h3⟩,Keeps.refl _ _⟩
theorem smallV (n:Nat) (hn:n < 9000000000000000000) (w:World):Calls Tryz.prog 79 #[.int .i64 n] w fun e w'=>∃ z,e=.returned z /\ NumV w' (Since w.heap.size w') 1000000000 n z /\ Keeps NoBlk w w' :=
  (small_any n hn w).mono fun e w' h=>h.v
theorem aboveV {x y:Nat} {w:World} {F:Nat -> Prop} {v u:Value} (hx:NumV w F 1000000000 x v) (hy:NumV w F 1000000000 y u) (lx:(dig 1000000000 x).length <= 100000000000) (ly:(dig 1000000000 y).length <= 100000000000) :
    Calls Tryz.prog 78 #[v,u] w fun e w'=>e=.returned (.bool (decide (y < x))) /\ w=w':=by
  obtain ⟨xa,xc,rfl,h1⟩:=hx
  obtain ⟨ya,yc,rfl,h2⟩:=hy
  exact above_any x y w F xa ya xc yc h1 h2 lx ly
end Go.Proofs.YtnmifekgdkgknaaGreatDoor
namespace Go.Proofs.YtnmifekgdkgknaaGreatDoor
def WFr.pot (f:WFr):Nat:=Ac.stpL f.rest+Ac.stpL f.all*(f.left - 1)
def potL:List WFr -> Nat
  | []=>0
  | f :: r=>f.pot+potL r
theorem potL_append:(a b:List WFr) -> potL (a++b)=potL a+potL b
  | [],b=>by simp [potL]
  | x :: r,b=>by have:=potL_append r b;simp only [List.cons_append,potL,this];omega
theorem loc1_pot {regs regs':List Int} {fs fs':List WFr} (h:loc1 regs fs=some (regs',fs')):potL fs' <= potL fs:=by
  unfold loc1 at h
  cases hl:fs.getLast? with
  | none=>rw [hl] at h;cases h
  | some f =>
    have hs:=last_split hl
    have hm:potL fs=potL fs.dropLast+f.pot:=by
      have:=congrArg potL hs
      rw [potL_append] at this
      simpa [potL] using this
    rw [hl] at h
    simp only at h
    cases hr:f.rest with
    | nil =>
      rw [hr] at h
      simp only [Option.some.injEq,Prod.mk.injEq] at h
      obtain ⟨_,rfl⟩:=h
      split
      · rw [potL_append,hm]
        simp only [potL,WFr.pot,hr,Ac.stpL]
        obtain ⟨q,hq⟩:∃ q,f.left - 1=q+1:=⟨f.left - 2,by omega⟩
        rw [hq,Nat.mul_add]
        simp only [Nat.add_sub_cancel,Nat.mul_one,Nat.zero_add,Nat.add_zero]
        omega
      · omega
    | cons a r =>
      rw [hr] at h
      have hf:f.pot=a.stp+Ac.stpL r+Ac.stpL f.all*(f.left - 1):=by simp only [WFr.pot,hr,Ac.stpL]
      have ha:=Ac.stp_eq a
      simp only at h
      split at h
      · simp only [Option.some.injEq,Prod.mk.injEq] at h
        obtain ⟨_,rfl⟩:=h
        rw [potL_append,hm,hf]
        simp only [potL,WFr.pot]
        omega
      · rename_i h1
        rw [if_neg h1] at ha
        split at h
        · rename_i h10
          rw [if_pos h10] at ha
          simp only [Option.some.injEq,Prod.mk.injEq] at h
          obtain ⟨_,rfl⟩:=h
          rw [potL_append,potL_append,hm,hf]
          simp only [potL,WFr.pot]
          split <;> omega
        · rename_i h10
          split at h
          · rename_i h11
            rw [if_neg h10,if_pos h11] at ha
            simp only [Option.some.injEq,Prod.mk.injEq] at h
            obtain ⟨_,rfl⟩:=h
            split
            · rename_i hc
              rw [potL_append,potL_append,hm,hf]
              simp only [potL,WFr.pot]
              obtain ⟨q,hq⟩:∃ q,a.count.toNat=q+1:=⟨a.count.toNat - 1,by omega⟩
              rw [hq] at ha ⊢
              rw [Nat.mul_add] at ha
              simp only [Nat.add_sub_cancel,Nat.mul_one] at ha ⊢
              omega
            · rw [potL_append,hm,hf]
              simp only [potL,WFr.pot]
              omega
          · cases h
theorem loc_pot (r:List Int) (fs:List WFr):potL (loc r fs).2 <= potL fs :=
  (loc_ind (P:=fun _ fs'=>potL fs' <= potL fs) (fun _ _ _ _ h h1=>Nat.le_trans (loc1_pot h1) h) (Nat.le_refl _)).1
def WTh.pot (b:Bd) (t:WTh):Nat:=if t.st=1 then Ac.stpL b.acts+1 else if t.st=2 then potL t.fs+1 else 0
def sumN (f:Nat -> Nat):Nat -> Nat
  | 0=>0
  | n+1=>sumN f n+f n
theorem sumN_le {f g:Nat -> Nat}:(n:Nat) -> (∀ i,i < n -> f i <= g i) -> sumN f n <= sumN g n
  | 0,_=>Nat.le_refl _
  | n+1,h=>by
    have h1:=sumN_le n (fun i hi=>h i (by omega))
    have h2:=h n (by omega)
    simp only [sumN];omega
theorem sumN_lt {f g:Nat -> Nat} {k:Nat}:(n:Nat) -> k < n -> (∀ i,i < n -> f i <= g i) -> f k < g k -> sumN f n < sumN g n
  | 0,h,_,_=>absurd h (Nat.not_lt_zero _)
  | n+1,hk,h,hl=>by
    have h2:=h n (by omega)
    simp only [sumN]
    by_cases e:k=n
    · subst e
      have h1:=sumN_le k (fun i hi=>h i (by omega))
      omega
    · have h1:=sumN_lt n (by omega) (fun i hi=>h i (by omega)) hl
      omega
def potM (u:Un) (m:WMa):Nat:=sumN (fun i=>(m.get i).pot (u.body i)) m.ths.length
theorem unS_sum (l:List Bd):(n:Nat) -> n <= l.length -> unS (l.take n)=sumN (fun i=>Ac.stpL (l.getD i ⟨0,[]⟩).acts+1) n
  | 0,_=>by simp [unS,sumN]
  | n+1,h=>by
    rw [unS_take (by omega),unS_sum l n (by omega)]
    simp only [sumN,List.getD]
    rw [List.getElem?_eq_getElem (by omega)]
    rfl
theorem begT_pot (b:Bd):(begT b).pot b <= Ac.stpL b.acts+1:=by
  have h:=loc_pot (List.replicate b.regs.toNat 0) [⟨b.acts,b.acts,1⟩]
  unfold WTh.pot begT WTh.local
  simp only
  simp only [potL,WFr.pot,Nat.sub_self,Nat.mul_zero] at h
  simp
  omega
theorem newM_ths (u:Un):(newM u).ths=(u.threads.map fun _=>(⟨1,[],[]⟩:WTh)).set 0 (begT (u.body 0)):=rfl
theorem newM_pot (u:Un):potM u (newM u) <= unS u.threads:=by
  have h:=unS_sum u.threads u.threads.length (Nat.le_refl _)
  rw [List.take_length] at h
  have hl:(newM u).ths.length=u.threads.length:=by rw [newM_ths];simp
  rw [h]
  unfold potM
  rw [hl]
  refine sumN_le _ (fun i hi=>?_)
  have hg:((newM u).get i).pot (u.body i) <= Ac.stpL (u.body i).acts+1:=by
    by_cases e:i=0
    · subst e
      have:(newM u).get 0=begT (u.body 0):=WMa.get_eq (by rw [newM_ths];exact List.getElem?_set_self (by simp;omega))
      rw [this]
      exact begT_pot _
    · have:(newM u).get i=⟨1,[],[]⟩:=WMa.get_eq (by rw [newM_ths,List.getElem?_set_ne (fun h=>e h.symm)];simp [hi])
      rw [this]
      simp [WTh.pot]
  exact hg
theorem on_pot {t:WTh} {a:Ac} {f:WFr} {r:List Ac} (h1:t.fs.getLast?=some f) (h2:f.rest=a :: r) (hk:2 <= a.kind /\ a.kind <= 9):potL t.on.local.fs < potL t.fs:=by
  have hs:=last_split h1
  have hm:potL t.fs=potL t.fs.dropLast+f.pot:=by
    have:=congrArg potL hs
    rw [potL_append] at this
    simpa [potL] using this
  have e:t.on.fs=t.fs.dropLast++[⟨r,f.all,f.left⟩]:=by unfold WTh.on;rw [h1];simp [h2]
  have h3:potL t.on.local.fs <= potL t.on.fs:=loc_pot _ _
  have ha:=Ac.stp_eq a
  rw [if_neg (by omega),if_neg (by omega),if_neg (by omega)] at ha
  rw [e,potL_append] at h3
  have hf:f.pot=a.stp+Ac.stpL r+Ac.stpL f.all*(f.left - 1):=by simp only [WFr.pot,h2,Ac.stpL]
  simp only [potL,WFr.pot] at h3
  omega
theorem doM_other {u:Un} {m:WMa} {i j:Nat} (hij:i ≠ j) (a:Ac):(doM u m i a).1.get j=m.get j \/ (a.kind=7 /\ a.obj.toNat=j /\ (doM u m i a).2.2=0 /\ (m.get j).st=1 /\ (doM u m i a).1.get j=begT (u.body j)) \/ m.ths.length <= j:=by
  have hs:∀ (c:List Int) (o:List Int) (t:WTh),(WMa.setT ⟨c,o,m.ths⟩ i t).get j=m.get j:=fun c o t=>WMa.setT_ne _ _ hij
  unfold doM
  simp only
  split
  · exact .inl (hs _ _ _)
  · split
    · exact .inl rfl
    · split
      · exact .inl (hs _ _ _)
      · split
        · exact .inl rfl
        · split
          · split <;> exact .inl rfl
          · split
            · rename_i h7
              split
              · rename_i q
                by_cases e:a.obj.toNat=j
                · rw [e] at q ⊢
                  by_cases hj:j < m.ths.length
                  · exact .inr (.inl ⟨h7,rfl,rfl,q,WMa.setT_get _ _ _ hj⟩)
                  · exact .inr (.inr (by omega))
                · exact .inl (WMa.setT_ne _ _ e)
              · exact .inl rfl
            · split
              · split <;> exact .inl rfl
              · exact .inl rfl
theorem doneM_pot {u:Un} (hr:rightU u=true) {m:WMa} (h:m.ok u) {i:Nat} (hi:i < m.ths.length) (h2:(m.get i).st=2):potM u (doneM u m i).1 < potM u m:=by
  have hlen:=(doneM_ok hr h hi h2).2
  obtain ⟨b,hb,hok,hbe⟩:=h.th hi
  unfold potM
  rw [hlen]
  have hself:((doneM u m i).1.get i).pot (u.body i) < (m.get i).pot (u.body i):=by
    have hp:(m.get i).pot (u.body i)=potL (m.get i).fs+1:=by unfold WTh.pot;rw [h2];rfl
    rw [hp]
    unfold doneM
    cases hn:(m.get i).next with
    | none =>
      simp only
      rw [WMa.setT_get _ _ _ hi]
      unfold WTh.pot
      simp
    | some a =>
      obtain ⟨s1,s2⟩:=doM_self (u:=u) hi h2 a
      have hi':i < (doM u m i a).1.ths.length:=by rw [(doM_ok hr h hi a).2];exact hi
      simp only
      split
      · rw [WMa.setT_get _ _ _ hi']
        unfold WTh.pot
        simp
      · rw [WMa.setT_get _ _ _ hi']
        obtain ⟨h3,h4⟩ | ⟨a',f,r,h3,h4,h5,h6,h7⟩:=next_step (hok.2.2 h2) (hok.2.1 (by rw [h2];decide)).2
        · rw [h3] at hn;cases hn
        · rw [hn] at h3;cases h3
          have hst:((doM u m i a).1.get i).on.local.st=2:=by
            show ((doM u m i a).1.get i).on.st=2
            unfold WTh.on;split <;> exact s1
          have h8:=on_pot (t:=(doM u m i a).1.get i) (by rw [s2];exact h4) h5 h7
          unfold WTh.pot
          rw [hst]
          simp only [Int.reduceEq,if_false,if_true]
          rw [s2] at h8
          omega
  refine sumN_lt _ hi (fun j hj=>?_) hself
  by_cases e:i=j
  · subst e;exact Nat.le_of_lt hself
  have hbeg:∀ t:WTh,t=begT (u.body j) -> (m.get j).st=1 -> t.pot (u.body j) <= (m.get j).pot (u.body j):=fun t ht h1=>by
    rw [ht]
    refine Nat.le_trans (begT_pot _) ?_
    unfold WTh.pot;rw [h1];simp
  show ((doneM u m i).1.get j).pot (u.body j) <= (m.get j).pot (u.body j)
  unfold doneM
  cases hn:(m.get i).next with
  | none=>simp only;rw [WMa.setT_ne _ _ e];exact Nat.le_refl _
  | some a =>
    simp only
    have hd:=doM_other (u:=u) (m:=m) e a
    split
    · rw [WMa.setT_ne _ _ e]
      rcases hd with hd | ⟨_,_,_,h1,hd⟩ | hd
      · rw [hd];exact Nat.le_refl _
      · exact hbeg _ hd h1
      · omega
    · rw [WMa.setT_ne _ _ e]
      rcases hd with hd | ⟨_,_,_,h1,hd⟩ | hd
      · rw [hd];exact Nat.le_refl _
      · exact hbeg _ hd h1
      · omega
theorem WMa.ok.run {u:Un} {m:WMa} (h:m.ok u) {i:Int} (h0:refM m i=0):0 <= i /\ i.toNat < m.ths.length /\ (m.get i.toNat).st=2:=by
  obtain ⟨h1,h2,h3,h4,h5,_⟩:=refM_zero h0
  have hi:i.toNat < m.ths.length:=by omega
  obtain ⟨b,_,hok,_⟩:=h.th hi
  exact ⟨h1,hi,by rcases hok.1 with e | e | e | e <;> first | exact e | exact absurd e h3 | exact absurd e h4 | exact absurd e h5⟩
theorem stepM_pot {u:Un} (hr:rightU u=true) {m:WMa} (h:m.ok u) {i:Int} (h0:refM m i=0):potM u (stepM u m i).1 < potM u m:=by
  obtain ⟨h1,hi,h2⟩:=h.run h0
  unfold stepM
  rw [if_pos h0]
  exact doneM_pot hr h hi h2
theorem enabM_mem {u:Un} {m:WMa} (h:m.ok u) {i:Int} (hi:i ∈ enabM m):refM m i=0:=by
  unfold enabM at hi
  obtain ⟨k,hk,rfl⟩:=List.mem_map.1 hi
  obtain ⟨hk1,hk2⟩:=List.mem_filter.1 hk
  have hlt:=List.mem_range.1 hk1
  obtain ⟨b,_,hok,_⟩:=h.th hlt
  have h2:(m.get k).st=2:=by
    refine Classical.byContradiction fun hn=>?_
    have:ableM m k=false:=by unfold ableM actM;simp [hn]
    rw [this] at hk2;cases hk2
  unfold refM
  rw [if_neg (by omega)]
  simp [h2,hk2]
theorem over_waits {u:Un} {m:WMa} (h:m.ok u) (he:enabM m=[]) {i:Nat} (hi:i < m.ths.length) (h2:(m.get i).st=2):(actM m i).1=4 \/ (actM m i).1=7:=by
  have hf:ableM m i=false:=by
    unfold enabM at he
    rw [List.map_eq_nil_iff,List.filter_eq_nil_iff] at he
    have:=he i (List.mem_range.2 hi)
    simpa using this
  obtain ⟨b,hb,hok,hbe⟩:=h.th hi
  unfold ableM at hf
  simp only at hf
  rcases next_step (hok.2.2 h2) (hok.2.1 (by rw [h2];decide)).2 with ⟨h3,_⟩ | ⟨a,f,r,h3,h4,h5,h6,h7⟩
  · have e:actM m i=(9,(i:Int)):=by unfold actM;rw [h2,h3];rfl
    rw [e] at hf;simp at hf
  · have e:actM m i=(a.kind - 1,a.obj):=by unfold actM;rw [h2,h3];rfl
    rw [e] at hf ⊢
    simp only at hf ⊢
    rw [if_neg (by omega)] at hf
    by_cases h4:a.kind - 1=4
    · exact .inl h4
    · by_cases h7:a.kind - 1=7
      · exact .inr h7
      · rw [if_neg h4,if_neg h7] at hf;cases hf
end Go.Proofs.YtnmifekgdkgknaaGreatDoor
