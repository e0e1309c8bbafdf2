/- Layer E: texts joined. -/
import Derived.Test.YtnmifekgdkgknaaGreatDoorE50
import Derived.Test.YtnmifekgdkgknaaGreatDoorE47
set_option linter.unusedVariables false
set_option linter.unusedSimpArgs false
set_option linter.unnecessarySimpa false
namespace Go.Proofs.YtnmifekgdkgknaaGreatDoor
open Go.RowKit
theorem rem_nat (n:Int) (h:0 <= n) (m:Nat):Int.tmod n (m:Int)=((n.toNat % m:Nat):Int):=by
  obtain ⟨q,rfl⟩:∃ q:Nat,n=q:=⟨n.toNat,by omega⟩
  rw [Int.toNat_natCast]
  exact Int.ofNat_tmod q m
theorem sts_cells {w w':World} {m:WMa} {n u3:Nat} {c1 c2 c4:Value} {t3:Option Addr} (h:StaOut w m c1 c2 (.slice t3 n u3) c4 w') (hn:m.ths.length=n):∀ j,j < n -> ∃ g o,t3=some ⟨g,o,none⟩ /\ w'.cell? ⟨g,o+j,none⟩=some (.int .i64 (m.get j).st):=by
  intro j hj
  have hl:(stsN m m.ths.length).length=m.ths.length:=by simp [stsN]
  have h1:=h.sts.src
  have h2:SrcAt w' (.slice t3 n u3) (stsN m m.ths.length).length (ints (stsN m m.ths.length)):=by rw [hl];exact h1
  obtain ⟨ad,cap,e,hc⟩:=h2.ints
  cases e
  obtain ⟨g,o,e,c⟩:=hc j (by rw [hl,hn];exact hj)
  refine ⟨g,o,e,?_⟩
  rw [c]
  congr 2
  have hj':j < m.ths.length:=by omega
  simp [stsN,WMa.get,List.getD,hj',List.getElem?_take]
theorem acts_cells {w w':World} {m:WMa} {n u4:Nat} {c1 c2 c3:Value} {t4:Option Addr} (h:StaOut w m c1 c2 c3 (.slice t4 n u4) w') (hn:m.ths.length=n):∀ j,j < n -> ∃ g o,t4=some ⟨g,o,none⟩ /\ w'.cell? ⟨g,o+j*2,none⟩=some (.int .i64 (actM m j).1):=by
  intro j hj
  have hl:(nextN m m.ths.length).length=m.ths.length:=by simp [nextN]
  have h1:=h.next.src
  have h2:SrcAt w' (.slice t4 n u4) (nextN m m.ths.length).length ((nextN m m.ths.length).flatMap actC):=by rw [hl];exact h1
  obtain ⟨ad,cap,e,hc⟩:=h2.acts
  cases e
  obtain ⟨g,o,e,c,_⟩:=hc j (actM m j) (by simp [nextN,show j < m.ths.length by omega])
  exact ⟨g,o,e,c⟩
section
variable {cs:List Int} {mu:Int} {bs:List Bd} {w:World} {F:Nat -> Prop} {uca uta:Option Addr} {ucc utc:Nat}
theorem UnIn.rsteps (h:UnIn w F cs bs uca uta):Calls Tryz.prog 20 #[.agg #[.slice uca cs.length ucc, .int .i64 mu, .slice uta bs.length utc]] w fun e w'=>e=.returned (.string (tell (rightU ⟨cs,mu,bs⟩) (unS bs))) /\ Keeps NoBlk w w' :=
  refSteps_any cs mu bs w F uca uta ucc utc h.nums h.bds h.low h.sz h.l1 h.l2
set_option maxRecDepth 8000 in
set_option maxHeartbeats 4000000 in
theorem ends_no (h:UnIn w F cs bs uca uta) (rv:Value) (hr:newR ⟨cs,mu,bs⟩ ≠ 0):Calls Tryz.prog 4 #[.agg #[.slice uca cs.length ucc, .int .i64 mu, .slice uta bs.length utc],rv] w fun e w'=>e=.returned (.bool true) /\ Keeps NoBlk w w':=by
  have HU:=Lib.hid h
  have hb:(newR ⟨cs,mu,bs⟩ != 0)=true:=bne_iff_ne.2 hr
  have HNO:Hid (∀ W,Keeps NoBlk w W -> Calls Tryz.prog 13 #[.agg #[.slice uca cs.length ucc, .int .i64 mu, .slice uta bs.length utc]] W fun e w'=>e=.returned (.tuple #[.pointer none, .int .i64 (newR ⟨cs,mu,bs⟩)]) /\ Keeps NoBlk W w'):=fun W hk=>(h.keeps0 hk).newNo hr
  generalize newR ⟨cs,mu,bs⟩=rr at hb HNO
  clear h hr
  go_enter Tryz.func4,Tryz.ntmps4
  go_upto_region 1 with fail
  obtain ⟨b1,w1,e1,e2,R1,K1,_⟩:=newRow w [.slice uca cs.length ucc, .int .i64 mu, .slice uta bs.length utc] 25
  try rw [e1]
  try rw [e2]
  have y1:=R1.all3
  have k1:=keep0 w1
  have HK1:=Lib.hid K1
  clear e1 e2 R1 K1
  have HS:=Lib.hid (shown_any w1)
  go_wp2_with (first
    | (go_at_call 10;refine HS.out.mono ?_;rintro e w2 ⟨rfl,k2⟩;have HK2:=Lib.hid k2;clear HS)
    | (go_at_call 13;refine (HNO.out _ (HK1.out.trans0 HK2.out)).mono ?_;rintro e w3 ⟨rfl,k3⟩;have HK3:=Lib.hid k3;clear k3))
  go_ret
  exact ⟨rfl,(HK1.out.trans0 HK2.out).trans0 HK3.out⟩
set_option maxRecDepth 8000 in
set_option maxHeartbeats 8000000 in
theorem ends_ok (h:UnIn w F cs bs uca uta) (ra:Option Addr) (rc:Nat) (xs:List Int) (hx:SrcAt w (.slice ra xs.length rc) xs.length (ints xs)) (hr:newR ⟨cs,mu,bs⟩=0):Calls Tryz.prog 4 #[.agg #[.slice uca cs.length ucc, .int .i64 mu, .slice uta bs.length utc], .slice ra xs.length rc] w fun e w'=>e=.returned (.bool true) /\ Keeps NoBlk w w':=by
  have HU:=Lib.hid h
  have hR:=newR_right hr
  have hS:unS bs <= 60:=by
    unfold newR withinU at hr
    rw [hR] at hr
    revert hr
    simp only [if_true]
    split
    · intro e;cases e
    · intro _;omega
  have HNW:Hid (∀ W,Keeps NoBlk w W -> Calls Tryz.prog 13 #[.agg #[.slice uca cs.length ucc, .int .i64 mu, .slice uta bs.length utc]] W fun e w'=>∃ b,e=.returned (.tuple #[.pointer (some ⟨b,0,none⟩), .int .i64 0]) /\ Mach (fun q=>q < W.heap.size) w' b ⟨cs,mu,bs⟩ (newM ⟨cs,mu,bs⟩) /\ Keeps NoBlk W w'):=fun W hk=>(h.keeps0 hk).newOk hr
  have HST:Hid (∀ W,Keeps NoBlk w W -> Calls Tryz.prog 20 #[.agg #[.slice uca cs.length ucc, .int .i64 mu, .slice uta bs.length utc]] W fun e w'=>e=.returned (.string (tell true (unS bs))) /\ Keeps NoBlk W w'):=fun W hk=>by
    have g:=(h.keeps0 hk).rsteps (mu:=mu) (ucc:=ucc) (utc:=utc)
    rw [hR] at g
    exact g
  obtain ⟨u,hu⟩:∃ u:Un,u=⟨cs,mu,bs⟩:=⟨_,rfl⟩
  have HPOT:Hid (potM u (newM u) <= unS bs):=by show _ <= _;rw [hu];exact newM_pot _
  obtain ⟨nb,hnb⟩:∃ nb,nb=unS bs:=⟨_,rfl⟩
  rw [<- hnb] at HST HPOT hS
  rw [<- hu] at HNW
  obtain ⟨nt,hnt⟩:∃ nt,nt=bs.length:=⟨_,rfl⟩
  have HNT:Hid (u.threads.length=nt):=by show _=_;rw [hu,hnt]
  have HNTS:Hid (∀ m:WMa,m.ok u -> m.ths.length=nt):=fun m hm=>hm.ths.trans HNT.out
  have HX:=Lib.hid hx
  have hn8:nt <= 8:=by rw [hnt];exact (rightU_all hR).2.1
  have hnb':nb < 100:=by omega
  have HFW:Hid (∀ W,Calls Tryz.prog 21 #[.string (tell true nb)] W fun e w'=>e=.returned (.int .i64 nb) /\ Keeps NoBlk W w'):=fun W=>few_any W hnb'
  rw [<- hnt] at HNW HST ⊢
  generalize tell true nb=bst at HST HFW
  clear h hx hr hR hu hnb hnt
  go_enter Tryz.func4,Tryz.ntmps4
  go_upto_region 1 with fail
  obtain ⟨b1,w1,e1,e2,R1,K1,_⟩:=newRow w [.slice uca cs.length ucc, .int .i64 mu, .slice uta nt utc] 25
  try rw [e1]
  try rw [e2]
  have y1:=R1.all3
  have k1:=keep0 w1
  have HK1:=Lib.hid K1
  have HR1:=Lib.hid R1
  clear e1 e2 R1 K1
  have HS:=Lib.hid (shown_any w1)
  go_upto_region 7 with (first
    | (go_at_call 10;refine HS.out.mono ?_;rintro e w2 ⟨rfl,k2⟩;have HK2:=Lib.hid k2;clear HS)
    | (go_at_call 13;refine (HNW.out _ (HK1.out.trans0 HK2.out)).mono ?_;rintro e w3 ⟨b,rfl,hm,k3⟩;have HK3:=Lib.hid k3;have HM:=Lib.hid hm;clear hm))
  have HK13:Hid (Keeps NoBlk w w3):=(HK1.out.trans0 HK2.out).trans0 HK3.out
  have y3:=(HR1.out.keeps (HK2.out.trans0 HK3.out) (fun h=>h)).all3
  obtain ⟨g0,hg0⟩:∃ g,g=w2.heap.size:=⟨_,rfl⟩
  have M3:Hid (Mach (NB g0 []) w3 b u (newM u)):=by
    refine HM.out.mono (fun q hq=>?_)
    rcases hq with h | h
    · rw [<- hg0];exact h
    · cases h
  have HB1:Hid (b1 < g0 /\ w.heap.size <= g0):=⟨by rw [hg0];exact Nat.lt_of_lt_of_le (HR1.out.lt (by simp)) HK2.out.size,by rw [hg0];exact Nat.le_trans HK1.out.size HK2.out.size⟩
  have k0:=keep0 w3
  clear HM y1 k1 k2 k3 hg0
  go_upto_region 9 with (first
    | (go_at_call 20;refine (HST.out _ HK13.out).mono ?_;rintro e w4 ⟨rfl,k4⟩;have HK4:=Lib.hid k4)
    | (go_at_call 21;refine (HFW.out _).mono ?_;rintro e w5 ⟨rfl,k5⟩;have HK5:=Lib.hid k5;clear k5))
  have M5:Hid (Mach (NB g0 []) w5 b u (newM u)):=(M3.out.keeps0 HK4.out).keeps0 HK5.out
  have R5:=Lib.hid (HR1.out.keeps (((HK2.out.trans0 HK3.out).trans0 HK4.out).trans0 HK5.out) (fun h=>h))
  have K5:Hid (Keeps NoBlk w w5):=(HK13.out.trans0 HK4.out).trans0 HK5.out
  have HXC:Hid (∀ W,Keeps (fun q=>g0 <= q) w5 W -> ∀ j,j < xs.length -> ∃ g o,ra=some ⟨g,o,none⟩ /\ W.cell? ⟨g,o+j,none⟩=some (.int .i64 (xs.getD j 0))):=fun W hk j hj=>by
    obtain ⟨ad,cap,e,hc⟩:=HX.out.ints
    cases e
    obtain ⟨g,o,e,c⟩:=hc j hj
    have h1:g < w.heap.size:=World.block_lt_of_cell? w _ c
    have h2:=HB1.out.2
    exact ⟨g,o,e,hk.cell (p:=⟨g,_,none⟩) (fun h=>by have h:g0 <= g:=h;omega) (K5.out.cell (p:=⟨g,_,none⟩) (fun h=>h) c)⟩
  clear y3 k0 k4 HK1 HK2 HK3 HK13 HK4 HK5 HX M3 HR1 HNW HST HFW HU
  go_wp2_with fail
  go_loopw [10] (fun i wr=>∃ (k:Nat) (m:WMa),k <= nb /\ i=.int .i64 k /\ Hid (potM u m+k <= nb) /\ Hid (Mach (NB g0 []) wr b u m) /\ Hid (Keeps (fun q=>g0 <= q) w5 wr)) (fun i _=>nb+1 - (intOf i).toNat)
  case atStart=>exact ⟨0,_,Nat.zero_le _,rfl,HPOT,M5,Keeps.refl _ _⟩
  case round =>
    obtain ⟨k,m,hk,rfl,HP,HMk,HKk⟩:=hrel
    have HE:=Lib.hid HMk.out.enabled
    go_upto_region 13 with (go_at_call 22;refine HE.out.mono ?_;rintro e w6 ⟨v,rfl,ho,k6,hob⟩;obtain ⟨la,lc,e,hl⟩:=(FRow.of ho hob).src.ints;subst e;have HO:=Lib.hid hl;have HK6:=Lib.hid k6;clear ho hob k6 hl)
    have M6:=Lib.hid (HMk.out.keeps0 HK6.out)
    have KK6:Hid (Keeps (fun q=>g0 <= q) w5 w6):=HKk.out.trans HK6.out (fun _ _ h=>h.elim)
    obtain ⟨ln,hln⟩:∃ ln,ln=(enabM m).length:=⟨_,rfl⟩
    have HLN:=Lib.hid hln
    have hl8:ln <= 8:=by
      rw [hln]
      have h1:=enK_len m m.ths.length
      rw [enK_all] at h1
      have h2:m.ths.length <= 8:=by rw [HMk.out.ok.ths];exact (rightU_all HMk.out.right).2.1
      omega
    rw [<- hln]
    clear hln
    by_cases h0:ln=0
    · subst h0
      have he:enabM m=[]:=List.eq_nil_of_length_eq_zero HLN.out.symm
      have OV:Hid (Calls Tryz.prog 23 #[.pointer (some ⟨b,0,none⟩)] w6 fun e w'=>e=.returned (.bool true) /\ Keeps NoBlk w6 w'):=by
        have h:=M6.out.over
        rw [he] at h
        exact h
      have HOV:Hid (∀ j,j < nt -> (m.get j).st=2 -> (actM m j).1=4 \/ (actM m j).1=7):=fun j hj h2=>over_waits M6.out.ok he (by rw [HNTS.out m M6.out.ok];exact hj) h2
      clear HE HMk hk HO he
      go_upto_region 23 with (go_at_call 23;refine OV.out.mono ?_;rintro e w7 ⟨rfl,k7⟩;have HK7:=Lib.hid k7;clear k7)
      have SE:=Lib.hid (M6.out.keeps0 HK7.out).state
      go_upto_region 24 with (go_at_call 24;refine SE.out.mono ?_;rintro e w8 ⟨t1,t2,c3,c4,rfl,hs⟩;have S8:=Lib.hid hs;obtain ⟨t3,u3,e3⟩:=frow_form hs.sts;obtain ⟨t4,u4,e4⟩:=frow_form hs.next;rw [HNTS.out m M6.out.ok] at e3 e4;subst e3 e4;clear hs)
      have hmn:=HNTS.out m M6.out.ok
      have q3:∀ j,j < nt -> ∃ g o,t3=some ⟨g,o,none⟩ /\ w8.cell? ⟨g,o+j,none⟩=some (.int .i64 (m.get j).st):=sts_cells S8.out hmn
      have q4:∀ j,j < nt -> ∃ g o,t4=some ⟨g,o,none⟩ /\ w8.cell? ⟨g,o+j*2,none⟩=some (.int .i64 (actM m j).1):=acts_cells S8.out hmn
      obtain ⟨y,w9,e1,e2,r,q,s⟩:=newRow w8 [.slice t1 m.cells.length m.cells.length, .slice t2 m.owners.length m.owners.length, .slice t3 nt u3, .slice t4 nt u4] 48
      try rw [e1]
      try rw [e2]
      have R9:=Lib.hid r
      have K9:Hid (Keeps (fun q=>g0 <= q) w5 w9):=((KK6.out.trans HK7.out (fun _ _ h=>h.elim)).trans S8.out.keeps (fun _ _ h=>h.elim)).trans q (fun _ _ h=>h.elim)
      have Q3:Hid (∀ W,Keeps NoBlk w9 W -> ∀ j,j < nt -> ∃ g o,t3=some ⟨g,o,none⟩ /\ W.cell? ⟨g,o+j,none⟩=some (.int .i64 (m.get j).st)):=fun W hk j hj=>by
        obtain ⟨g,o,e,c⟩:=q3 j hj
        exact ⟨g,o,e,hk.cell (p:=⟨g,_,none⟩) (fun h=>h) (q.cell (p:=⟨g,_,none⟩) (fun h=>h) c)⟩
      have Q4:Hid (∀ W,Keeps NoBlk w9 W -> ∀ j,j < nt -> ∃ g o,t4=some ⟨g,o,none⟩ /\ W.cell? ⟨g,o+j*2,none⟩=some (.int .i64 (actM m j).1)):=fun W hk j hj=>by
        obtain ⟨g,o,e,c⟩:=q4 j hj
        exact ⟨g,o,e,hk.cell (p:=⟨g,_,none⟩) (fun h=>h) (q.cell (p:=⟨g,_,none⟩) (fun h=>h) c)⟩
      have yU:=(R5.out.keeps K9.out (fun h=>by have h:g0 <= b1:=h;have:=HB1.out.1;omega)).all3
      have yS:=r.all4
      have k9:=keep0 w9
      have HF:Hid (∀ W,Keeps NoBlk w9 W -> Keeps NoBlk w W):=fun W hk=>(K5.out.trans (K9.out.trans hk (fun _ _ h=>h.elim)) (fun q hq e=>by have e':g0 <= q:=e;have:=HB1.out.2;omega))
      generalize m.cells.length=nc at yS
      generalize m.owners.length=no at yS
      have hbn:((nt:Int) != (nt:Int))=false:=by simp
      clear e1 e2 r q s q3 q4 hmn OV SE S8 M6 KK6 HK6 HK7 HKk HP HLN M5 R5 HXC
      go_wp2_with fail
      go_loopw [17] (fun i wr=>∃ j:Nat,j <= nt /\ i=.int .i64 j /\ Hid (Keeps NoBlk w9 wr)) (fun i _=>nt - (intOf i).toNat)
      case atStart=>exact ⟨0,Nat.zero_le _,rfl,Keeps.refl _ _⟩
      case round =>
        obtain ⟨j,hj,rfl,hkp⟩:=hrel
        obtain ⟨z0,z1,z2,z3⟩:=yS _ hkp.out
        by_cases hlt:j < nt
        · obtain ⟨g,o,e,c⟩:=Q3.out _ hkp.out j hlt
          subst e
          have i6:(0:Int) <= j:=by omega
          have i7:(j:Int) < nt:=by omega
          clear hj
          by_cases h4:(m.get j).st=4
          · rw [h4] at c
            go_wp2_with fail
            go_ret
            exact ⟨rfl,HF.out _ hkp.out⟩
          · have hb:((m.get j).st==4)=false:=beq_false_of_ne h4
            generalize (m.get j).st=sv at c hb
            clear h4
            go_wp2_with fail
            exact ⟨⟨j+1,by omega,by go_num,hkp⟩,by simp [intOf];omega⟩
        · have hjn:j=nt:=by omega
          subst hjn
          clear hlt hj
          go_wp2_with fail
          go_loopw [18] (fun i wr=>∃ k:Nat,k <= j /\ i=.int .i64 k /\ Hid (Keeps NoBlk w9 wr)) (fun i _=>j - (intOf i).toNat)
          case atStart=>exact ⟨0,Nat.zero_le _,rfl,hkp⟩
          case round =>
            obtain ⟨k,hk,rfl,hkq⟩:=hrel
            obtain ⟨z0,z1,z2,z3⟩:=yS _ hkq.out
            by_cases hlt:k < j
            · obtain ⟨g3,o3,e3,d3⟩:=Q3.out _ hkq.out k hlt
              obtain ⟨g4,o4,e4,d4⟩:=Q4.out _ hkq.out k hlt
              have hov:=HOV.out k hlt
              subst e3 e4
              have i6:(0:Int) <= k:=by omega
              have i7:(k:Int) < j:=by omega
              generalize (m.get k).st=sv at d3 hov
              generalize (actM m k).1=av at d4 hov
              clear hk
              by_cases h2:sv=2
              · subst h2
                rcases hov rfl with rfl | rfl
                · go_wp2_with fail
                  exact ⟨⟨k+1,by omega,by go_num,hkq⟩,by simp [intOf];omega⟩
                · go_wp2_with fail
                  exact ⟨⟨k+1,by omega,by go_num,hkq⟩,by simp [intOf];omega⟩
              · have hb:(sv==2)=false:=beq_false_of_ne h2
                clear hov h2
                by_cases h4:av=4
                · subst h4
                  go_wp2_with fail
                  exact ⟨⟨k+1,by omega,by go_num,hkq⟩,by simp [intOf];omega⟩
                · have hb4:(av==4)=false:=beq_false_of_ne h4
                  clear h4
                  by_cases h7:av=7
                  · subst h7
                    go_wp2_with fail
                    exact ⟨⟨k+1,by omega,by go_num,hkq⟩,by simp [intOf];omega⟩
                  · have hb7:(av==7)=false:=beq_false_of_ne h7
                    clear h7
                    go_wp2_with fail
                    exact ⟨⟨k+1,by omega,by go_num,hkq⟩,by simp [intOf];omega⟩
            · have hkj:k=j:=by omega
              subst hkj
              clear hlt hk
              go_wp2_with fail
              go_ret
              exact ⟨rfl,HF.out _ hkq.out⟩
    · have i3:(ln:Int) ≠ 0:=by omega
      have i4:((ln:Int)==0)=false:=beq_false_of_ne i3
      have HEN:Hid (∀ r,r < ln -> refM m ((enabM m).getD r 0)=0):=fun r hr=>enabM_mem HMk.out.ok (by rw [List.getD,List.getElem?_eq_getElem (by rw [<- HLN.out];exact hr)];exact List.getElem_mem _)
      have hkn:k < nb:=by
        have h1:=stepM_pot HMk.out.right HMk.out.ok (HEN.out 0 (by omega))
        have h2:=HP.out
        omega
      have i5:((k:Int)==(nb:Int))=false:=beq_false_of_ne (by omega)
      clear HE HMk hk
      by_cases hkx:k < xs.length
      · obtain ⟨gx,ox,ex,cx⟩:=HXC.out w6 KK6.out k hkx
        subst ex
        have i8:(k:Int) < xs.length:=by omega
        have i9:(0:Int) <= k:=by omega
        generalize xs.getD k 0=xv at cx
        clear hkx
        by_cases hpos:0 < xv
        · have ip:decide (0 < xv)=true:=decide_eq_true hpos
          have hnn:0 <= xv:=by omega
          clear hpos
          go_upto_region 19 with fail
          obtain ⟨r,hrr⟩:∃ r,r=xv.toNat % ln:=⟨_,rfl⟩
          have hlt:r < ln:=by rw [hrr];exact Nat.mod_lt _ (by omega)
          have hrem:Int.tmod xv (ln:Int)=(r:Int):=by rw [hrr];exact rem_nat xv (by omega) ln
          obtain ⟨g,o,e,c0⟩:=HO.out r (by rw [<- HLN.out];exact hlt)
          subst e
          have hst:=HEN.out r hlt
          generalize (enabM m).getD r 0=ti at c0 hst
          obtain ⟨m',x,hsm⟩:∃ m' x,stepM u m ti=(m',x,0):=by unfold stepM;rw [if_pos hst];exact ⟨_,_,rfl⟩
          have HSM:=Lib.hid (M6.out.stepIs hsm)
          have HP':Hid (potM u m'+(k+1) <= nb):=by
            have h1:=stepM_pot M6.out.right M6.out.ok hst
            rw [hsm] at h1
            have h2:=HP.out
            show _ <= _
            have h1:potM u m' < potM u m:=h1
            omega
          have i6:(0:Int) <= r:=by omega
          have i7:(r:Int) < ln:=by omega
          have kc:=keep0 w6
          clear hrr hst hsm HO
          go_wp2_with (go_at_call 19;refine HSM.out.mono ?_;rintro e w7 ⟨rfl,hm,k7⟩;have HM7:=Lib.hid hm;have HK7:=Lib.hid k7;clear hm k7)
          have KA:=(Keeps.refl NoBlk w7).alloc (.cells #[.int .i64 x.thread, .int .i64 x.kind, .int .i64 x.obj, .int .i64 x.value, .int .i64 x.bad] 40)
          exact ⟨⟨k+1,m',by omega,by go_num,HP',HM7.out.keeps0 KA,(KK6.out.trans (HK7.out.mono (fun q _ hq=>Nat.le_of_not_lt (fun h=>hq (.inl h)))) (fun _ _ h=>h)).trans KA (fun _ _ h=>h.elim)⟩,by simp [intOf];omega⟩
        · have ip:decide (0 < xv)=false:=decide_eq_false hpos
          clear hpos
          go_upto_region 19 with fail
          obtain ⟨g,o,e,c0⟩:=HO.out 0 (by rw [<- HLN.out];omega)
          subst e
          rw [Nat.add_zero] at c0
          have hrem:Int.tmod 0 (ln:Int)=0:=Int.zero_tmod _
          have hst:=HEN.out 0 (by omega)
          generalize (enabM m).getD 0 0=ti at c0 hst
          obtain ⟨m',x,hsm⟩:∃ m' x,stepM u m ti=(m',x,0):=by unfold stepM;rw [if_pos hst];exact ⟨_,_,rfl⟩
          have HSM:=Lib.hid (M6.out.stepIs hsm)
          have HP':Hid (potM u m'+(k+1) <= nb):=by
            have h1:=stepM_pot M6.out.right M6.out.ok hst
            rw [hsm] at h1
            have h2:=HP.out
            show _ <= _
            have h1:potM u m' < potM u m:=h1
            omega
          have i6:(0:Int) < ln:=by omega
          have kc:=keep0 w6
          clear hst hsm HO
          go_wp2_with (go_at_call 19;refine HSM.out.mono ?_;rintro e w7 ⟨rfl,hm,k7⟩;have HM7:=Lib.hid hm;have HK7:=Lib.hid k7;clear hm k7)
          have KA:=(Keeps.refl NoBlk w7).alloc (.cells #[.int .i64 x.thread, .int .i64 x.kind, .int .i64 x.obj, .int .i64 x.value, .int .i64 x.bad] 40)
          exact ⟨⟨k+1,m',by omega,by go_num,HP',HM7.out.keeps0 KA,(KK6.out.trans (HK7.out.mono (fun q _ hq=>Nat.le_of_not_lt (fun h=>hq (.inl h)))) (fun _ _ h=>h)).trans KA (fun _ _ h=>h.elim)⟩,by simp [intOf];omega⟩
      · have i8:decide ((k:Int) < xs.length)=false:=decide_eq_false (by omega)
        have i9:decide (k < xs.length)=false:=decide_eq_false hkx
        go_upto_region 19 with fail
        all_goals try exact absurd (by assumption:k < xs.length) hkx
        obtain ⟨g,o,e,c0⟩:=HO.out 0 (by rw [<- HLN.out];omega)
        subst e
        rw [Nat.add_zero] at c0
        have hrem:Int.tmod 0 (ln:Int)=0:=Int.zero_tmod _
        have hst:=HEN.out 0 (by omega)
        generalize (enabM m).getD 0 0=ti at c0 hst
        obtain ⟨m',x,hsm⟩:∃ m' x,stepM u m ti=(m',x,0):=by unfold stepM;rw [if_pos hst];exact ⟨_,_,rfl⟩
        have HSM:=Lib.hid (M6.out.stepIs hsm)
        have HP':Hid (potM u m'+(k+1) <= nb):=by
          have h1:=stepM_pot M6.out.right M6.out.ok hst
          rw [hsm] at h1
          have h2:=HP.out
          show _ <= _
          have h1:potM u m' < potM u m:=h1
          omega
        have i6:(0:Int) < ln:=by omega
        have kc:=keep0 w6
        clear hst hsm HO
        go_wp2_with (go_at_call 19;refine HSM.out.mono ?_;rintro e w7 ⟨rfl,hm,k7⟩;have HM7:=Lib.hid hm;have HK7:=Lib.hid k7;clear hm k7)
        have KA:=(Keeps.refl NoBlk w7).alloc (.cells #[.int .i64 x.thread, .int .i64 x.kind, .int .i64 x.obj, .int .i64 x.value, .int .i64 x.bad] 40)
        exact ⟨⟨k+1,m',by omega,by go_num,HP',HM7.out.keeps0 KA,(KK6.out.trans (HK7.out.mono (fun q _ hq=>Nat.le_of_not_lt (fun h=>hq (.inl h)))) (fun _ _ h=>h)).trans KA (fun _ _ h=>h.elim)⟩,by simp [intOf];omega⟩
theorem ends_any (h:UnIn w F cs bs uca uta) (ra:Option Addr) (rc:Nat) (xs:List Int) (hx:SrcAt w (.slice ra xs.length rc) xs.length (ints xs)) (hl:xs.length <= 1048576):Calls Tryz.prog 4 #[.agg #[.slice uca cs.length ucc, .int .i64 mu, .slice uta bs.length utc], .slice ra xs.length rc] w fun e w'=>e=.returned (.bool true) /\ Keeps NoBlk w w':=by
  by_cases hr:newR ⟨cs,mu,bs⟩=0
  · exact ends_ok h ra rc xs hx hr
  · exact ends_no h _ hr
end
end Go.Proofs.YtnmifekgdkgknaaGreatDoor
