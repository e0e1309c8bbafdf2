/- Layer R: texts joined. -/
import Derived.Test.YtnmifekgdkgknaaGreatDoorR50
import Derived.Test.YtnmifekgdkgknaaGreatDoorR48
import Derived.Test.YtnmifekgdkgknaaGreatDoorR45
set_option linter.unusedVariables false
set_option linter.unusedSimpArgs false
set_option linter.unnecessarySimpa false
namespace Go.Proofs.YtnmifekgdkgknaaGreatDoor
open Go.RowKit
theorem aw_R:newR ⟨[],0,[⟨0,[]⟩]⟩=0:=by decide
theorem aw_whole:whole ⟨[],0,[⟨0,[]⟩]⟩ []=([⟨0,9,0,0,0⟩],⟨[],[],[⟨3,[],[]⟩]⟩):=by rfl
theorem awAt {w:World} {F:Nat -> Prop} {th:Nat} (ht:RowAt w th [.int .i64 0, .slice none 0 0]) (f:F th) (hF:∀ k,F k -> k < w.heap.size):UnIn w F [] [⟨0,[]⟩] none (some ⟨th,0,none⟩):=by
 refine ⟨fun i hi=>absurd hi (Nat.not_lt_zero _),fun i hi=>?_,hF,fun b hb=>?_,by simp [bsSz,Ac.szL],by decide,by simp⟩
 ·have hi0:i=0:=by simpa using hi
  subst hi0;exact ⟨th,0,none,0,rfl,f,ht.cell (k:=0) rfl,ht.cell (k:=1) rfl,noActs _ _⟩
 ·obtain rfl:b=⟨0,[]⟩:=by simpa using hb
  simp [Ac.kindsL]
set_option maxRecDepth 8000 in
set_option maxHeartbeats 4000000 in
theorem awake_any (w:World):Calls Tryz.prog 30 #[] w fun e w'=>e=.returned (.bool true) /\ Keeps NoBlk w w':=by
 obtain ⟨th,w1,x1,z1,R1,K1,_⟩:=newRow w [.int .i64 0, .slice none 0 0] 77;have hU:UnIn w1 (fun k=>k < w1.heap.size) [] [⟨0,[]⟩] none (some ⟨th,0,none⟩):=awAt R1 (R1.lt (by simp)) (fun _ h=>h)
 have HW:Hid (Calls Tryz.prog 31 #[.agg #[.slice none 0 0, .int .i64 0, .slice (some ⟨th,0,none⟩) 1 1], .slice none 0 0] w1 fun e w'=>∃ oa oc a1 q1 a2 q2 a3 q3 a4 q4,e=.returned (.tuple #[.slice oa 1 oc, .agg #[.slice a1 0 q1, .slice a2 0 q2, .slice a3 1 q3, .slice a4 1 q4], .int .i64 0]) /\ FRow w' w1.heap.size (.slice oa 1 oc) 1 [.int .i64 0, .int .i64 9, .int .i64 0, .int .i64 0, .int .i64 0] /\ Keeps NoBlk w1 w'):=by
  have h:=whole_ok (mu:=0) (ucc:=0) (utc:=1) hU none 0 [] ⟨none,0,rfl,fun h=>absurd rfl h⟩ aw_R;rw [aw_whole] at h;refine h.mono fun e w' h=>?_
  obtain ⟨oa,oc,a1,q1,a2,q2,a3,q3,a4,q4,he,hf,ho⟩:=h;exact ⟨oa,oc,a1,q1,a2,q2,a3,q3,a4,q4,he,hf,ho.keeps⟩
 have HK1:=Lib.hid K1;clear hU R1 K1;go_enter Tryz.func30,Tryz.ntmps30
 go_upto_region 2 with (go_at_call 31;refine HW.out.mono ?_;rintro e w2 ⟨oa,oc,a1,q1,a2,q2,a3,q3,a4,q4,rfl,hf,ho⟩;have HF:=Lib.hid hf;have HO:=Lib.hid ho;clear hf ho x1 z1)
 obtain ⟨b3,w4,x3,z3,R5,K5,_⟩:=newRow w2 [.slice a1 0 q1, .slice a2 0 q2, .slice a3 1 q3, .slice a4 1 q4] 48;rw [x3,z3];obtain ⟨ad,cap,e,_,_,hc⟩:=HF.out.keeps K5 (fun _ _ h=>h);simp only [Value.slice.injEq,true_and] at e;obtain ⟨rfl,rfl⟩:=e;obtain ⟨g,rfl,_,hr⟩:=hc (by decide);have y5:=hr.five;have k4:=keep0 w4;have HK3:Hid (Keeps NoBlk w w4):=(HK1.out.trans0 HO.out).trans0 K5;clear hr hc K5 R5 HF x3 z3;go_wp2_with fail
 go_ret
 exact ⟨rfl,HK3.out⟩
section
variable {cs:List Int} {mu:Int} {bs:List Bd} {w:World} {F:Nat -> Prop} {uca uta:Option Addr} {ucc utc:Nat}
theorem UnIn.rwithin (h:UnIn w F cs bs uca uta):Calls Tryz.prog 37 #[.agg #[.slice uca cs.length ucc, .int .i64 mu, .slice uta bs.length utc]] w fun e w'=>e=.returned (.int .i64 (newR ⟨cs,mu,bs⟩)) /\ Keeps NoBlk w w' :=
 refWithin_any cs mu bs w F uca uta ucc utc h.nums h.bds h.low h.sz h.l1 h.l2
set_option maxRecDepth 8000 in
set_option maxHeartbeats 8000000 in
theorem endsR_no (h:UnIn w F cs bs uca uta) (v:Value) (t:Int) (hr:newR ⟨cs,mu,bs⟩ ≠ 0):Calls Tryz.prog 9 #[.agg #[.slice uca cs.length ucc, .int .i64 mu, .slice uta bs.length utc],v, .int .i64 t] w fun e w'=>e=.returned (.bool true) /\ Keeps NoBlk w w':=by
 have HWI:Hid (∀ W,Keeps NoBlk w W -> Calls Tryz.prog 37 #[.agg #[.slice uca cs.length ucc, .int .i64 mu, .slice uta bs.length utc]] W fun e w'=>e=.returned (.int .i64 (newR ⟨cs,mu,bs⟩)) /\ Keeps NoBlk W w'):=fun W hk=>by
  have g:=(h.keeps0 hk).rwithin (mu:=mu) (ucc:=ucc) (utc:=utc);exact g
 have hb:(newR ⟨cs,mu,bs⟩ != 0)=true:=bne_iff_ne.2 hr;generalize newR ⟨cs,mu,bs⟩=rr at hb HWI;clear h hr;go_enter Tryz.func9,Tryz.ntmps9
 go_upto_region 1 with fail
 obtain ⟨b1,w1,x1,z1,R1,K1,_⟩:=newRow w [.slice uca cs.length ucc, .int .i64 mu, .slice uta bs.length utc] 25;try rw [x1]
 try rw [z1]
 have y1:=R1.all3;have k1:=keep0 w1;have HR1:=Lib.hid R1;have HK1:=Lib.hid K1;clear x1 z1 R1 K1;have HS:=Lib.hid (awake_any w1)
 go_wp2_with (first
  | (go_at_call 30;refine HS.out.mono ?_;rintro e w2 ⟨rfl,k2⟩;have HK2:=Lib.hid (HK1.out.trans0 k2))
  | (go_at_call 37;refine (HWI.out _ HK2.out).mono ?_;rintro e w3 ⟨rfl,k3⟩;have HK3:=Lib.hid (HK2.out.trans0 k3);clear k3))
 go_ret
 exact ⟨rfl,HK3.out⟩
set_option maxRecDepth 8000 in
set_option maxHeartbeats 8000000 in
theorem endsR_ok (h:UnIn w F cs bs uca uta) (ca:Option Addr) (cc:Nat) (ch:List Int) (hx:SrcAt w (.slice ca ch.length cc) ch.length (ints ch)) (t:Int) (hr:newR ⟨cs,mu,bs⟩=0):Calls Tryz.prog 9 #[.agg #[.slice uca cs.length ucc, .int .i64 mu, .slice uta bs.length utc], .slice ca ch.length cc, .int .i64 t] w fun e w'=>e=.returned (.bool true) /\ Keeps NoBlk w w':=by
 have HWI:Hid (∀ W,Keeps NoBlk w W -> Calls Tryz.prog 37 #[.agg #[.slice uca cs.length ucc, .int .i64 mu, .slice uta bs.length utc]] W fun e w'=>e=.returned (.int .i64 0) /\ Keeps NoBlk W w'):=fun W hk=>by
  have g:=(h.keeps0 hk).rwithin (mu:=mu) (ucc:=ucc) (utc:=utc);rw [hr] at g;exact g
 have hR:=newR_right hr;have HWH:Hid (∀ W,Keeps NoBlk w W -> Calls Tryz.prog 31 #[.agg #[.slice uca cs.length ucc, .int .i64 mu, .slice uta bs.length utc], .slice ca ch.length cc] W (WhEnd W (whole ⟨cs,mu,bs⟩ ch))):=fun W hk=>whole_ok (h.keeps0 hk) ca cc ch (hx.keeps hk (fun _ _ h=>h)) hr
 have HPL:Hid (∀ W,Keeps NoBlk w W -> ∀ (sa:Option Addr) (sc:Nat) (ts:List Int),SrcAt W (.slice sa ts.length sc) ts.length (ints ts) -> ts.length <= 1000 -> Calls Tryz.prog 34 #[.agg #[.slice uca cs.length ucc, .int .i64 mu, .slice uta bs.length utc], .slice sa ts.length sc] W (PlEnd W (plN ⟨cs,mu,bs⟩ (newM ⟨cs,mu,bs⟩) ts))):=fun W hk sa sc ts hs hl=>play_ok (h.keeps0 hk) sa sc ts hs hl hr
 obtain ⟨u,hu⟩:∃ u:Un,u=⟨cs,mu,bs⟩:=⟨_,rfl⟩
 rw [<- hu] at HWH HPL hR
 have hpot:potM u (newM u) <= 60:=by
  have h1:=newM_pot u
  have h2:unS bs <= 60:=by
   unfold newR withinU at hr;rw [show rightU ⟨cs,mu,bs⟩=true by rw [<- hu];exact hR] at hr;revert hr
   simp only [if_true];split
   ·intro e;cases e
   ·intro _;omega
  rw [hu] at h1 ⊢;have h1:potM ⟨cs,mu,bs⟩ (newM ⟨cs,mu,bs⟩) <= unS bs:=h1;omega
 obtain ⟨l1,l2,l3,l4⟩:=whN_law hR ch _ 0 (newM u) (newM_ok hR) (Nat.le_refl _);obtain ⟨es,hes⟩:∃ z,z=(whole u ch).1:=⟨_,rfl⟩
 obtain ⟨m,hm⟩:∃ z,z=(whole u ch).2:=⟨_,rfl⟩
 have ew:whole u ch=(es,m):=by rw [hes,hm]
 have l1:es.length <= potM u (newM u):=by rw [hes];exact l1
 have l2:m.ok u:=by rw [hm];exact l2
 have l3:enabM m=[]:=by rw [hm];exact l3
 have l4:plN u (newM u) (es.map Evt.thread)=(es.map fun x=>⟨x.thread,0,x⟩,m):=by rw [hes,hm];exact l4
 have hno:=over_refused l2 l3 t
 have hpl:plN u (newM u) (es.map Evt.thread++[t])=((es.map fun x=>(⟨x.thread,0,x⟩:StepV))++[⟨t,refM m t,Evt.zero⟩],m):=by
  rw [plN_snoc,l4];simp only [stepM_no hno]
 obtain ⟨n,hn⟩:∃ z,z=es.length:=⟨_,rfl⟩
 have hn60:n <= 60:=by omega
 have HN:Hid (n=es.length):=hn;have HNO:=Lib.hid hno;have hlen:(es.map Evt.thread++[t]).length=n+1:=by rw [List.length_append,List.length_map,<- hn];rfl
 obtain ⟨L,hL⟩:∃ z,z=(es.map fun x=>(⟨x.thread,0,x⟩:StepV))++[⟨t,refM m t,Evt.zero⟩]:=⟨_,rfl⟩
 have hLl:L.length=n+1:=by rw [hL,List.length_append,List.length_map,<- hn];rfl
 have HWE:Hid (∀ W,Keeps NoBlk w W -> Calls Tryz.prog 31 #[.agg #[.slice uca cs.length ucc, .int .i64 mu, .slice uta bs.length utc], .slice ca ch.length cc] W fun e w'=>∃ oa oc a1 q1 a2 q2 a3 q3 a4 q4 l1 l2 l3,e=.returned (.tuple #[.slice oa n oc, .agg #[.slice a1 l1 q1, .slice a2 l2 q2, .slice a3 l3 q3, .slice a4 l3 q4], .int .i64 0]) /\ FRow w' W.heap.size (.slice oa n oc) n (es.flatMap evC) /\ Keeps NoBlk W w'):=fun W hk=>(HWH.out W hk).mono fun e w' h=>by
  rw [ew] at h;obtain ⟨oa,oc,a1,q1,a2,q2,a3,q3,a4,q4,he,hf,ho⟩:=h;rw [hn];exact ⟨oa,oc,a1,q1,a2,q2,a3,q3,a4,q4,_,_,_,he,hf,ho.keeps⟩
 have HPE:Hid (∀ W,Keeps NoBlk w W -> ∀ (sa:Option Addr) (sc:Nat),SrcAt W (.slice sa (n+1) sc) (n+1) (ints (es.map Evt.thread++[t])) -> Calls Tryz.prog 34 #[.agg #[.slice uca cs.length ucc, .int .i64 mu, .slice uta bs.length utc], .slice sa (n+1) sc] W fun e w'=>∃ oa oc a1 q1 a2 q2 a3 q3 a4 q4 l1 l2 l3,e=.returned (.tuple #[.slice oa (n+1) oc, .agg #[.slice a1 l1 q1, .slice a2 l2 q2, .slice a3 l3 q3, .slice a4 l3 q4], .int .i64 0]) /\ FRow w' W.heap.size (.slice oa (n+1) oc) (n+1) (L.flatMap stC) /\ Keeps NoBlk W w'):=fun W hk sa sc hs=>by
  rw [<- hlen] at hs ⊢;refine (HPL.out W hk sa sc _ hs (by rw [hlen];omega)).mono fun e w' h=>?_
  rw [hpl,<- hL] at h;obtain ⟨oa,oc,a1,q1,a2,q2,a3,q3,a4,q4,he,hf,ho⟩:=h;have he:e=.returned (.tuple #[.slice oa L.length oc, .agg #[.slice a1 m.cells.length q1, .slice a2 m.owners.length q2, .slice a3 m.ths.length q3, .slice a4 m.ths.length q4], .int .i64 0]):=he;have hf:FRow w' W.heap.size (.slice oa L.length oc) L.length (L.flatMap stC):=hf;rw [hLl] at he hf;rw [hlen];exact ⟨oa,oc,a1,q1,a2,q2,a3,q3,a4,q4,_,_,_,he,hf,ho.keeps⟩
 have HLN:Hid (∀ W g,RowAt W g (L.flatMap stC) -> W.cell? ⟨g,n*7+1,none⟩=some (.int .i64 (refM m t)) /\ (0 < n -> W.cell? ⟨g,(n - 1)*7+1,none⟩=some (.int .i64 0))):=fun W g hr=>by
  refine ⟨hr.cell ?_,fun h0=>hr.cell ?_⟩
  ·rw [get_cells stC 7 stC_len L n 1 (by decide),hL,List.getElem?_append_right (by rw [List.length_map,<- hn];exact Nat.le_refl _),List.length_map,<- hn,Nat.sub_self]
   rfl
  ·rw [get_cells stC 7 stC_len L (n - 1) 1 (by decide),hL,List.getElem?_append_left (by rw [List.length_map,<- hn];omega),List.getElem?_map]
   have hlt:n - 1 < es.length:=by omega
   rw [List.getElem?_eq_getElem hlt];rfl
 obtain ⟨i0,hi0,hz0,hz1,hz2⟩:=info_parts infoInt;clear h hx hr hR hu hpot l1 l2 l3 l4 hes hm ew hno hpl hn hlen hL hLl HWH HPL;go_enter Tryz.func9,Tryz.ntmps9
 go_upto_region 1 with fail
 obtain ⟨b1,w1,x1,z1,R1,K1,_⟩:=newRow w [.slice uca cs.length ucc, .int .i64 mu, .slice uta bs.length utc] 25;try rw [x1]
 try rw [z1]
 have y1:=R1.all3;have k1:=keep0 w1;have HR1:=Lib.hid R1;have HK1:=Lib.hid K1;clear x1 z1 R1 K1;have HS:=Lib.hid (awake_any w1)
 go_upto_region 6 with (first
  | (go_at_call 30;refine HS.out.mono ?_;rintro e w2 ⟨rfl,k2⟩;have HK2:=Lib.hid (HK1.out.trans0 k2);have k12:=Lib.hid k2)
  | (go_at_call 37;refine (HWI.out _ HK2.out).mono ?_;rintro e w3 ⟨rfl,k3⟩;have HK3:=Lib.hid (HK2.out.trans0 k3);have k13:=Lib.hid (k12.out.trans0 k3);have k3':=k2.trans0 k3;clear k3)
  | (go_at_call 31;refine (HWE.out _ HK3.out).mono ?_;rintro e w4 ⟨oa,oc,a1,q1,a2,q2,a3,q3,a4,q4,n1,n2,n3,rfl,hf,ho⟩;have HF:=Lib.hid hf;have HO:=Lib.hid ho;clear hf ho))
 obtain ⟨b10,w5,x5,z5,R5,K5,_⟩:=newRow w4 [.slice a1 n1 q1, .slice a2 n2 q2, .slice a3 n3 q3, .slice a4 n3 q4] 48;rw [x5,z5];have HK5:Hid (Keeps NoBlk w w5):=(HK3.out.trans0 HO.out).trans0 K5;have HF5:=Lib.hid (HF.out.keeps K5 (fun _ _ h=>h));have HR15:=Lib.hid (HR1.out.keeps ((k13.out.trans0 HO.out).trans0 K5) (fun h=>h));obtain ⟨ad,cap,ea,_,_,hcl⟩:=HF5.out;simp only [Value.slice.injEq,true_and] at ea;obtain ⟨rfl,rfl⟩:=ea;have HCL:=Lib.hid hcl;clear x5 z5 R5 K5 HF HO HF5 y1 k1 k2 k3' hcl HWE HWI HS;go_wp2_with fail
 go_loopw [12,13] (fun sv iv wr=>∃ (k:Nat) (sa:Option Addr) (sc:Nat),k <= n /\ iv=.int .i64 k /\ sv=.slice sa k sc /\ Hid (wr.ownsRow 0 3 1 (.slice sa k sc) k (ints ((es.take k).map Evt.thread)) /\ Keeps NoBlk w5 wr /\ (∀ g,(Value.slice sa k sc).ownBlock=some g -> w5.heap.size <= g))) (fun _ iv _=>n - (intOf iv).toNat)
 case atStart=>exact ⟨0,none,0,Nat.zero_le _,rfl,rfl,World.ownsRow_nil _ _ _ _,Keeps.refl _ _,fun g e=>by simp [Value.ownBlock] at e⟩
 case round =>
  obtain ⟨k,sa,sc,hk,rfl,rfl,HI⟩:=hrel;by_cases hlt:k < n
  ·obtain ⟨g,eg,_,hrow⟩:=HCL.out (by omega)
   have hkn:k < es.length:=by rw [<- HN.out];exact hlt
   have hc:=hrow.cell (by have:=get_cells evC 5 evC_len es k 0 (by decide);rw [List.getElem?_eq_getElem hkn] at this;exact this);have z0:=cellAll (HI.out.2.1.cell (p:=⟨g,k*5+0,none⟩) (fun h=>h) hc);rw [Nat.add_zero] at z0;obtain ⟨th,hth⟩:∃ z,z=es[k].thread:=⟨_,rfl⟩
   have c0:∀ W,Keeps NoBlk wr W -> W.cell? ⟨g,k*5,none⟩=some (.int .i64 th):=by rw [hth];exact z0
   have HTK:Hid (ints ((es.take (k+1)).map Evt.thread)=ints ((es.take k).map Evt.thread)++[.int .i64 th]):=by
    show _=_
    rw [List.take_add_one,List.getElem?_eq_getElem hkn,hth];unfold ints;rw [List.map_append,List.map_append];rfl
   subst eg;have i1:(0:Int) <= k:=by omega
   have i2:(k:Int) < n:=by omega
   have kr:=keep0 wr;clear z0 hrow hc hth hkn hk;go_wp2_with (at_builtin;refine wpList_append_src _ (by rfl) _ _ 22 (by rfl) 0 3 i0 _ 1 8 Tryz.underlying22 hi0 hz0 hz1 hz2 rfl (by decide) (.slice sa k sc) k (ints ((es.take k).map Evt.thread)) (by rfl) (ownsRow_keeps HI.out.1 ((Keeps.refl NoBlk _).alloc _) (fun _ _ h=>h)) (.slice (some ⟨wr.heap.size,0,none⟩) 1 1) 1 [.int .i64 th] (by rfl) (RowAt.src (RowAt.ofBlock (heap_alloc_new _ _))) rfl (by simp [Value.oneCell']) (by unfold maxLen;omega) (by omega) (Nat.zero_le _) ?_;intro ad9 cap9 w8 hout;have HO:=Lib.hid hout;clear hout)
   refine ⟨⟨k+1,ad9,cap9,by omega,by go_num,rfl,?_,?_,fun q e=>?_⟩,by simp [intOf];omega⟩
   ·rw [HTK.out];exact HO.out.1
   ·exact HO.out.keeps (HI.out.2.1.alloc _) (fun q e hq=>absurd hq (by have:=HI.out.2.2 q e;omega))
   ·rcases HO.out.2.2 q e with h | h
    ·exact HI.out.2.2 q h
    ·have:=HI.out.2.1.size
     simp at h
     omega
  ·have hkn:k=n:=by omega
   subst hkn;have HIO:=Lib.hid HI.out.1;have HIK:=Lib.hid HI.out.2.1;have HIB:=Lib.hid HI.out.2.2;have y1:=(HR15.out.keeps HIK.out (fun h=>h)).all3;have lb1:b1 < wr.heap.size:=(HR15.out.keeps HIK.out (fun h=>h)).lt (by simp);have nb1:b1 ≠ wr.heap.size:=by omega
   have kr:=keep0 wr;have e2:IntKind.i64.wrap ((k:Int)+1)=((k+1:Nat):Int):=by rw [show (k:Int)+1=((k+1:Nat):Int) by omega];exact wrap_small _ (by omega) (by omega)
   clear hlt hk HI;go_upto_region 12 with (at_builtin;refine wpList_append_src _ (by rfl) _ _ 22 (by rfl) 0 3 i0 _ 1 8 Tryz.underlying22 hi0 hz0 hz1 hz2 rfl (by decide) (.slice sa k sc) k (ints ((es.take k).map Evt.thread)) (by rfl) (ownsRow_keeps HIO.out ((Keeps.refl NoBlk _).alloc _) (fun _ _ h=>h)) (.slice (some ⟨wr.heap.size,0,none⟩) 1 1) 1 [.int .i64 t] (by rfl) (RowAt.src (RowAt.ofBlock (heap_alloc_new _ _))) rfl (by simp [Value.oneCell']) (by unfold maxLen;omega) (by omega) (Nat.zero_le _) ?_;intro ad9 cap9 w8 hout;have HO:=Lib.hid hout;have K58:Hid (Keeps NoBlk w5 w8):=hout.keeps (HIK.out.alloc _) (fun q e hq=>absurd hq (by have:=HIB.out q e;omega));clear hout)
   have HS8:Hid (SrcAt w8 (.slice ad9 (k+1) cap9) (k+1) (ints (es.map Evt.thread++[t]))):=by
    have h:=own_src HO.out.1;rw [show es.take k=es by rw [HN.out];exact List.take_length] at h;rw [show ints (es.map Evt.thread++[t])=ints (es.map Evt.thread)++[.int .i64 t] by simp [ints]];exact h
   have HPC:=Lib.hid (HPE.out w8 (HK5.out.trans0 K58.out) ad9 cap9 HS8.out);have y1:=(HR15.out.keeps K58.out (fun h=>h)).all3;have k8:=keep0 w8;clear HPE HIO HIK HIB kr HO HS8 lb1 nb1;go_upto_region 13 with (go_at_call 34;refine HPC.out.mono ?_;rintro e w9 ⟨ob,oc2,a1',q1',a2',q2',a3',q3',a4',q4',n1',n2',n3',rfl,hf,ho⟩;have HF:=Lib.hid hf;have HO9:=Lib.hid ho;clear hf ho)
   obtain ⟨b15,wA,x6,z6,R6,K6,_⟩:=newRow w9 [.slice a1' n1' q1', .slice a2' n2' q2', .slice a3' n3' q3', .slice a4' n3' q4'] 48;rw [x6,z6];obtain ⟨ad2,cap2,ea2,_,_,hcl2⟩:=HF.out.keeps K6 (fun _ _ h=>h);simp only [Value.slice.injEq,true_and] at ea2;obtain ⟨rfl,rfl⟩:=ea2;obtain ⟨g2,rfl,_,hrow2⟩:=hcl2 (by omega);obtain ⟨d1,d2⟩:=HLN.out wA g2 hrow2;have d1:=cellAll d1;have KE:Hid (Keeps NoBlk w wA):=((HK5.out.trans0 K58.out).trans0 HO9.out).trans0 K6;have kA:=keep0 wA;have hb:(refM m t != 0)=true:=bne_iff_ne.2 HNO.out;have j1:(0:Int) <= k:=by omega
   have j2:(k:Int) < ((k+1:Nat):Int):=by omega
   clear hcl2 hrow2 x6 z6 R6 K6 HF HPC y1 k8 HCL HNO HLN;by_cases h0:k=0
   ·subst h0
    go_wp2_with fail
    go_ret
    exact ⟨rfl,KE.out⟩
   ·have d3:=cellAll (d2 (by omega))
    have e3:IntKind.i64.wrap ((k:Int) - 1)=((k - 1:Nat):Int):=by rw [show (k:Int) - 1=((k - 1:Nat):Int) by omega];exact wrap_small _ (by omega) (by omega)
    have j3:((k:Int)==0)=false:=beq_false_of_ne (by omega);have j4:((k - 1:Nat):Int) < ((k+1:Nat):Int):=by omega
    have j5:(0:Int) <= ((k - 1:Nat):Int):=by omega
    clear d2;go_wp2_with fail
    go_ret
    exact ⟨rfl,KE.out⟩
theorem endsR_any (h:UnIn w F cs bs uca uta) (ca:Option Addr) (cc:Nat) (ch:List Int) (hx:SrcAt w (.slice ca ch.length cc) ch.length (ints ch)) (t:Int):Calls Tryz.prog 9 #[.agg #[.slice uca cs.length ucc, .int .i64 mu, .slice uta bs.length utc], .slice ca ch.length cc, .int .i64 t] w fun e w'=>e=.returned (.bool true) /\ Keeps NoBlk w w':=by
 by_cases hr:newR ⟨cs,mu,bs⟩=0
 ·exact endsR_ok h ca cc ch hx t hr
 ·exact endsR_no h _ t hr
end
end Go.Proofs.YtnmifekgdkgknaaGreatDoor
