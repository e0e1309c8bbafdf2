/- Layer R: texts joined. -/
import Derived.Test.YtnmifekgdkgknaaGreatDoorR48
import Derived.Test.YtnmifekgdkgknaaGreatDoorR49
set_option linter.unusedVariables false
set_option linter.unusedSimpArgs false
set_option linter.unnecessarySimpa false
namespace Go.Proofs.YtnmifekgdkgknaaGreatDoor
open Go.RowKit
def slLen:Value -> Nat
 | .slice _ n _=>n
 | _=>0
def NBO (g0:Nat) (v:Value) (q:Nat):Prop:=q < g0 \/ v.ownBlock=some q
theorem Mach.app {w w':World} {b g0 n cap sz:Nat} {u:Un} {m:WMa} {v:Value} {ty:TypeId} {xs:List Value} {ad:Option Addr} (h:Mach (NBO g0 v) w b u m) (ho:AppOut w 0 ty sz v n xs ad cap w'):Mach (NBO g0 (.slice ad n cap)) w' b u m:=by
 have hk:Keeps (fun q=>v.ownBlock=some q) w w':=ho.keeps (Keeps.refl _ _) (fun q e _=>e);obtain ⟨T,F,p,H,h1,h2⟩:=h.ex;refine ⟨fun q hq=>?_,h.right,h.ok,T,F,p,H,MaP.keeps placeOk bdsCOk h1 hk (fun q hq e=>h2 q hq (.inr e)),fun q hq e=>?_⟩
 ·rcases hq with hq | hq
  ·exact Nat.lt_of_lt_of_le (h.low q (.inl hq)) hk.size
  ·exact ownsRow_lt ho.1 hq
 ·rcases e with e | e
  ·exact h2 q hq (.inl e)
  ·rcases ho.2.2 q e with e1 | e1
   ·exact h2 q hq (.inr e1)
   ·have hlt:q < w.heap.size:=by
     rcases hq with hq | hq
     ·obtain ⟨t,e⟩:=hq
      exact h1.ths.sep.ok q _ e
     ·exact h1.ths.sep.low q hq
    omega
def WhEnd (w:World) (r:List Evt × WMa) (e:Ending) (w':World):Prop :=
 ∃ oa oc a1 q1 a2 q2 a3 q3 a4 q4,e=.returned (.tuple #[.slice oa r.1.length oc, .agg #[.slice a1 r.2.cells.length q1, .slice a2 r.2.owners.length q2, .slice a3 r.2.ths.length q3, .slice a4 r.2.ths.length q4], .int .i64 0]) ∧
   FRow w' w.heap.size (.slice oa r.1.length oc) r.1.length (r.1.flatMap evC) /\ StaOut w r.2 (.slice a1 r.2.cells.length q1) (.slice a2 r.2.owners.length q2) (.slice a3 r.2.ths.length q3) (.slice a4 r.2.ths.length q4) w'
section
variable {cs:List Int} {mu:Int} {bs:List Bd} {w:World} {F:Nat -> Prop} {uca uta:Option Addr} {ucc utc:Nat}
set_option maxRecDepth 8000 in
set_option maxHeartbeats 8000000 in
theorem whole_ok (h:UnIn w F cs bs uca uta) (ca:Option Addr) (cc:Nat) (ch:List Int) (hx:SrcAt w (.slice ca ch.length cc) ch.length (ints ch)) (hr:newR ⟨cs,mu,bs⟩=0):Calls Tryz.prog 31 #[.agg #[.slice uca cs.length ucc, .int .i64 mu, .slice uta bs.length utc], .slice ca ch.length cc] w (WhEnd w (whole ⟨cs,mu,bs⟩ ch)):=by
 have hR:=newR_right hr;have HNW:Hid (∀ W,Keeps NoBlk w W -> Calls Tryz.prog 13 #[.agg #[.slice uca cs.length ucc, .int .i64 mu, .slice uta bs.length utc]] W fun e w'=>∃ b,e=.returned (.tuple #[.pointer (some ⟨b,0,none⟩), .int .i64 0]) /\ Mach (fun q=>q < W.heap.size) w' b ⟨cs,mu,bs⟩ (newM ⟨cs,mu,bs⟩) /\ Keeps NoBlk W w'):=fun W hk=>(h.keeps0 hk).newOk hr
 obtain ⟨u,hu⟩:∃ u:Un,u=⟨cs,mu,bs⟩:=⟨_,rfl⟩
 rw [<- hu] at HNW hR ⊢;obtain ⟨B,hB⟩:∃ z,z=potM u (newM u):=⟨_,rfl⟩
 have HB60:Hid (B <= 60):=by
  show _ <= _
  have h1:=newM_pot u
  have h2:unS bs <= 60:=by
   unfold newR withinU at hr;rw [show rightU ⟨cs,mu,bs⟩=true by rw [<- hu];exact hR] at hr;revert hr
   simp only [if_true];split
   ·intro e;cases e
   ·intro _;omega
  rw [hu] at h1 hB;have h1:potM ⟨cs,mu,bs⟩ (newM ⟨cs,mu,bs⟩) <= unS bs:=h1;omega
 obtain ⟨R,hRR⟩:∃ z,z=whole u ch:=⟨_,rfl⟩
 have HR0:Hid (R=([]++(whN u ch B 0 (newM u)).1,(whN u ch B 0 (newM u)).2)):=by show _=_;rw [hRR,hB];rfl
 have HX:Hid (∀ W,Keeps (fun q=>w.heap.size <= q) w W -> SrcAt W (.slice ca ch.length cc) ch.length (ints ch)):=fun W hk=>hx.up hk (Nat.le_refl _) (by simp [ints])
 have HRT:=Lib.hid hR;have HPB:Hid (potM u (newM u) <= B):=by show _ <= _;rw [hB];exact Nat.le_refl _
 obtain ⟨j0,hj0,hy0,hy1,hy2⟩:=info_parts infoEv;rw [<- hRR];clear h hx hr hR hu hB hRR;go_enter Tryz.func31,Tryz.ntmps31
 go_upto_region 1 with fail
 obtain ⟨b1,w1,x1,z1,R1,K1,s1⟩:=newRow w [.slice uca cs.length ucc, .int .i64 mu, .slice uta bs.length utc] 25;try rw [x1]
 try rw [z1]
 obtain ⟨y,w2,x2,z2,R2,K2,s2⟩:=newRow w1 [.slice none 0 0, .slice none 0 0, .slice none 0 0, .slice none 0 0] 48;have n1:b1+1=y:=s1.out.symm.trans x2;try rw [n1]
 try rw [x2]
 try rw [z2]
 have y1:=(R1.keeps K2 (fun h=>h)).all3;have HRY:=Lib.hid R2;have k2:=keep0 w2;have HK2:Hid (Keeps NoBlk w w2):=K1.trans0 K2;have HY:Hid (w.heap.size <= y /\ y < w2.heap.size):=⟨by rw [<- x2];exact K1.size,R2.lt (by simp)⟩;have yy:=R2.all4;have f0:=rowFree R2 0 (by decide);have f1:=rowFree R2 1 (by decide);have f2:=rowFree R2 2 (by decide);have f3:=rowFree R2 3 (by decide);clear n1 x1 z1 x2 z2 R1 R2 K1 K2 s1 s2;go_upto_region 5 with (go_at_call 13;refine (HNW.out _ HK2.out).mono ?_;rintro e w3 ⟨b,rfl,hm,k3⟩;have HK3:=Lib.hid k3;have HM:=Lib.hid hm;clear hm k3)
 obtain ⟨g0,hg0⟩:∃ g,g=w2.heap.size:=⟨_,rfl⟩
 have HG0:=Lib.hid hg0
 have M3:Hid (Mach (NBO g0 (.slice none 0 0)) w3 b u (newM u)):=by
  refine HM.out.mono (fun q hq=>?_)
  rcases hq with h | h
  ·rw [<- hg0];exact h
  ·simp [Value.ownBlock] at h
 have HE:=Lib.hid M3.out.enabled;clear hg0 HM y1 yy f0 f1 f2 f3 k2 HNW;go_upto_region 6 with (go_at_call 22;refine HE.out.mono ?_;rintro e w4 ⟨v,rfl,ho,k4,hob⟩;obtain ⟨la,lc,evl⟩:∃ ad cap,v=.slice ad (enabM (newM u)).length cap:=NewRow.slice (w:=w) ho;subst evl;have HSL:=Lib.hid (own_src ho);have HK4:=Lib.hid k4;clear ho hob k4)
 have M4:=Lib.hid (M3.out.keeps0 HK4.out);have HK24:Hid (Keeps (fun q=>g0 <= q) w2 w4):=(HK3.out.trans0 HK4.out).mono (fun _ _ h=>h.elim);clear HE M3 HK3 HK4;go_loopw [9,10] (fun ov lv wr=>∃ (m:WMa) (es:List Evt) (oa:Option Addr) (oc:Nat) (la:Option Addr) (lc ln lo:Nat),ov=.slice oa lo oc /\ lv=.slice la ln lc /\ lo <= 60 /\ Hid (lo=es.length /\ ln=(enabM m).length /\ SrcAt wr (.slice la ln lc) ln (ints (enabM m)) /\ wr.ownsRow 0 40 5 (.slice oa lo oc) lo (es.flatMap evC) /\ (∀ g,(Value.slice oa lo oc).ownBlock=some g -> g0 <= g) /\ Mach (NBO g0 (.slice oa lo oc)) wr b u m /\ Keeps (fun q=>g0 <= q) w2 wr /\ potM u m+lo <= B /\ ∃ f,potM u m <= f /\ R=(es++(whN u ch f es.length m).1,(whN u ch f es.length m).2))) (fun ov _ _=>B - slLen ov)
 case atStart=>exact ⟨newM u,[],none,0,la,lc,_,0,rfl,rfl,Nat.zero_le _,rfl,rfl,HSL.out,World.ownsRow_nil _ _ _ _,fun g e=>by simp [Value.ownBlock] at e,M4.out,HK24.out,HPB.out,B,HPB.out,HR0.out⟩
 case round =>
  obtain ⟨m,es,oa,oc,la,lc,ln,lo,rfl,rfl,hlo,HI⟩:=hrel;clear M4 HSL HK24;obtain ⟨e1,e2,hsl,how,hnew,hmm,hkk,hpot,f,hf,hres⟩:=HI.out;have HKK:=Lib.hid hkk;have HM:=Lib.hid hmm;have HOW:=Lib.hid how;by_cases h0:ln=0
  ·subst h0
   have he:enabM m=[]:=List.eq_nil_of_length_eq_zero e2.symm;have HFIN:Hid (R=(es,m) /\ lo=es.length):=⟨by rw [hres,whN_end HRT.out ch he];simp,e1⟩;have HNEW:=Lib.hid hnew;have SE:=Lib.hid hmm.state;have HRYr:=Lib.hid (HRY.out.keeps hkk (fun h=>by have h:g0 <= y:=h;have:=HG0.out;have:=HY.out.2;omega));have yy:=HRYr.out.all4;have f0:=rowFree HRYr.out 0 (by decide);have f1:=rowFree HRYr.out 1 (by decide);have f2:=rowFree HRYr.out 2 (by decide);have f3:=rowFree HRYr.out 3 (by decide);have HGS:Hid (g0 <= wr.heap.size):=by have:=HG0.out;have:=hkk.size;show _ <= _;omega
   have kr:=keep0 wr;clear e1 e2 hsl how hnew hmm hkk hpot hf hres he HI
   go_wp2_with (first
    | (go_at_call 71;refine (clipE_any _ oa lo oc es (by rw [HFIN.out.2] at HOW;exact (by rw [HFIN.out.2];exact HOW.out))).mono ?_;rintro e w5 ⟨rfl,hw⟩;have hw:=hw.symm;subst hw)
    | (go_at_call 24;refine SE.out.mono ?_;rintro e w8 ⟨t1,t2,c3,c4,rfl,hs⟩;obtain ⟨t3,u3,e3⟩:=hs.sts.form;obtain ⟨t4,u4,e4⟩:=hs.next.form;subst e3 e4;have S8:=Lib.hid hs;have k8:=hs.keeps;clear hs))
   have K28:Hid (Keeps NoBlk w w8):=(HK2.out.trans HKK.out (fun q hq e=>by have e:g0 <= q:=e;have:=HG0.out;have:=HY.out;omega)).trans0 k8;have HKY:=putL_keeps y [.slice t1 m.cells.length m.cells.length, .slice t2 m.owners.length m.owners.length, .slice t3 m.ths.length u3, .slice t4 m.ths.length u4] 0 w8;obtain ⟨R5,K5⟩:=putL_new (w:=w) [.slice t1 m.cells.length m.cells.length, .slice t2 m.owners.length m.owners.length, .slice t3 m.ths.length u3, .slice t4 m.ths.length u4] (HRYr.out.keeps k8 (fun h=>h)) rfl K28.out HY.out.1;simp only [putL,Nat.zero_add,Nat.reduceAdd] at R5 K5 HKY;generalize (((w8.setCell ⟨y,0,none⟩ (.slice t1 m.cells.length m.cells.length)).setCell ⟨y,1,none⟩ (.slice t2 m.owners.length m.owners.length)).setCell ⟨y,2,none⟩ (.slice t3 m.ths.length u3)).setCell ⟨y,3,none⟩ (.slice t4 m.ths.length u4)=wz at R5 K5 HKY ⊢;refine bodyPost_ret (v:=.tuple #[.slice oa lo lo, .agg #[.slice t1 m.cells.length m.cells.length, .slice t2 m.owners.length m.owners.length, .slice t3 m.ths.length u3, .slice t4 m.ths.length u4], .int .i64 0]) (by simp [results,Tryz.results31,go_sem,R5.cell (k:=0) rfl,R5.cell (k:=1) rfl,R5.cell (k:=2) rfl,R5.cell (k:=3) rfl]) rfl ?_
   obtain ⟨q1,q2⟩:=HFIN.out;subst q1;have hny:∀ q,wr.heap.size <= q -> ¬ (fun q=>q=y) q:=fun q hq e=>by have e':q=y:=e;have:=HGS.out;have:=HY.out.2;have:=HG0.out;omega
   have hws:w.heap.size <= wr.heap.size:=by have:=HGS.out;have:=HG0.out;have:=HY.out;omega
   have hF:FRow wz w.heap.size (.slice oa lo lo) lo (es.flatMap evC):=by
    have h1:=FRow.of (B:=g0) HOW.out HNEW.out;have h2:=(h1.keeps k8 (fun _ _ h=>h)).keeps HKY (fun q hq e=>by have e':q=y:=e;have:=HY.out.2;have:=HG0.out;omega);obtain ⟨ad,cap,e,c1,c2,c3⟩:=h2.mono (B':=w.heap.size) (by have:=HG0.out;have:=HY.out;omega);cases e;refine ⟨_,lo,rfl,by unfold maxLen;omega,fun e=>?_,c3⟩
    rcases Nat.eq_zero_or_pos lo with h | h
    ·exact h
    ·obtain ⟨g,e2,_⟩:=c3 (by omega)
     rw [e] at e2;cases e2
   rw [q2] at hF ⊢;exact ⟨oa,_,t1,_,t2,_,t3,u3,t4,u4,rfl,hF,K5,(S8.out.cells.keeps HKY hny).mono hws,(S8.out.owners.keeps HKY hny).mono hws,(S8.out.sts.keeps HKY hny).mono hws,(S8.out.next.keeps HKY hny).mono hws⟩
  ·have hlp:0 < ln:=by omega
   have he:enabM m ≠ []:=fun e=>h0 (by rw [e2,e];rfl)
   have h8:ln <= 1000:=by
    have h1:=enK_len m m.ths.length;rw [enK_all] at h1;have h2:=(rightU_all HRT.out).2.1;have h3:=hmm.ok.ths;omega
   obtain ⟨f',hw1,hw2,hw3,hw4⟩:=whN_step HRT.out ch (k:=es.length) hmm.ok he hf;have hsx:SrcAt wr (.slice ca ch.length cc) ch.length (ints ch):=HX.out wr (HK2.out.trans hkk (fun q hq e=>by have e:g0 <= q:=e;have:=HG0.out;have:=HY.out;omega) |>.mono (fun _ _ h=>h.elim));have HCH:=Lib.hid (chosen_any wr ca cc ch lo ln hsx hlp h8);obtain ⟨cc0,hc0⟩:∃ z,z=chN ch lo ln:=⟨_,rfl⟩
   have hclt:cc0 < ln:=by rw [hc0];exact chN_lt ch lo hlp
   have hsl':SrcAt wr (.slice la ln lc) (enabM m).length (ints (enabM m)):=by rw [<- e2];exact hsl
   obtain ⟨ad,cap,ee,hcl⟩:=hsl'.ints;obtain ⟨gl,ol,el,cl⟩:=hcl cc0 (by omega);simp only [Value.slice.injEq] at ee;obtain ⟨rfl,hz,rfl⟩:=ee;clear hz;subst el;obtain ⟨t,ht⟩:∃ z,z=(enabM m).getD cc0 0:=⟨_,rfl⟩
   have HT:Hid (t=whT ch es.length m):=by show _=_;rw [ht,hc0];unfold whT;rw [<- e2,<- e1]
   rw [<- ht] at cl;rw [<- hc0] at HCH;rcases hst:stepM u m t with ⟨m',⟨xt,xk,xo,xv,xb⟩,fl⟩
   have HST:Hid (Calls Tryz.prog 19 #[.pointer (some ⟨b,0,none⟩), .int .i64 t] wr fun e w'=>e=.returned (.tuple #[.agg #[.int .i64 xt, .int .i64 xk, .int .i64 xo, .int .i64 xv, .int .i64 xb], .int .i64 fl]) /\ Mach (NBO g0 (.slice oa lo oc)) w' b u m' /\ Keeps (fun q=>¬ NBO g0 (.slice oa lo oc) q) wr w'):=by
    have h:=hmm.step t;rw [hst] at h;exact h
   have HRES:Hid (R=((es++[(⟨xt,xk,xo,xv,xb⟩:Evt)])++(whN u ch f' (es++[(⟨xt,xk,xo,xv,xb⟩:Evt)]).length m').1,(whN u ch f' (es++[(⟨xt,xk,xo,xv,xb⟩:Evt)]).length m').2) /\ potM u m' <= f' /\ potM u m'+(lo+1) <= B /\ lo=es.length):=by
    rw [<- HT.out,hst] at hw1 hw2 hw3;rw [hw1] at hres;exact ⟨by rw [hres];simp,hw2,by have:=hw3;simp only at this;omega,e1⟩
   have HNEW:=Lib.hid hnew;have i1:(0:Int) <= cc0:=by omega
   have i2:(cc0:Int) < ln:=by omega
   have kr:=keep0 wr;clear HI e1 e2 hsl how hnew hmm hkk hpot hf hres he h8 hw1 hw2 hw3 hw4 hsx hsl' hcl ht hc0 hst hclt
   go_upto_region 9 with (first
    | (go_at_call 70;refine HCH.out.mono ?_;rintro e w5 ⟨rfl,rfl⟩)
    | (go_at_call 19;refine HST.out.mono ?_;rintro e w6 ⟨rfl,hm,hk⟩;have M6:=Lib.hid hm;have HK6:=Lib.hid hk;clear hm hk))
   obtain ⟨yx,w7,x1,x2,RX,KX,sX⟩:=newRow w6 [.int .i64 xt, .int .i64 xk, .int .i64 xo, .int .i64 xv, .int .i64 xb] 40;rw [x1,x2];have M7:=Lib.hid (M6.out.keeps0 KX);have HOW7:=Lib.hid (ownsRow_keeps (ownsRow_keeps HOW.out HK6.out (fun q e h=>h (.inr e))) KX (fun _ _ h=>h))
   have K27:Hid (Keeps (fun q=>g0 <= q) w2 w7):=(HKK.out.trans (HK6.out.mono (fun q _ hn=>by
    have hn':¬ q < g0:=fun h=>hn (.inl h)
    show g0 <= q
    omega)) (fun _ _ h=>h)).trans KX (fun _ _ h=>h.elim)
   have yx5:=RX.five;have k7:=keep0 w7;have lx:yx < w7.heap.size:=RX.lt (by simp);have nx:yx ≠ w7.heap.size:=by omega
   clear x1 x2 KX sX RX M6 HK6 HST HCH cl
   go_wp2_with (first
    | (at_builtin;refine wpList_append_src _ (by rfl) _ _ 58 (by rfl) 0 40 j0 _ 5 40 Tryz.underlying58 hj0 hy0 hy1 hy2 rfl (by decide) (.slice oa lo oc) lo (es.flatMap evC) (by rfl) (ownsRow_keeps HOW7.out ((Keeps.refl NoBlk _).alloc _) (fun _ _ h=>h)) (.slice (some ⟨w7.heap.size,0,none⟩) 1 1) 1 (evC ⟨xt,xk,xo,xv,xb⟩) (by rfl) (RowAt.src (RowAt.ofBlock (heap_alloc_new _ _))) rfl (by simp [evC,Value.oneCell']) (by unfold maxLen;omega) (by omega) (Nat.zero_le _) ?_;intro ad9 cap9 w8 hout;have HO:=Lib.hid hout;have M8:=Lib.hid (Mach.app (M7.out.keeps0 ((Keeps.refl _ _).alloc _)) hout);clear hout)
    | (go_at_call 22;refine M8.out.enabled.mono ?_;rintro e w9 ⟨v,rfl,ho,k9,hob⟩;obtain ⟨la2,lc2,evl⟩:∃ ad cap,v=.slice ad (enabM m').length cap:=NewRow.slice (w:=w) ho;subst evl;have HSL:=Lib.hid (own_src ho);have HK9:=Lib.hid k9;clear ho hob k9))
   have hB:=HB60.out;obtain ⟨r1,r2,r3,r4⟩:=HRES.out;have hlen:lo+1=(es++[(⟨xt,xk,xo,xv,xb⟩:Evt)]).length:=by rw [List.length_append,r4];rfl
   refine ⟨⟨m',es++[⟨xt,xk,xo,xv,xb⟩],ad9,cap9,la2,lc2,(enabM m').length,lo+1,rfl,rfl,by omega,hlen,rfl,HSL.out,?_,?_,M8.out.keeps0 HK9.out,?_,r3,f',r2,r1⟩,by simp [slLen];omega⟩
   ·rw [show (es++[(⟨xt,xk,xo,xv,xb⟩:Evt)]).flatMap evC=es.flatMap evC++evC ⟨xt,xk,xo,xv,xb⟩ by simp]
    exact ownsRow_keeps HO.out.1 HK9.out (fun _ _ h=>h)
   ·intro g e
    rcases HO.out.2.2 g e with h | h
    ·exact HNEW.out g h
    ·have h1:=K27.out.size
     have h2:=HG0.out;simp at h
     omega
   ·exact (HO.out.keeps (K27.out.alloc _) (fun q e _=>HNEW.out q e)).trans HK9.out (fun _ _ h=>h.elim)
end
def stC (x:StepV):List Value:=[.int .i64 x.t, .int .i64 x.c, .int .i64 x.e.thread, .int .i64 x.e.kind, .int .i64 x.e.obj, .int .i64 x.e.value, .int .i64 x.e.bad]
theorem stC_len (x:StepV):(stC x).length=7:=rfl
def stZ:StepV:=⟨0,0,Evt.zero⟩
theorem infoStp:(Tryz.prog.info? 68).map (fun i=>(i.zero,i.size,i.bytes))=some (some (.agg #[.int .i64 0, .int .i64 0, .int .i64 0, .int .i64 0, .int .i64 0, .int .i64 0, .int .i64 0]),7,56):=by kernel_rfl
theorem madeSt (n:Nat):(madeCells (Value.agg #[.int .i64 0, .int .i64 0, .int .i64 0, .int .i64 0, .int .i64 0, .int .i64 0, .int .i64 0]).cells (n*7)).toList=(List.replicate n stZ).flatMap stC:=by
 apply List.ext_getElem?
 intro k
 have hz:(Value.agg #[.int .i64 0, .int .i64 0, .int .i64 0, .int .i64 0, .int .i64 0, .int .i64 0, .int .i64 0]).cells=#[.int .i64 0, .int .i64 0, .int .i64 0, .int .i64 0, .int .i64 0, .int .i64 0, .int .i64 0]:=rfl;rw [hz];by_cases hk:k < n*7
 ·obtain ⟨i,j,hj,rfl⟩:∃ i j,j < 7 /\ k=i*7+j:=⟨k / 7,k % 7,Nat.mod_lt _ (by decide),by omega⟩
  have hi:i < n:=by omega
  rw [get_cells stC 7 stC_len (List.replicate n stZ) i j hj];simp only [madeCells,Array.toList_map,Array.toList_range,List.getElem?_map,List.getElem?_range hk,Option.map_some,List.getElem?_replicate,hi,if_true,Option.bind_some];have hm:(i*7+j) % 7=j:=by omega
  rcases (show j=0 \/ j=1 \/ j=2 \/ j=3 \/ j=4 \/ j=5 \/ j=6 by omega) with rfl | rfl | rfl | rfl | rfl | rfl | rfl <;> simp [hm,stZ,stC,Evt.zero]
 ·rw [List.getElem?_eq_none (by simp [madeCells];omega),List.getElem?_eq_none]
  rw [length_cells _ 7 stC_len];simp
  omega
theorem stp_set {w:World} {g i:Nat} {L:List StepV} (h:RowAt w g (L.flatMap stC)) (j:Nat) (hj:j < 7) (u:Value) {x y:StepV} (hx:L[i]?=some x) (hy:stC y=(stC x).set j u):RowAt (w.setCell ⟨g,i*7+j,none⟩ u) g ((L.set i y).flatMap stC):=by
 have hi:=(List.getElem?_eq_some_iff.1 hx).1;have:=h.set (i*7+j) (by rw [length_cells _ 7 stC_len];omega) u
 rwa [set_cells stC 7 stC_len L i j hj u x y hx hy] at this
def PlEnd (w:World) (r:List StepV × WMa) (e:Ending) (w':World):Prop :=
 ∃ oa oc a1 q1 a2 q2 a3 q3 a4 q4,e=.returned (.tuple #[.slice oa r.1.length oc, .agg #[.slice a1 r.2.cells.length q1, .slice a2 r.2.owners.length q2, .slice a3 r.2.ths.length q3, .slice a4 r.2.ths.length q4], .int .i64 0]) ∧
   FRow w' w.heap.size (.slice oa r.1.length oc) r.1.length (r.1.flatMap stC) /\ StaOut w r.2 (.slice a1 r.2.cells.length q1) (.slice a2 r.2.owners.length q2) (.slice a3 r.2.ths.length q3) (.slice a4 r.2.ths.length q4) w'
section
variable {cs:List Int} {mu:Int} {bs:List Bd} {w:World} {F:Nat -> Prop} {uca uta:Option Addr} {ucc utc:Nat}
set_option maxRecDepth 8000 in
set_option maxHeartbeats 8000000 in
theorem play_ok (h:UnIn w F cs bs uca uta) (sa:Option Addr) (sc:Nat) (ts:List Int) (hx:SrcAt w (.slice sa ts.length sc) ts.length (ints ts)) (hn:ts.length <= 1000) (hr:newR ⟨cs,mu,bs⟩=0):Calls Tryz.prog 34 #[.agg #[.slice uca cs.length ucc, .int .i64 mu, .slice uta bs.length utc], .slice sa ts.length sc] w (PlEnd w (plN ⟨cs,mu,bs⟩ (newM ⟨cs,mu,bs⟩) ts)):=by
 have hR:=newR_right hr;have HNW:Hid (∀ W,Keeps NoBlk w W -> Calls Tryz.prog 13 #[.agg #[.slice uca cs.length ucc, .int .i64 mu, .slice uta bs.length utc]] W fun e w'=>∃ b,e=.returned (.tuple #[.pointer (some ⟨b,0,none⟩), .int .i64 0]) /\ Mach (fun q=>q < W.heap.size) w' b ⟨cs,mu,bs⟩ (newM ⟨cs,mu,bs⟩) /\ Keeps NoBlk W w'):=fun W hk=>(h.keeps0 hk).newOk hr
 obtain ⟨u,hu⟩:∃ u:Un,u=⟨cs,mu,bs⟩:=⟨_,rfl⟩
 rw [<- hu] at HNW hR ⊢;have HX:Hid (∀ W,Keeps (fun q=>w.heap.size <= q) w W -> SrcAt W (.slice sa ts.length sc) ts.length (ints ts)):=fun W hk=>hx.up hk (Nat.le_refl _) (by simp [ints])
 obtain ⟨n,hnn⟩:∃ z,z=ts.length:=⟨_,rfl⟩
 have HN:=Lib.hid hnn;rw [<- hnn] at hn HX ⊢;have hb:decide ((1000:Int) < n)=false:=decide_eq_false (by omega);have hb2:(1000 < n)=False:=eq_false (by omega);obtain ⟨j0,hj0,hy0,hy1,hy2⟩:=info_parts infoStp;clear h hx hr hR hu hnn;go_enter Tryz.func34,Tryz.ntmps34
 go_upto_region 1 with fail
 obtain ⟨b1,w1,x1,z1,R1,K1,s1⟩:=newRow w [.slice uca cs.length ucc, .int .i64 mu, .slice uta bs.length utc] 25;try rw [x1]
 try rw [z1]
 obtain ⟨y,w2,x2,z2,R2,K2,s2⟩:=newRow w1 [.slice none 0 0, .slice none 0 0, .slice none 0 0, .slice none 0 0] 48;have n1:b1+1=y:=s1.out.symm.trans x2;try rw [n1]
 try rw [x2]
 try rw [z2]
 have y1:=(R1.keeps K2 (fun h=>h)).all3;have HRY:=Lib.hid R2;have k2:=keep0 w2;have HK2:Hid (Keeps NoBlk w w2):=K1.trans0 K2;have HY:Hid (w.heap.size <= y /\ y < w2.heap.size):=⟨by rw [<- x2];exact K1.size,R2.lt (by simp)⟩;have yy:=R2.all4;have f0:=rowFree R2 0 (by decide);have f1:=rowFree R2 1 (by decide);have f2:=rowFree R2 2 (by decide);have f3:=rowFree R2 3 (by decide);clear n1 x1 z1 x2 z2 R1 R2 K1 K2 s1 s2;go_upto_region 6 with (go_at_call 13;refine (HNW.out _ HK2.out).mono ?_;rintro e w3 ⟨b,rfl,hm,k3⟩;have HK3:=Lib.hid k3;have HM:=Lib.hid hm;clear hm k3)
 obtain ⟨g0,hg0⟩:∃ g,g=w2.heap.size:=⟨_,rfl⟩
 have HG0:=Lib.hid hg0;clear hg0 y1 yy f0 f1 f2 f3 k2 HNW;go_upto_region 7 with (refine wpList_make_full _ rfl _ _ _ rfl 0 68 j0 _ 7 Tryz.underlying62 hj0 hy0 hy1 _ _ _ _ n (by rfl) (by rfl) rfl rfl (by rw [hy2];omega) (by unfold maxLen;omega) (Nat.zero_le _) ?_;intro w4 hown hgr;rw [madeSt] at hown;have HOW:=Lib.hid hown;have HK4:Hid (Keeps NoBlk w3 w4):=(Keeps.refl _ _).grown hgr (fun k e=>by cases e);clear hown hgr)
 obtain ⟨go,hgo⟩:∃ z,z=w3.heap.size:=⟨_,rfl⟩
 rw [<- hgo] at HOW ⊢
 have M4:Hid (Mach (fun q=>q < g0 \/ q=go) w4 b u (newM u)):=by
  have h1:=HM.out.fresh HK4.out;refine h1.mono (fun q hq=>?_)
  rcases hq with h | h
  ·left;show q < _;have:=HG0.out;omega
  ·exact .inr ⟨by omega,by rw [h];exact ownsRow_lt HOW.out rfl⟩
 have HGO:Hid (g0 <= go):=by have:=HG0.out;have:=HK3.out.size;show _ <= _;omega
 have HR4:Hid (RowAt w4 go ((([]:List StepV)++List.replicate n stZ).flatMap stC)):=RowAt.ofOwns HOW.out;have HK24:Hid (Keeps (fun q=>g0 <= q) w2 w4):=(HK3.out.trans0 HK4.out).mono (fun _ _ h=>h.elim);clear HOW HM hgo HK3 HK4;go_wp2_with fail
 go_loopw [30] (fun iv wr=>∃ k:Nat,k <= n /\ iv=.int .i64 k /\ Hid (RowAt wr go (((plN u (newM u) (ts.take k)).1++List.replicate (n - k) stZ).flatMap stC) /\ Mach (fun q=>q < g0 \/ q=go) wr b u (plN u (newM u) (ts.take k)).2 /\ Keeps (fun q=>g0 <= q) w2 wr)) (fun iv _=>n - (intOf iv).toNat)
 case atStart=>exact ⟨0,Nat.zero_le _,rfl,HR4.out,M4.out,HK24.out⟩
 case round =>
  obtain ⟨k,hk,rfl,HI⟩:=hrel;clear HR4 M4 HK24;by_cases hlt:k < n
  ·have HRW:=Lib.hid HI.out.1
   have HMK:=Lib.hid HI.out.2.1;have HKK:=Lib.hid HI.out.2.2;have i1:(0:Int) <= k:=by omega
   have i2:(k:Int) < n:=by omega
   have hsx:SrcAt wr (.slice sa n sc) n (ints ts):=HX.out wr (HK2.out.trans HKK.out (fun q hq e=>by have e:g0 <= q:=e;have:=HG0.out;have:=HY.out;omega) |>.mono (fun _ _ h=>h.elim));have hsx':SrcAt wr (.slice sa n sc) ts.length (ints ts):=by rw [<- HN.out];exact hsx
   obtain ⟨ad,cap,ee,hcl⟩:=hsx'.ints;obtain ⟨gs,os,es,cs0⟩:=hcl k (by rw [<- HN.out];exact hlt);simp only [Value.slice.injEq] at ee;obtain ⟨rfl,hz,rfl⟩:=ee;clear hz;subst es;obtain ⟨t,ht⟩:∃ z,z=ts.getD k 0:=⟨_,rfl⟩
   rw [<- ht] at cs0;obtain ⟨m,hm⟩:∃ z,z=(plN u (newM u) (ts.take k)).2:=⟨_,rfl⟩
   obtain ⟨D,hD⟩:∃ z,z=(plN u (newM u) (ts.take k)).1:=⟨_,rfl⟩
   rw [<- hm] at HMK;rw [<- hD] at HRW;have HDL:Hid (D.length=k):=by show _=_;rw [hD,plN_len,List.length_take];have:=HN.out;omega
   have HTK:Hid (plN u (newM u) (ts.take (k+1))=(D++[⟨t,(stepM u m t).2.2,(stepM u m t).2.1⟩],(stepM u m t).1)):=by
    show _=_
    have hlt2:k < ts.length:=by rw [<- HN.out];exact hlt
    have e:ts.take (k+1)=ts.take k++[t]:=by rw [List.take_add_one,ht];simp [hlt2,List.getD]
    rw [e,plN_snoc,<- hm,<- hD]
   obtain ⟨L0,hL0⟩:∃ z,z=D++List.replicate (n - k) stZ:=⟨_,rfl⟩
   have h0:L0[k]?=some stZ:=by
    rw [hL0,List.getElem?_append_right (by rw [HDL.out];exact Nat.le_refl _),HDL.out,Nat.sub_self,List.getElem?_replicate,if_pos (by omega)]
   have HL0:=Lib.hid hL0;rw [<- hL0] at HRW;have hk0:k < L0.length:=(List.getElem?_eq_some_iff.1 h0).1;have HH0:Hid (L0[k]?=some stZ /\ k < L0.length):=⟨h0,hk0⟩;have hc0:∀ j,j < 7 -> k*7+j < (L0.flatMap stC).length:=fun j hj=>by rw [length_cells _ 7 stC_len];omega
   have fr:=rowFree HRW.out;have c0:∀ W,Keeps NoBlk wr W -> W.cell? ⟨go,k*7,none⟩=some (.int .i64 0):=cellAll (HRW.out.cell (by have:=get_cells stC 7 stC_len L0 k 0 (by decide);rw [h0] at this;exact this))
   have f0:∀ W,Keeps NoBlk wr W -> W.frozen? ⟨go,k*7,none⟩=false:=fr (k*7+0) (hc0 0 (by decide))
   have kr:=keep0 wr;clear HI hk hsx hsx' hcl ht hm hD hL0 h0 hk0 fr hc0;go_upto_region 11 with fail
   have HR1:=Lib.hid (stp_set HRW.out 0 (by decide) (.int .i64 t) (y:=⟨t,0,Evt.zero⟩) HH0.out.1 rfl);have HK1':Hid (Keeps (fun q=>q=go) wr (wr.setCell ⟨go,k*7,none⟩ (.int .i64 t))):=(Keeps.refl (fun q=>q=go) wr).setCell (p:=⟨go,k*7,none⟩) (fun _=>rfl) _;have HR1:Hid (RowAt (wr.setCell ⟨go,k*7,none⟩ (.int .i64 t)) go ((L0.set k ⟨t,0,Evt.zero⟩).flatMap stC)):=HR1;generalize wr.setCell ⟨go,k*7,none⟩ (.int .i64 t)=w5 at HR1 HK1' ⊢;have M5:=Lib.hid (HMK.out.keepsN (HK1'.out.mono (fun q _ e=>.inr e)));rcases hst:stepM u m t with ⟨m',⟨xt,xk,xo,xv,xb⟩,fl⟩;rw [hst] at HTK
   have HST:Hid (Calls Tryz.prog 19 #[.pointer (some ⟨b,0,none⟩), .int .i64 t] w5 fun e w'=>e=.returned (.tuple #[.agg #[.int .i64 xt, .int .i64 xk, .int .i64 xo, .int .i64 xv, .int .i64 xb], .int .i64 fl]) /\ Mach (fun q=>q < g0 \/ q=go) w' b u m' /\ Keeps (fun q=>¬ (q < g0 \/ q=go)) w5 w'):=by
    have h:=M5.out.step t;rw [hst] at h;exact h
   obtain ⟨L1,hL1⟩:∃ z,z=L0.set k ⟨t,0,Evt.zero⟩:=⟨_,rfl⟩
   have h1:L1[k]?=some ⟨t,0,Evt.zero⟩:=by rw [hL1];exact List.getElem?_set_self HH0.out.2
   rw [<- hL1] at HR1;have HL1:Hid (L1=L0.set k ⟨t,0,Evt.zero⟩ /\ L1[k]?=some ⟨t,0,Evt.zero⟩ /\ k < L1.length):=⟨hL1,h1,(List.getElem?_eq_some_iff.1 h1).1⟩;have k5:=keep0 w5;clear hst c0 f0 cs0 hL1 h1 kr;go_wp2_with (go_at_call 19;refine HST.out.mono ?_;rintro e w6 ⟨rfl,hm,hkk⟩;have M6:=Lib.hid hm;have HK6:=Lib.hid hkk;have HR6:Hid (RowAt w6 go (L1.flatMap stC)):=HR1.out.keeps hkk (fun h=>h (.inr rfl));have k6:=keep0 w6;have hc1:∀ j,j < 7 -> k*7+j < (L1.flatMap stC).length:=(fun j hj=>by rw [length_cells _ 7 stC_len];have:=HL1.out.2.2;omega);have fr:=rowFree HR6.out;have f1:=fr (k*7+1) (hc1 1 (by decide));have f2:=fr (k*7+2) (hc1 2 (by decide));have f3:=fr (k*7+3) (hc1 3 (by decide));have f4:=fr (k*7+4) (hc1 4 (by decide));have f5:=fr (k*7+5) (hc1 5 (by decide));have f6:=fr (k*7+6) (hc1 6 (by decide));have gc:=(fun j (hj:j < 7)=>get_cells stC 7 stC_len L1 k j hj);rw [HL1.out.2.1] at gc;have c1:=cellAll (HR6.out.cell (gc 1 (by decide)));have c2:=cellAll (HR6.out.cell (gc 2 (by decide)));have c3:=cellAll (HR6.out.cell (gc 3 (by decide)));have c4:=cellAll (HR6.out.cell (gc 4 (by decide)));have c5:=cellAll (HR6.out.cell (gc 5 (by decide)));have c6:=cellAll (HR6.out.cell (gc 6 (by decide)));clear hm hkk fr hc1 gc)
   have p0:=stp_set HR6.out 2 (by decide) (.int .i64 xt) (y:=⟨t,0,⟨xt,0,0,0,0⟩⟩) (HL1.out.2.1) rfl;have p1:=stp_set p0 3 (by decide) (.int .i64 xk) (y:=⟨t,0,⟨xt,xk,0,0,0⟩⟩) (List.getElem?_set_self (by first | exact HL1.out.2.2 | (simp only [List.length_set];exact HL1.out.2.2))) rfl;have p2:=stp_set p1 4 (by decide) (.int .i64 xo) (y:=⟨t,0,⟨xt,xk,xo,0,0⟩⟩) (List.getElem?_set_self (by first | exact HL1.out.2.2 | (simp only [List.length_set];exact HL1.out.2.2))) rfl;have p3:=stp_set p2 5 (by decide) (.int .i64 xv) (y:=⟨t,0,⟨xt,xk,xo,xv,0⟩⟩) (List.getElem?_set_self (by first | exact HL1.out.2.2 | (simp only [List.length_set];exact HL1.out.2.2))) rfl;have p4:=stp_set p3 6 (by decide) (.int .i64 xb) (y:=⟨t,0,⟨xt,xk,xo,xv,xb⟩⟩) (List.getElem?_set_self (by first | exact HL1.out.2.2 | (simp only [List.length_set];exact HL1.out.2.2))) rfl;have p5:=stp_set p4 1 (by decide) (.int .i64 fl) (y:=⟨t,fl,⟨xt,xk,xo,xv,xb⟩⟩) (List.getElem?_set_self (by first | exact HL1.out.2.2 | (simp only [List.length_set];exact HL1.out.2.2))) rfl;simp only [List.set_set] at p5;have K67:Keeps (fun q=>q=go) w6 ((((((w6.setCell ⟨go,k*7+2,none⟩ (.int .i64 xt)).setCell ⟨go,k*7+2+1,none⟩ (.int .i64 xk)).setCell ⟨go,k*7+2+2,none⟩ (.int .i64 xo)).setCell ⟨go,k*7+2+3,none⟩ (.int .i64 xv)).setCell ⟨go,k*7+2+4,none⟩ (.int .i64 xb)).setCell ⟨go,k*7+1,none⟩ (.int .i64 fl)):=(((((((Keeps.refl (fun q=>q=go) w6).setCell (p:=⟨go,k*7+2,none⟩) (fun _=>rfl) (.int .i64 xt)).setCell (p:=⟨go,k*7+2+1,none⟩) (fun _=>rfl) (.int .i64 xk)).setCell (p:=⟨go,k*7+2+2,none⟩) (fun _=>rfl) (.int .i64 xo)).setCell (p:=⟨go,k*7+2+3,none⟩) (fun _=>rfl) (.int .i64 xv)).setCell (p:=⟨go,k*7+2+4,none⟩) (fun _=>rfl) (.int .i64 xb)).setCell (p:=⟨go,k*7+1,none⟩) (fun _=>rfl) (.int .i64 fl));have p5:RowAt ((((((w6.setCell ⟨go,k*7+2,none⟩ (.int .i64 xt)).setCell ⟨go,k*7+2+1,none⟩ (.int .i64 xk)).setCell ⟨go,k*7+2+2,none⟩ (.int .i64 xo)).setCell ⟨go,k*7+2+3,none⟩ (.int .i64 xv)).setCell ⟨go,k*7+2+4,none⟩ (.int .i64 xb)).setCell ⟨go,k*7+1,none⟩ (.int .i64 fl)) go ((L1.set k ⟨t,fl,⟨xt,xk,xo,xv,xb⟩⟩).flatMap stC):=p5
   generalize ((((((w6.setCell ⟨go,k*7+2,none⟩ (.int .i64 xt)).setCell ⟨go,k*7+2+1,none⟩ (.int .i64 xk)).setCell ⟨go,k*7+2+2,none⟩ (.int .i64 xo)).setCell ⟨go,k*7+2+3,none⟩ (.int .i64 xv)).setCell ⟨go,k*7+2+4,none⟩ (.int .i64 xb)).setCell ⟨go,k*7+1,none⟩ (.int .i64 fl))=w7 at p5 K67 ⊢
   have eL:L1.set k ⟨t,fl,⟨xt,xk,xo,xv,xb⟩⟩=(D++[(⟨t,fl,⟨xt,xk,xo,xv,xb⟩⟩:StepV)])++List.replicate (n - (k+1)) stZ:=by
    rw [HL1.out.1,List.set_set,HL0.out,List.set_append_right _ _ (by rw [HDL.out];exact Nat.le_refl _),HDL.out,Nat.sub_self];obtain ⟨q,hq⟩:∃ q,n - k=q+1:=⟨n - k - 1,by omega⟩
    rw [hq,List.replicate_succ,show n - (k+1)=q by omega,List.append_assoc];rfl
   rw [eL] at p5
   have hkk:Keeps (fun q=>g0 <= q) w2 w7:=(((HKK.out.trans (HK1'.out.mono (fun q _ e=>by have e':q=go:=e;have:=HGO.out;show g0 <= q;omega)) (fun _ _ h=>h)).trans (HK6.out.mono (fun q _ hn=>by
    have hn':¬ q < g0:=fun h=>hn (.inl h)
    show g0 <= q
    omega)) (fun _ _ h=>h))).trans (K67.mono (fun q _ e=>by have e':q=go:=e;have:=HGO.out;show g0 <= q;omega)) (fun _ _ h=>h)
   refine ⟨⟨k+1,by omega,by go_num,?_,?_,hkk⟩,by simp [intOf];omega⟩
   ·rw [HTK.out];exact p5
   ·rw [HTK.out];exact M6.out.keepsN (K67.mono (fun q _ e=>.inr e))
  ·have hkn:k=n:=by omega
   subst hkn;have HRW:=Lib.hid HI.out.1;have HMK:=Lib.hid HI.out.2.1;have HKK:=Lib.hid HI.out.2.2;have htk:ts.take k=ts:=by rw [HN.out];exact List.take_length
   rw [htk,Nat.sub_self,List.replicate_zero,List.append_nil] at HRW;rw [htk] at HMK;obtain ⟨m,hm⟩:∃ z,z=(plN u (newM u) ts).2:=⟨_,rfl⟩
   obtain ⟨D,hD⟩:∃ z,z=(plN u (newM u) ts).1:=⟨_,rfl⟩
   have HPL:Hid (plN u (newM u) ts=(D,m) /\ D.length=k):=⟨by rw [hm,hD],by rw [hD,plN_len];exact HN.out.symm⟩;rw [<- hm] at HMK;rw [<- hD] at HRW;have SE:=Lib.hid HMK.out.state;have HRYr:=Lib.hid (HRY.out.keeps HKK.out (fun h=>by have h:g0 <= y:=h;have:=HG0.out;have:=HY.out.2;omega));have yy:=HRYr.out.all4;have f0:=rowFree HRYr.out 0 (by decide);have f1:=rowFree HRYr.out 1 (by decide);have f2:=rowFree HRYr.out 2 (by decide);have f3:=rowFree HRYr.out 3 (by decide);have HGS:Hid (g0 <= wr.heap.size):=by have:=HG0.out;have:=HKK.out.size;show _ <= _;omega
   have kr:=keep0 wr;clear hlt hk htk hm hD HI;go_wp2_with (go_at_call 24;refine SE.out.mono ?_;rintro e w8 ⟨t1,t2,c3,c4,rfl,hs⟩;obtain ⟨t3,u3,e3⟩:=hs.sts.form;obtain ⟨t4,u4,e4⟩:=hs.next.form;subst e3 e4;have S8:=Lib.hid hs;have k8:=hs.keeps;clear hs)
   have K28:Hid (Keeps NoBlk w w8):=(HK2.out.trans HKK.out (fun q hq e=>by have e:g0 <= q:=e;have:=HG0.out;have:=HY.out;omega)).trans0 k8;have HKY:=putL_keeps y [.slice t1 m.cells.length m.cells.length, .slice t2 m.owners.length m.owners.length, .slice t3 m.ths.length u3, .slice t4 m.ths.length u4] 0 w8;obtain ⟨R5,K5⟩:=putL_new (w:=w) [.slice t1 m.cells.length m.cells.length, .slice t2 m.owners.length m.owners.length, .slice t3 m.ths.length u3, .slice t4 m.ths.length u4] (HRYr.out.keeps k8 (fun h=>h)) rfl K28.out HY.out.1;simp only [putL,Nat.zero_add,Nat.reduceAdd] at R5 K5 HKY;generalize (((w8.setCell ⟨y,0,none⟩ (.slice t1 m.cells.length m.cells.length)).setCell ⟨y,1,none⟩ (.slice t2 m.owners.length m.owners.length)).setCell ⟨y,2,none⟩ (.slice t3 m.ths.length u3)).setCell ⟨y,3,none⟩ (.slice t4 m.ths.length u4)=wz at R5 K5 HKY ⊢;refine bodyPost_ret (v:=.tuple #[.slice (some ⟨go,0,none⟩) k k, .agg #[.slice t1 m.cells.length m.cells.length, .slice t2 m.owners.length m.owners.length, .slice t3 m.ths.length u3, .slice t4 m.ths.length u4], .int .i64 0]) (by simp [results,Tryz.results34,go_sem,R5.cell (k:=0) rfl,R5.cell (k:=1) rfl,R5.cell (k:=2) rfl,R5.cell (k:=3) rfl]) rfl ?_
   obtain ⟨q1,q2⟩:=HPL.out;rw [q1];have hny:∀ q,wr.heap.size <= q -> ¬ (fun q=>q=y) q:=fun q hq e=>by have e':q=y:=e;have:=HGS.out;have:=HY.out.2;have:=HG0.out;omega
   have hws:w.heap.size <= wr.heap.size:=by have:=HGS.out;have:=HG0.out;have:=HY.out;omega
   have hgy:¬ go=y:=by have:=HGO.out;have:=HY.out.2;have:=HG0.out;omega
   have hF:FRow wz w.heap.size (.slice (some ⟨go,0,none⟩) k k) k (D.flatMap stC):=by
    refine ⟨some ⟨go,0,none⟩,k,rfl,by unfold maxLen;omega,fun e=>(by cases e),fun _=>⟨go,rfl,?_,(HRW.out.keeps k8 (fun h=>h)).keeps HKY hgy⟩⟩
    have:=HGO.out;have:=HG0.out;have:=HY.out;omega
   rw [<- q2] at hF ⊢;exact ⟨_,_,t1,_,t2,_,t3,u3,t4,u4,rfl,hF,K5,(S8.out.cells.keeps HKY hny).mono hws,(S8.out.owners.keeps HKY hny).mono hws,(S8.out.sts.keeps HKY hny).mono hws,(S8.out.next.keeps HKY hny).mono hws⟩
end
end Go.Proofs.YtnmifekgdkgknaaGreatDoor
