/- Layer K: texts joined. -/
import Derived.Test.YtfokdllgnblamaaGreatDoorK43
set_option linter.all false
set_option maxHeartbeats 8000000
set_option maxRecDepth 8000
namespace Go.Proofs.YtfokdllgnblamaaGreatDoor
open Go.RowKit
theorem J23 (P:Prop) (h:P:=by
 rcases (show q=0 \/ q=1 \/ q=2 \/ q=3 \/ q=4 \/ q=5 by omega) with rfl | rfl | rfl | rfl | rfl | rfl
 all_goals (simp only [yD,yE,yO] at ho;subst ho;simp only [zJ,yD,yE,yL,Option.bind,Act.put,yF,yG,yH] at hK ⊢;clear hq)
 all_goals try ((try (have e:vs 0=_:=hd 0 (by decide +kernel);rw [e] at hK ⊢;clear e));(try (have e:vs 1=_:=hd 1 (by decide +kernel);rw [e] at hK ⊢;clear e));(try (have e:vs 2=_:=hd 2 (by decide +kernel);rw [e] at hK ⊢;clear e));(try (have e:vs 3=_:=hd 3 (by decide +kernel);rw [e] at hK ⊢;clear e));(try (have e:vs 4=_:=hd 4 (by decide +kernel);rw [e] at hK ⊢;clear e));(try (have e:vs 5=_:=hd 5 (by decide +kernel);rw [e] at hK ⊢;clear e));clear hd;go_wp2_with (fail);first | exact hK _ _ (yC _ _) rfl)):P:=h
section
variable {w:World} {T:zS} {F:Nat -> Prop} {id b i:Nat} {u:Un} {p:zAn} {m:zm} {H:List HTh}
theorem RM.nx (h:RM w T F id b u p m H) (hm:m.ok u) (hi:i < m.zM.length) (h2:(m.get i).st=2) :
 ((m.get i).next=none /\ (m.get i).fs=[] /\ Ret w 43 #[.pointer (some ⟨p.gt,i*3,none⟩)] (.tuple #[zMS, .bool false])) \/ ∃ a f r xa xc ta tc ea ec bd,(m.get i).next=some a /\ (m.get i).fs.getLast?=some f /\ f.rest=a :: r /\ u.threads[i]?=some bd /\ Ac.may u bd.regs a=true /\ (m.get i).regs.length=bd.regs.toNat /\ 2 <= a.kind /\ a.kind <= 9 /\ zN w F a.ex.args xa /\ Ret w 43 #[.pointer (some ⟨p.gt,i*3,none⟩)] (.tuple #[.agg #[.int .i64 a.kind, .int .i64 a.reg, .int .i64 a.obj, .int .i64 a.ex.kind, .int .i64 a.ex.num, .string a.ex.nm, .slice xa a.ex.args.length xc, .int .i64 a.count, .slice ta a.thn.length tc, .slice ea a.els.length ec], .bool true]):=by
 obtain ⟨bd,hbd,hok,_⟩:=hm.th hi;have hfo:=hok.2.1 (by rw [h2];decide);rcases zDv (hok.2.2 h2) hfo.2 with ⟨h3,h4⟩ | ⟨a,f,r,h3,h4,h5,h6,h7⟩
 ·refine .inl ⟨h3,h4,?_⟩
  obtain ⟨rv,fv,hH,_,hfs⟩:=h.zM.get (xL hi);rw [h4] at hfs;obtain ⟨css,_,_,_,⟨ad,cap,rfl⟩,_⟩:=hfs;have c:=(zAA h.zM.row hH).2.2;exact fun W hk=>zKb (zV (hk.cell (fun h=>h) c))
 ·have hsp:=zAr h4
  obtain ⟨rv,gp,cap,css,cs,hL⟩:=zAV.zIU zR h.zM (xL hi) hsp;have hfo2:=hfo.2;rw [hsp] at hfo2;obtain ⟨ad,ac,at_,rfl,hacs,hrest,hle,hcn⟩:=hL.pl.at
  have hlt:at_ < f.all.length:=by
   have:=kJ List.length hrest
   rw [h5,xZ,List.length_drop] at this;omega
  have ha:f.all[at_]=a:=by
   have e:f.all.drop at_=a :: r:=hrest.symm.trans h5;rw [List.drop_eq_getElem_cons hlt] at e;exact (List.cons.inj e).1
  obtain ⟨ga,oa,xa,xc,ta,tc,ea,ec,rfl,hga,d,hx,ht,he⟩:=hacs.cells hlt;rw [ha] at d hx;refine .inr ⟨a,f,r,xa,xc,ta,tc,ea,ec,bd,h3,h4,h5,hbd,h6,hfo.1,h7.1,h7.2,hx,?_⟩
  have p0:=hL.cell 0 rfl;rw [vF] at p0;have p1:=hL.cell 1 rfl;have p2:=hL.cell 2 rfl;have c2:=hL.fv;exact fun W hk=>zMF hfo2.split.2 hlt (fun W' q=>(hk.zB q).cell (fun h=>h) c2) (fun W' q=>⟨(hk.zB q).cell (fun h=>h) p0,(hk.zB q).cell (fun h=>h) p1,(hk.zB q).cell (fun h=>h) p2⟩) (fun W' q=>d W' (hk.zB q))
theorem zDq (h:RM w T F id b u p m H) (hm:m.ok u) (hi:i < m.zM.length) :
 Ret w 42 #[.pointer (some ⟨b,0,none⟩), .int .i64 i] (.agg #[.int .i64 (zAS m i).1, .int .i64 (zAS m i).2]):=fun W hk=>by
 replace h:=xQ zR zo h hk;have hs:=h.st hi;by_cases h2:(m.get i).st=2
 ·rw [h2] at hs
  rcases RM.nx h hm hi h2 with ⟨h3,h4,hn⟩ | ⟨a,f,r,xa,xc,ta,tc,ea,ec,bd,h3,h4,h5,hbd,h6,hrl,k2,k9,hx,hn⟩
  ·have e:zAS m i=(9,(i:Int)):=J215 _
   rw [e];exact zMO hi h.zA1 hs hn
  ·have e:zAS m i=(a.kind - 1,a.obj):=J215 _
   rw [e];exact zMv ⟨k2,k9⟩ hi h.zA1 hs hn
 ·have e:zAS m i=(0,0):=by unfold zAS;rw [if_pos h2]
  rw [e];exact zJ1 h2 hi h.zA1 hs
end
theorem zKG {w:World} {b i:Nat} {o:Int} (HA:Ret w 42 #[.pointer (some ⟨b,0,none⟩), .int .i64 i] (.agg #[.int .i64 0, .int .i64 o]))
 :
 Calls Tryz.prog 41 #[.pointer (some ⟨b,0,none⟩), .int .i64 i] w fun e w'=>e=.returned (.bool false) /\ Keeps zA w w':=by
 have k0:=zH w;go_enter Tryz.func41,Tryz.ntmps41
 go_upto_region 2 with (go_at_call 42;refine HA.call k0 ?_;intro w1 K1 k1;have HK1:=yB K1;clear K1)
 obtain ⟨b5,w5,e3,e4,R4,K4,_⟩:=newRow w1 [.int .i64 0, .int .i64 o] 91;rw [e3,e4];have HB4:Hid (Keeps zA w w5):=HK1.out.zB K4;have y4:=R4.all2;have k4:=zH w5;clear e3 e4 R4 K4 k1;go_wp2_with fail
 go_ret
 exact ⟨rfl,HB4.out⟩
theorem zKX {w:World} {b i go no oc:Nat} {o v:Int} (h0:0 <= o) (hlt:o < no) (hb:∀ W,Keeps zA w W -> W.cell? ⟨b,4,none⟩=some (.slice (some ⟨go,0,none⟩) no oc)) (hc:∀ W,Keeps zA w W -> W.cell? ⟨go,o.toNat,none⟩=some (.int .i64 v)) (HA:Ret w 42 #[.pointer (some ⟨b,0,none⟩), .int .i64 i] (.agg #[.int .i64 4, .int .i64 o]))
 :
 Calls Tryz.prog 41 #[.pointer (some ⟨b,0,none⟩), .int .i64 i] w fun e w'=>e=.returned (.bool (decide (v < 0))) /\ Keeps zA w w':=by
 have k0:=zH w;have eo:((o.toNat:Nat):Int)=o:=by omega
 go_enter Tryz.func41,Tryz.ntmps41
 go_upto_region 2 with (go_at_call 42;refine HA.call k0 ?_;intro w1 K1 k1;have HK1:=yB K1;clear K1)
 obtain ⟨b5,w5,e3,e4,R4,K4,_⟩:=newRow w1 [.int .i64 4, .int .i64 o] 91;rw [e3,e4];have HB4:Hid (Keeps zA w w5):=HK1.out.zB K4;have y4:=R4.all2;have k4:=zH w5;replace hb:=fun W (q:Keeps zA w5 W)=>hb W (HB4.out.zB q)
 replace hc:=fun W (q:Keeps zA w5 W)=>hc W (HB4.out.zB q)
 clear e3 e4 R4 K4 k1;go_upto_region 6 with fail
 go_quiet (fail)
 go_wp2_with fail
 go_ret
 exact ⟨rfl,HB4.out.drewN _⟩
theorem zKo {w:World} {b i gt nm ct:Nat} {o s:Int} (h0:0 <= o) (hlt:o < nm) (hb:∀ W,Keeps zA w W -> W.cell? ⟨b,5,none⟩=some (.slice (some ⟨gt,0,none⟩) nm ct)) (hc:∀ W,Keeps zA w W -> W.cell? ⟨gt,o.toNat*3,none⟩=some (.int .i64 s)) (HA:Ret w 42 #[.pointer (some ⟨b,0,none⟩), .int .i64 i] (.agg #[.int .i64 7, .int .i64 o]))
 :
 Calls Tryz.prog 41 #[.pointer (some ⟨b,0,none⟩), .int .i64 i] w fun e w'=>e=.returned (.bool (s==1 || s==3)) /\ Keeps zA w w':=by
 have k0:=zH w;have eo:((o.toNat:Nat):Int)=o:=by omega
 go_enter Tryz.func41,Tryz.ntmps41
 go_upto_region 2 with (go_at_call 42;refine HA.call k0 ?_;intro w1 K1 k1;have HK1:=yB K1;clear K1)
 obtain ⟨b5,w5,e3,e4,R4,K4,_⟩:=newRow w1 [.int .i64 7, .int .i64 o] 91;rw [e3,e4];have HB4:Hid (Keeps zA w w5):=HK1.out.zB K4;have y4:=R4.all2;have k4:=zH w5;replace hb:=fun W (q:Keeps zA w5 W)=>hb W (HB4.out.zB q)
 replace hc:=fun W (q:Keeps zA w5 W)=>hc W (HB4.out.zB q)
 clear e3 e4 R4 K4 k1;go_upto_region 8 with fail
 go_quiet (fail)
 by_cases e2:s=1
 ·subst e2
  go_wp2_with fail
  go_ret
  exact ⟨rfl,HB4.out.drewN _⟩
 ·have n2:(s==1)=false:=yY e2
  go_wp2_with fail
  go_ret
  exact ⟨by rw [n2];rfl,HB4.out.drewN _⟩
theorem zFm {w:World} {b i:Nat} {k o:Int} (h0:k ≠ 0) (h4:k ≠ 4) (h7:k ≠ 7) (HA:Ret w 42 #[.pointer (some ⟨b,0,none⟩), .int .i64 i] (.agg #[.int .i64 k, .int .i64 o]))
 :
 Calls Tryz.prog 41 #[.pointer (some ⟨b,0,none⟩), .int .i64 i] w fun e w'=>e=.returned (.bool true) /\ Keeps zA w w':=by
 have k0:=zH w;have n0:(k==0)=false:=yY h0;have n4:(k==4)=false:=yY h4;have n7:(k==7)=false:=yY h7;go_enter Tryz.func41,Tryz.ntmps41
 go_upto_region 2 with (go_at_call 42;refine HA.call k0 ?_;intro w1 K1 k1;have HK1:=yB K1;clear K1)
 obtain ⟨b5,w5,e3,e4,R4,K4,_⟩:=newRow w1 [.int .i64 k, .int .i64 o] 91;rw [e3,e4];have HB4:Hid (Keeps zA w w5):=HK1.out.zB K4;have y4:=R4.all2;have k4:=zH w5;clear e3 e4 R4 K4 k1;go_wp2_with fail
 go_ret
 exact ⟨rfl,HB4.out⟩
section
variable {w:World} {T:zS} {F:Nat -> Prop} {id b i:Nat} {u:Un} {p:zAn} {m:zm} {H:List HTh}
theorem zDR (h:RM w T F id b u p m H) (hm:m.ok u) (hi:i < m.zM.length) :
 Ret w 41 #[.pointer (some ⟨b,0,none⟩), .int .i64 i] (.bool (zAa m i)):=fun W hk=>by
 replace h:=xQ zR zo h hk;have HA:=zDq h hm hi;by_cases h2:(m.get i).st=2
 ·rcases RM.nx h hm hi h2 with ⟨h3,h4,hn⟩ | ⟨a,f,r,xa,xc,ta,tc,ea,ec,bd,h3,h4,h5,hbd,h6,hrl,k2,k9,hx,hn⟩
  ·have e:zAS m i=(9,(i:Int)):=J215 _
   have e2:zAa m i=true:=by unfold zAa;rw [e];rfl
   rw [e2];rw [e] at HA;exact zFm (by simp) (by simp) (by simp) HA
  ·have e:zAS m i=(a.kind - 1,a.obj):=J215 _
   rw [e] at HA;by_cases k5:a.kind=5
   ·obtain ⟨o1,o2⟩:=zC3 h6 (.inl k5)
    have hlt:a.obj.toNat < m.owners.length:=by rw [hm.owners];omega
    have hown:=hm.own _ (yM hlt);have eg:m.owners.getD a.obj.toNat 0=m.owners[a.obj.toNat]:=by simp [List.getD,hlt]
    have e2:zAa m i=decide (m.owners.getD a.obj.toNat 0 < 0):=by
     unfold zAa;rw [e,k5];show decide (_=-1)=_
     rw [eg];by_cases hz:m.owners[a.obj.toNat]=-1
     ·rw [hz];rfl
     ·rw [xK hz,xK (by omega)]
    rw [e2];rw [show a.kind - 1=4 by omega] at HA;obtain ⟨g,cap,e3,_,hr⟩:=h.owners.at hlt;have e3:Value.slice p.oad m.owners.length p.ocap=.slice (some ⟨g,0,none⟩) m.owners.length cap:=e3;have hb:=h.zIm;rw [e3] at hb;exact zKX o1 (by omega) hb (zV (hr.cell (zu m.owners _ hlt))) HA
   ·by_cases k8:a.kind=8
    ·obtain ⟨o1,o2⟩:=zDD h6 (.inr k8)
     have hlt:a.obj.toNat < m.zM.length:=by rw [hm.zM];omega
     have hst:(m.get a.obj.toNat).st=1 \/ (m.get a.obj.toNat).st=2 \/ (m.get a.obj.toNat).st=3 \/ (m.get a.obj.toNat).st=4:=by
      obtain ⟨bd2,_,hok2,_⟩:=hm.th hlt;exact hok2.1
     have e2:zAa m i=((m.get a.obj.toNat).st==1 || (m.get a.obj.toNat).st==3):=by
      unfold zAa;rw [e,k8];show (decide _&&decide _)=_
      rcases hst with e | e | e | e <;> rw [e] <;> rfl
     rw [e2];rw [show a.kind - 1=7 by omega] at HA;exact zKo o1 (by omega) h.zA1 (h.st hlt) HA
    ·have e2:zAa m i=true:=by
      exact J142 _
     rw [e2];exact zFm (by omega) (by omega) (by omega) HA
 ·have e:zAS m i=(0,0):=by unfold zAS;rw [if_pos h2]
  have e2:zAa m i=false:=by unfold zAa;rw [e];rfl
  rw [e2];rw [e] at HA;exact zKG HA
end
theorem zHC (w:World) (b gt nm ct:Nat) (m:zm) (h8:nm <= 8) (k5:∀ W,Keeps zA w W -> W.cell? ⟨b,5,none⟩=some (.slice (some ⟨gt,0,none⟩) nm ct))
 (HA:∀ i,i < nm -> Ret w 41 #[.pointer (some ⟨b,0,none⟩), .int .i64 i] (.bool (zAa m i))) :
 Calls Tryz.prog 13 #[.pointer (some ⟨b,0,none⟩)] w (zBW w (enK m nm)):=by
 obtain ⟨i0,hi0,hz0,hz1,hz2⟩:=info_parts zA3;have n1:(0:Int) <= nm:=by omega
 have HAA:Hid (∀ i,i < nm -> Ret w 41 #[.pointer (some ⟨b,0,none⟩), .int .i64 i] (.bool (zAa m i))):=HA;have k0:=zH w;clear HA;go_enter Tryz.func13,Tryz.ntmps13
 go_wp2_with fail
 go_loopw [3,4] (fun v i wr=>∃ k mm adv capv,k <= nm /\ i=.int .i64 (k:Nat) /\ v=.slice adv mm capv /\ Hid (mm=(enK m k).length /\ wr.ownsRow 0 3 1 (.slice adv mm capv) mm (ints (enK m k))) /\ Hid (Keeps zA w wr) /\ Hid (∀ kb,(Value.slice adv mm capv).ownBlock=some kb -> w.heap.size <= kb)) (fun _ i _=>nm - (intOf i).toNat)
 case atStart=>exact ⟨0,0,none,0,yJ _,rfl,rfl,⟨rfl,xJ _ _ _ _⟩,yC _ _,fun kb e=>by exact J190 _⟩
 case round =>
  obtain ⟨k,mm,adv,capv,hk,rfl,rfl,hown,hb,hq⟩:=hrel;have k5r:=k5 wr hb.out;by_cases hlt:k < nm
  ·have i1:(0:Int) <= k:=by omega
   have i2:(k:Int) < (nm:Int):=by omega
   have hm:Hid (mm <= 8):=by
    have h1:=zFg m k;have h2:=hown.out.1;show mm <= 8
    omega
   have HP:=yB (zHz m k);have HR:=HAA.out k hlt;generalize hr:zAa m k=r at HP HR;clear hr;cases r
   ·have HQ:Hid (mm=(enK m (k+1)).length /\ wr.ownsRow 0 3 1 (.slice adv mm capv) mm (ints (enK m (k+1)))):=by rw [HP.out];exact hown.out
    clear HP hown;go_wp2_with (go_at_call 41;refine HR.call hb.out ?_;intro w1 g0 g1;have G0:=yB g0;have G1:=yB g1;clear g0 g1)
    exact J88 _
   ·have HQ:Hid (enK m (k+1)=enK m k++[(k:Int)]):=by rw [HP.out];exact rfl
    clear HP;go_wp2_with (first | (go_at_call 41;refine HR.call hb.out ?_;intro w1 g0 g1;have G0:=yB g0;have G1:=yB g1;have hs1:wr.heap.size <= w1.heap.size:=g1.size;have ho1:Hid (w1.ownsRow 0 3 1 (.slice adv mm capv) mm (ints (enK m k))):=(by exact zG hown.out.2 g1 (fun _ _ h=>h));clear g0 g1) | (at_builtin;refine wpList_append_lies _ (by rfl) _ _ 22 (by rfl) 0 3 i0 _ 1 8 xG hi0 hz0 hz1 hz2 rfl (by decide) (.slice adv mm capv) mm _ (by rfl) (by exact ho1.out.alloc _) ⟨w1.heap.size,0,none⟩ 1 1 [.int .i64 k] (by rfl) (by rfl) (World.news_of_block (cs:=#[.int .i64 k]) (t:=3) (fr:=(0,0)) (yK w1 _)) (by simp [Value.oneCell']) (by decide) (by have:=hm.out;unfold maxLen;omega) (by have:=hm.out;omega) (yJ _) (w1.heap.size+1) (by simp) ?_;intro gg cm' w6 hown6 hgr6 hat6 hlt6;have hB6:Hid (Keeps zA w w6):=(J262 _);have hO6:Hid (mm+1=(enK m (k+1)).length /\ w6.ownsRow 0 3 1 (.slice (some ⟨gg,0,none⟩) (mm+1) cm') (mm+1) (ints (enK m (k+1)))):=(J242 _);have hG6:Hid (∀ kb,(Value.slice (some ⟨gg,0,none⟩) (mm+1) cm').ownBlock=some kb -> w.heap.size <= kb):=(J245 _);clear hown6 hgr6 hat6 hlt6))
    exact J126 _
  ·exact J111 _
theorem zKk {w:World} {b:Nat} {xs:List Int} (HE:Hid (Calls Tryz.prog 13 #[.pointer (some ⟨b,0,none⟩)] w (zBW w xs))) :
 Calls Tryz.prog 40 #[.pointer (some ⟨b,0,none⟩)] w fun e w'=>e=.returned (.bool (decide (xs.length=0))) /\ Keeps zA w w':=by
 go_enter Tryz.func40,Tryz.ntmps40
 go_wp2_with (go_at_call 13;refine HE.out.mono ?_;rintro e w1 ⟨v,rfl,g1,g2,g3⟩;obtain ⟨ad,cap,ev⟩:∃ ad cap,v=.slice ad xs.length cap:=(J247 _);subst ev;have G2:=yB g2;clear g1 g2 g3)
 go_ret
 refine ⟨?_,G2.out⟩
 have e:((xs.length:Int)==0)=decide (xs.length=0):=by
  exact J143 _
 simp only [go_sem];rw [e];rfl
section
variable {w:World} {T:zS} {F:Nat -> Prop} {id b:Nat} {u:Un} {p:zAn} {m:zm} {H:List HTh}
theorem zEd (h:RM w T F id b u p m H) (hr:zX u=true) (hm:m.ok u):Calls Tryz.prog 13 #[.pointer (some ⟨b,0,none⟩)] w (zBW w (zBu m)):=by
 have h8:m.zM.length <= 8:=by rw [hm.zM];exact (zAq hr).2.1
 exact zHC w b p.gt m.zM.length p.ct m h8 h.zA1 (fun i hi=>zDR h hm hi)
theorem zKu (h:RM w T F id b u p m H) (hr:zX u=true) (hm:m.ok u):Calls Tryz.prog 40 #[.pointer (some ⟨b,0,none⟩)] w fun e w'=>e=.returned (.bool (decide ((zBu m).length=0))) /\ Keeps zA w w' :=
 zKk (yB (zEd h hr hm))
end
structure Part where
 ty:TypeId
 sz:Nat
 ad:Option Addr
 n:Nat
 cap:Nat
 cs:List Value
def Part.v (p:Part):Value:=.slice p.ad p.n p.cap
def zBd (ty:TypeId) (sz:Nat):Part:=⟨ty,sz,none,0,0,[]⟩
structure Parts (w wr:World) (b:Nat) (pre:List Value) (ps:List Part):Prop where
 row:zC wr b (pre++ps.map Part.v)
 own:∀ (k:Nat) (p:Part),ps[k]?=some p -> wr.ownsRow 0 p.ty p.sz p.v p.n p.cs
 new:∀ (k:Nat) (p:Part) (g:Nat),ps[k]?=some p -> p.v.ownBlock=some g -> w.heap.size <= g /\ g ≠ b
 sep:∀ (j k:Nat) (p q:Part) (g:Nat),j ≠ k -> ps[j]?=some p -> ps[k]?=some q -> p.v.ownBlock=some g -> q.v.ownBlock ≠ some g
 bn:w.heap.size <= b
 keep:Keeps zA w wr
section
variable {w wr W:World} {b:Nat} {pre:List Value} {ps:List Part}
theorem Parts.keeps (h:Parts w wr b pre ps) (hk:Keeps zA wr W):Parts w W b pre ps :=
 ⟨h.row.keeps hk (fun h=>h),fun k p e=>zG (h.own k p e) hk (fun _ _ h=>h),h.new,h.sep,h.bn,h.keep.zB hk⟩
theorem Parts.start (l:List (TypeId × Nat)) (hr:zC wr b (pre++(l.map fun x=>zBd x.1 x.2).map Part.v)) (hb:w.heap.size <= b) (hk:Keeps zA w wr):Parts w wr b pre (l.map fun x=>zBd x.1 x.2):=by
 have hn:∀ (k:Nat) (p:Part),(l.map fun x=>zBd x.1 x.2)[k]?=some p -> ∃ ty sz,p=zBd ty sz:=fun k p e=>by
  rw [kY] at e;obtain ⟨x,_,rfl⟩:=vX.1 e;exact ⟨_,_,rfl⟩
 refine ⟨hr,fun k p e=>?_,fun k p g e h=>?_,fun j k p q g _ e _ h=>?_,hb,hk⟩
 ·obtain ⟨ty,sz,rfl⟩:=hn k p e
  exact xJ _ _ _ _
 ·obtain ⟨ty,sz,rfl⟩:=hn k p e
  simp [zBd,Part.v,Value.ownBlock] at h
 ·obtain ⟨ty,sz,rfl⟩:=hn j p e
  simp [zBd,Part.v,Value.ownBlock] at h
theorem Parts.step {k:Nat} {p:Part} {n' cap':Nat} {ad':Option Addr} {xs:List Value} {w2:World} (h:Parts w wr b pre ps) (hp:ps[k]?=some p) (ha:zAB wr 0 p.ty p.sz p.v n' xs ad' cap' w2) :
 Keeps zA w w2 /\ zC w2 b (pre++ps.map Part.v) /\ Parts w (w2.setCell ⟨b,pre.length+k,none⟩ (.slice ad' n' cap')) b pre (ps.set k ⟨p.ty,p.sz,ad',n',cap',xs⟩):=by
 have hlt:=(yP.1 hp).1
 have hbl:b < wr.heap.size:=by
  refine h.row.lt (fun e=>?_)
  have:=kJ List.length e
  rw [xU,vV,List.length_nil] at this;omega
 have k2:Keeps (fun q=>p.v.ownBlock=some q) wr w2:=ha.keeps (yC _ _) (fun q e _=>e);have k0:Keeps zA w w2:=ha.keeps h.keep (fun q e hq=>absurd hq (by have:=(h.new k p q hp e).1;omega));have r2:=h.row.keeps k2 (fun e=>(h.new k p b hp e).2 rfl);have hs:=h.keep.size;obtain ⟨w3,e3⟩:=eX (w2.setCell ⟨b,pre.length+k,none⟩ (.slice ad' n' cap'));have k3:Keeps (fun q=>q=b) w2 w3:=by rw [e3];exact (yC (fun q=>q=b) w2).setCell (p:=⟨b,pre.length+k,none⟩) (fun _=>rfl) _
 have r3:=r2.set (pre.length+k) (by simp;omega) (.slice ad' n' cap')
 have er:(pre++ps.map Part.v).set (pre.length+k) (.slice ad' n' cap')=pre++(ps.set k ⟨p.ty,p.sz,ad',n',cap',xs⟩).map Part.v:=by
  rw [kN _ _ (by omega),uI,List.map_set];rfl
 have hb':∀ g,(Value.slice ad' n' cap').ownBlock=some g -> p.v.ownBlock=some g \/ g=wr.heap.size:=ha.2.2
 rw [<- e3] at r3 ⊢;rw [er] at r3;refine ⟨k0,r2,r3,fun j q e=>?_,fun j q g e hg=>?_,fun i j q1 q2 g hij e1 e2 g1 g2=>?_,h.bn,(k0.trans k3 (fun q hq e=>absurd hq (by have e':q=b:=e;have:=h.bn;omega)))⟩
 ·by_cases hj:k=j
  ·subst hj
   rw [xC hlt] at e;cases e
   exact zG ha.1 k3 (fun q e1 e2=>by
    have e2:q=b:=e2;rcases hb' q e1 with h1 | h1
    ·exact (h.new k p q hp h1).2 e2
    ·omega)
  ·rw [uQ hj] at e
   exact zG (zG (h.own j q e) k2 (fun g e1 e2=>h.sep k j p q g hj hp e e2 e1)) k3 (fun g e1 e2=>(h.new j q g e e1).2 e2)
 ·by_cases hj:k=j
  ·subst hj
   rw [xC hlt] at e;cases e;rcases hb' g hg with h1 | h1
   ·exact h.new k p g hp h1
   ·exact ⟨by omega,by omega⟩
  ·rw [uQ hj] at e
   exact h.new j q g e hg
 ·by_cases h1:k=i
  ·subst h1
   rw [xC hlt] at e1;rw [uQ hij] at e2;cases e1;rcases hb' g g1 with h3 | h3
   ·exact h.sep k j p q2 g hij hp e2 h3 g2
   ·have:=zO (h.own j q2 e2) g2;omega
  ·rw [uQ h1] at e1
   by_cases h2:k=j
   ·subst h2
    rw [xC hlt] at e2;cases e2;rcases hb' g g2 with h3 | h3
    ·exact h.sep i k q1 p g hij e1 hp g1 h3
    ·have:=zO (h.own i q1 e1) g1;omega
   ·rw [uQ h2] at e2
    exact h.sep i j q1 q2 g hij e1 e2 g1 g2
end
def zEp (w:World) (m:zm) (e:Ending) (w':World):Prop :=
 ∃ a1 q1 a2 q2 a3 q3 a4 q4,e=.returned (.agg #[.slice a1 m.cells.length q1, .slice a2 m.owners.length q2, .slice a3 m.zM.length q3, .slice a4 m.zM.length q4]) /\ zEY w m (.slice a1 m.cells.length q1) (.slice a2 m.owners.length q2) (.slice a3 m.zM.length q3) (.slice a4 m.zM.length q4) w'
section
variable {w:World} {T:zS} {F:Nat -> Prop} {id b:Nat} {u:Un} {p:zAn} {m:zm} {H:List HTh}
theorem zIq (h:RM w T F id b u p m H) (hu:zX u=true) (hm:m.ok u):Calls Tryz.prog 38 #[.pointer (some ⟨b,0,none⟩)] w (zEp w m):=by
 have hri:=zAq hu;have hc8:m.cells.length <= 8:=by rw [hm.cells];exact hri.2.2.1
 have ho8:m.owners.length <= 8:=by rw [hm.owners];have:=hri.2.2.2.2.1;omega
 have ht8:m.zM.length <= 8:=by rw [hm.zM];exact hri.2.1
 obtain ⟨xs,hxs⟩:=eX m.cells;obtain ⟨ys,hys⟩:=eX m.owners;obtain ⟨nc,hnc⟩:=eX m.cells.length;obtain ⟨no,hno⟩:=eX m.owners.length;obtain ⟨nt,hnt⟩:=eX m.zM.length;have HXL:Hid (xs.length=nc):=by show _=_;rw [hxs,hnc]
 have HYL:Hid (ys.length=no):=by show _=_;rw [hys,hno]
 have HE:Hid (xs=m.cells /\ ys=m.owners /\ nc=m.cells.length /\ no=m.owners.length /\ nt=m.zM.length):=⟨hxs,hys,hnc,hno,hnt⟩;have r3:=h.zIu;have r4:=h.zIm;have r5:=h.zA1;have HC:Hid (∀ W,Keeps zA w W -> zAD W (.slice p.cad nc p.ccap) nc (ints xs)):=fun W q=>by rw [hnc,hxs];exact (h.cells.keeps q (fun _ _ h=>h)).src
 have HO:Hid (∀ W,Keeps zA w W -> zAD W (.slice p.oad no p.ocap) no (ints ys)):=fun W q=>by rw [hno,hys];exact (h.owners.keeps q (fun _ _ h=>h)).src
 have HA:Hid (∀ i,i < nt -> Ret w 42 #[.pointer (some ⟨b,0,none⟩), .int .i64 i] (.agg #[.int .i64 (zAS m i).1, .int .i64 (zAS m i).2])):=fun i hi=>zDq h hm (by rw [<- hnt];exact hi)
 have HST:Hid (∀ i,i < nt -> ∀ W,Keeps zA w W -> W.cell? ⟨p.gt,i*3,none⟩=some (.int .i64 (m.get i).st)):=fun i hi=>h.st (by rw [<- hnt];exact hi)
 rw [<- hnc] at r3 hc8;rw [<- hno] at r4 ho8;rw [<- hnt] at r5 ht8;obtain ⟨i0,hi0,hz0,hz1,hz2⟩:=info_parts zA3;obtain ⟨j0,hj0,hy0,hy1,hy2⟩:=info_parts zHx;generalize p.gt=gt at r5 HST;clear h hu hm hri hxs hys hnc hno hnt;go_enter Tryz.func38,Tryz.ntmps38
 go_upto_region 1 with fail
 obtain ⟨y,w1,e1,e2,RY,K1,_⟩:=newRow w [.slice none 0 0, .slice none 0 0, .slice none 0 0, .slice none 0 0] 51;rw [e1,e2];have HRY:=yB RY;have HY:Hid (w.heap.size <= y /\ y < w1.heap.size):=⟨by rw [e1];exact yV _,RY.lt (by simp)⟩;clear e1 e2 RY;go_upto_region 2 with fail
 obtain ⟨z,w2,e1,e2,RZ,K2,_⟩:=newRow w1 [.slice none 0 0, .slice none 0 0, .slice none 0 0, .slice none 0 0] 51;rw [e1,e2];have HP0:Hid (Parts w1 w2 z [] [zBd 3 1,zBd 3 1,zBd 3 1,zBd 91 2]):=Parts.start (w:=w1) (pre:=[]) [(3,1),(3,1),(3,1),(91,2)] RZ (by omega) K2;have k02:=K1.zB K2;have k2:=zH w2;have yz:=RZ.zB0;have HK1:=yB K1;have r3':=fun W (q:Keeps zA w2 W)=>r3 W (k02.zB q)
 clear e1 e2 RZ K1 K2;refine zL 6 (by kernel_rfl) (by kernel_rfl) (Keeps zA) (yC zA) (fun a b c h h'=>xE h h') (zAH [some (.pointer (some ⟨z,0,none⟩)),some (.slice none 0 0),some (.pointer (some ⟨b,0,none⟩)),some (.pointer (some ⟨b,0,none⟩)),some (.pointer (some ⟨b,3,none⟩)),some (.slice p.cad nc p.ccap)] (fun _ _ _=>False)) (uG (fun _ _ _ _ h _=>h)) ?_ ?_
 ·intro q oo hq ho vs W Q' hR hd hK
  have HRW:Keeps zA w2 W:=((zH w2).drew).zB hR;exact J23 _
 ·intro vs W hR hFF
  have HRW:Keeps zA w2 W:=((zH w2).drew).zB hR;have e1:vs 1=_:=hFF 1 (by decide);have e5:vs 5=_:=hFF 5 (by decide);simp only [zJ,yD,yE,yL,Option.bind,Act.put,yF,yG,yH,yS,yR];rw [e1,e5];have e0:vs 0=_:=hFF 0 (by decide);clear hFF e0 e1 e5 hR;have HPW:=yB (HP0.out.keeps HRW);go_upto_region 3 with (at_builtin;refine zI _ (by rfl) _ _ 22 (by rfl) 0 3 i0 _ 1 8 xG hi0 hz0 hz1 hz2 rfl (by decide) (.slice none 0 0) 0 ([]) (by rfl) (xJ _ _ _ _) (.slice p.cad nc p.ccap) nc (ints xs) (by rfl) (HC.out _ (k02.zB HRW)) (by rw [zAE,vZ,HXL.out]) (zDj xs) (by unfold maxLen;omega) (by omega) (yJ _) ?_;intro ad9 cap9 w3 hout;obtain ⟨k9,r9,p9⟩:=Parts.step (k:=0) (HPW.out) rfl hout;have K9:=yB k9;have P9:=yB p9;have zr:=r9.cell (k:=0) (v:=.slice none 0 0) rfl;have zf:=r9.free (k:=0) (by simp);clear k9 r9 p9 hout)
  have P3:Hid (Parts w1 (w3.setCell ⟨z,0,none⟩ (.slice ad9 (0+nc) cap9)) z [] [⟨3,1,ad9,0+nc,cap9,ints xs⟩,zBd 3 1,zBd 3 1,zBd 91 2]):=P9.out;rw [yZ] at P3;generalize w3.setCell ⟨z,0,none⟩ (.slice ad9 nc cap9)=w4 at P3 ⊢;obtain ⟨a1,ha1⟩:=eX ad9;obtain ⟨q1,hq1⟩:=eX cap9;rw [<- ha1,<- hq1] at P3;have HP3:=P3;have k04:Keeps zA w w4:=HK1.out.zB P3.out.keep;have yz:=(show zC w4 z [.slice a1 nc q1, .slice none 0 0, .slice none 0 0, .slice none 0 0] from P3.out.row).zB0;have k4:=zH w4;have r4':=fun W (q:Keeps zA w4 W)=>r4 W (k04.zB q)
  clear zr zf P9 K9 HRW HPW HP0 k2 k02 ha1 hq1 P3 r3';refine zL 6 (by kernel_rfl) (by kernel_rfl) (Keeps zA) (yC zA) (fun a b c h h'=>xE h h') (zAH [some (.pointer (some ⟨z,1,none⟩)),some (.slice none 0 0),some (.pointer (some ⟨b,0,none⟩)),some (.pointer (some ⟨b,0,none⟩)),some (.pointer (some ⟨b,4,none⟩)),some (.slice p.oad no p.ocap)] (fun _ _ _=>False)) (uG (fun _ _ _ _ h _=>h)) ?_ ?_
  ·intro q oo hq ho vs W Q' hR hd hK
   have HRW:Keeps zA w4 W:=((zH w4).drew).zB hR;exact J23 _
  ·intro vs W hR hFF
   have HRW:Keeps zA w4 W:=((zH w4).drew).zB hR;have e1:vs 1=_:=hFF 1 (by decide);have e5:vs 5=_:=hFF 5 (by decide);simp only [zJ,yD,yE,yL,Option.bind,Act.put,yF,yG,yH,yS,yR];rw [e1,e5];have e0:vs 0=_:=hFF 0 (by decide);clear hFF e0 e1 e5 hR;have HPW:=yB (HP3.out.keeps HRW);go_upto_region 4 with (at_builtin;refine zI _ (by rfl) _ _ 22 (by rfl) 0 3 i0 _ 1 8 xG hi0 hz0 hz1 hz2 rfl (by decide) (.slice none 0 0) 0 ([]) (by rfl) (xJ _ _ _ _) (.slice p.oad no p.ocap) no (ints ys) (by rfl) (HO.out _ (k04.zB HRW)) (by rw [zAE,vZ,HYL.out]) (zDj ys) (by unfold maxLen;omega) (by omega) (yJ _) ?_;intro ad9 cap9 w5 hout;obtain ⟨k9,r9,p9⟩:=Parts.step (k:=1) (HPW.out) rfl hout;have K9:=yB k9;have P9:=yB p9;have zr:=r9.cell (k:=1) (v:=.slice none 0 0) rfl;have zf:=r9.free (k:=1) (by simp);clear k9 r9 p9 hout)
   have P5:Hid (Parts w1 (w5.setCell ⟨z,1,none⟩ (.slice ad9 (0+no) cap9)) z [] [⟨3,1,a1,nc,q1,ints xs⟩,⟨3,1,ad9,0+no,cap9,ints ys⟩,zBd 3 1,zBd 91 2]):=P9.out;rw [yZ] at P5;generalize w5.setCell ⟨z,1,none⟩ (.slice ad9 no cap9)=w6 at P5 ⊢;obtain ⟨a2,ha2⟩:=eX ad9;obtain ⟨q2,hq2⟩:=eX cap9;rw [<- ha2,<- hq2] at P5;clear zr zf P9 K9 HRW HPW HP3 k4 k04 ha2 hq2 r4';go_wp2_with fail
   go_loopw [4] (fun iv wr=>∃ (k:Nat) (a3:Option Addr) (q3:Nat) (a4:Option Addr) (q4:Nat),k <= nt /\ iv=.int .i64 k /\ Hid (Parts w1 wr z [] [⟨3,1,a1,nc,q1,ints xs⟩,⟨3,1,a2,no,q2,ints ys⟩,⟨3,1,a3,k,q3,ints (zD6 m k)⟩,⟨91,2,a4,k,q4,zCP m k⟩])) (fun iv _=>nt - (intOf iv).toNat)
   case atStart=>exact ⟨0,none,0,none,0,yJ _,rfl,P5.out⟩
   case round =>
    obtain ⟨k,a3,q3,a4,q4,hk,rfl,hS⟩:=hrel;have kwr:Keeps zA w wr:=HK1.out.zB hS.out.keep;have kr:=zH wr;clear P5;by_cases hlt:k < nt
    ·have i1:(0:Int) <= k:=by omega
     have i2:(k:Int) < nt:=by omega
     have hf:m.zM[k]?=some (m.get k):=xL (by rw [<- HE.out.2.2.2.2];exact hlt);have HNX:=yB (zGd hf);have HNP:=yB (zFw m k);have HAK:=HA.out k hlt;have ts:=HST.out k hlt;generalize zAS m k=pr at HAK HNP;generalize (m.get k).st=s at ts HNX;clear hf hk;go_upto_region 8 with (go_at_call 42;refine HAK.call kwr ?_;intro w7 k07 k7)
     obtain ⟨fb,w8,e1,e2,RF,K8,_⟩:=newRow w7 [.int .i64 pr.1, .int .i64 pr.2] 91;rw [e1,e2];have HFB:Hid (wr.heap.size <= fb):=by rw [<- e1];exact k7.size
     have HRF:=yB RF;have hP8:=yB (hS.out.keeps (k7.zB K8));have k08:=k07.zB K8;have kr8:=yB (k7.zB K8);have yz:=(show zC w8 z [.slice a1 nc q1, .slice a2 no q2, .slice a3 k q3, .slice a4 k q4] from hP8.out.row).zB0;have r5':=fun W (q:Keeps zA w8 W)=>r5 W (k08.zB q)
     have ts':=fun W (q:Keeps zA w8 W)=>ts W (k08.zB q)
     have k8:=zH w8;have lz:z < w8.heap.size:=(show zC w8 z [_,_,_,_] from hP8.out.row).lt (by simp);clear e1 e2 RF K8 k7 k07 HAK ts kr;refine zL 11 (by kernel_rfl) (by kernel_rfl) (Keeps zA) (yC zA) (fun a b c h h'=>xE h h') (zAH [some (.pointer (some ⟨z,2,none⟩)),some (.slice a3 k q3),some (.pointer (some ⟨b,0,none⟩)),some (.pointer (some ⟨b,0,none⟩)),some (.pointer (some ⟨b,5,none⟩)),some (.slice (some ⟨gt,0,none⟩) nt p.ct),some (.int .i64 (k:Int)),some (.pointer (some ⟨gt,k*3,none⟩)),some (.pointer (some ⟨gt,k*3,none⟩)),some (.int .i64 s),none] (fun _ v W=>∃ g,v=.slice (some ⟨g,0,none⟩) 1 1 /\ zC W g [.int .i64 s])) (uG (fun _ _ _ _ h hk=>by obtain ⟨g,e,h1⟩:=h;exact ⟨g,e,h1.keeps hk (fun h=>h)⟩)) ?_ ?_
     ·intro q oo hq ho vs W Q' hR hd hK
      have HRW:Keeps zA w8 W:=((zH w8).drew).zB hR;rcases (show q=0 \/ q=1 \/ q=2 \/ q=3 \/ q=4 \/ q=5 \/ q=6 \/ q=7 \/ q=8 \/ q=9 \/ q=10 by omega) with rfl | rfl | rfl | rfl | rfl | rfl | rfl | rfl | rfl | rfl | rfl
      all_goals (simp only [yD,yE,yO] at ho;subst ho;simp only [zJ,yD,yE,yL,Option.bind,Act.put,yF,yG,yH] at hK ⊢;clear hq)
      all_goals try ((try (have e:vs 0=_:=hd 0 (by decide +kernel);rw [e] at hK ⊢;clear e));(try (have e:vs 1=_:=hd 1 (by decide +kernel);rw [e] at hK ⊢;clear e));(try (have e:vs 2=_:=hd 2 (by decide +kernel);rw [e] at hK ⊢;clear e));(try (have e:vs 3=_:=hd 3 (by decide +kernel);rw [e] at hK ⊢;clear e));(try (have e:vs 4=_:=hd 4 (by decide +kernel);rw [e] at hK ⊢;clear e));(try (have e:vs 5=_:=hd 5 (by decide +kernel);rw [e] at hK ⊢;clear e));(try (have e:vs 6=_:=hd 6 (by decide +kernel);rw [e] at hK ⊢;clear e));(try (have e:vs 7=_:=hd 7 (by decide +kernel);rw [e] at hK ⊢;clear e));(try (have e:vs 8=_:=hd 8 (by decide +kernel);rw [e] at hK ⊢;clear e));(try (have e:vs 9=_:=hd 9 (by decide +kernel);rw [e] at hK ⊢;clear e));clear hd;go_wp2_with (fail);first | exact hK _ _ (yC _ _) rfl)
      ·have e9:vs 9=_:=hd 9 (by kernel_rfl)
       rw [e9] at hK ⊢;clear hd e9;exact J43 _
     ·intro vs W hR hFF
      have HRW:Keeps zA w8 W:=((zH w8).drew).zB hR;have e1:vs 1=_:=hFF 1 (by decide);obtain ⟨g,e10,h5⟩:=(hFF 10 (by decide):∃ g,vs 10=.slice (some ⟨g,0,none⟩) 1 1 /\ zC W g [.int .i64 s]);simp only [zJ,yD,yE,yL,Option.bind,Act.put,yF,yG,yH,yS,yR];rw [e1,e10];have HG:=yB h5;clear hFF e1 e10 hR h5 r5' ts';have HPW:=yB (hP8.out.keeps HRW);have HRFW:=yB (HRF.out.keeps HRW (fun h=>h));have HFW:Hid (wr.heap.size <= fb /\ Keeps zA wr W):=⟨HFB.out,kr8.out.zB HRW⟩;go_upto_region 9 with (at_builtin;refine zI _ (by rfl) _ _ 22 (by rfl) 0 3 i0 _ 1 8 xG hi0 hz0 hz1 hz2 rfl (by decide) (.slice a3 k q3) k (ints (zD6 m k)) (by rfl) (HPW.out.own 2 _ rfl) (.slice (some ⟨g,0,none⟩) 1 1) 1 ([.int .i64 s]) (by rfl) (xN HG.out) (rfl) (by simp [Value.oneCell']) (by unfold maxLen;omega) (by omega) (yJ _) ?_;intro ad9 cap9 w9 hout;obtain ⟨k9,r9,p9⟩:=Parts.step (k:=2) (HPW.out) rfl hout;have K9:=yB k9;have P9:=yB p9;have zr:=r9.cell (k:=2) (v:=.slice a3 k q3) rfl;have zf:=r9.free (k:=2) (by simp);have RF9:Hid (zC w9 fb [.int .i64 pr.1, .int .i64 pr.2]):=HRFW.out.keeps (hout.keeps (S:=fun q=>(Value.slice a3 k q3).ownBlock=some q) (yC _ _) (fun q e _=>e)) (fun e=>by have h1:=zO (hS.out.own 2 _ rfl) e;have:=HFB.out;omega);clear k9 r9 p9 hout)
      have P10:Hid (Parts w1 (w9.setCell ⟨z,2,none⟩ (.slice ad9 (k+1) cap9)) z [] [⟨3,1,a1,nc,q1,ints xs⟩,⟨3,1,a2,no,q2,ints ys⟩,⟨3,1,ad9,k+1,cap9,ints (zD6 m (k+1))⟩,⟨91,2,a4,k,q4,zCP m k⟩]):=by rw [HNX.out];exact P9.out
      have RF10:zC (w9.setCell ⟨z,2,none⟩ (.slice ad9 (k+1) cap9)) fb [.int .i64 pr.1, .int .i64 pr.2]:=RF9.out.other (p:=⟨z,2,none⟩) (fun e=>by
       have e':z=fb:=e;have h1:=(show zC wr z [_,_,_,_] from hS.out.row).lt (by simp);have:=HFB.out
       omega) _
      generalize w9.setCell ⟨z,2,none⟩ (.slice ad9 (k+1) cap9)=wA at P10 RF10 ⊢;obtain ⟨a3',ha3⟩:=eX ad9;obtain ⟨q3',hq3⟩:=eX cap9;rw [<- ha3,<- hq3] at P10;have yz:=(show zC wA z [.slice a1 nc q1, .slice a2 no q2, .slice a3' (k+1) q3', .slice a4 k q4] from P10.out.row).zB0;have lz:z < wA.heap.size:=(show zC wA z [_,_,_,_] from P10.out.row).lt (by simp);have lf:fb < wA.heap.size:=RF10.lt (by simp);have nz:z ≠ wA.heap.size:=by omega
      have nf:fb ≠ wA.heap.size:=by omega
      have yf:=RF10.all2;have kA:=zH wA;clear zr zf P9 K9 HRW HPW k8 ha3 hq3 RF10 RF9 HRFW HG;go_wp2_with (at_builtin;refine zI _ (by rfl) _ _ 49 (by rfl) 0 91 j0 _ 2 16 Tryz.underlying49 hj0 hy0 hy1 hy2 rfl (by decide) (.slice a4 k q4) k (zCP m k) (by rfl) (zG (P10.out.own 3 _ rfl) ((yC zA _).alloc _) (fun _ _ h=>h)) (.slice (some ⟨wA.heap.size,0,none⟩) 1 1) 1 (zDl pr) (by rfl) (xN (yN (yK _ _))) (rfl) (by simp [zDl,Value.oneCell']) (by unfold maxLen;omega) (by omega) (yJ _) ?_;intro ad9 cap9 wB hout;obtain ⟨k9,r9,p9⟩:=Parts.step (k:=3) (P10.out.keeps ((yC _ _).alloc _)) rfl hout;have K9:=yB k9;have P9:=yB p9;have zr:=r9.cell (k:=3) (v:=.slice a4 k q4) rfl;have zf:=r9.free (k:=3) (by simp);clear k9 r9 p9 hout)
      refine ⟨⟨k+1,a3',q3',ad9,cap9,by omega,by go_num,?_⟩,by simp [intOf];omega⟩
      rw [HNP.out];exact P9
    ·have hkn:k=nt:=by omega
     subst hkn;have yz:=(show zC wr z [.slice a1 nc q1, .slice a2 no q2, .slice a3 k q3, .slice a4 k q4] from hS.out.row).zB0;have HRYr:=yB (HRY.out.keeps hS.out.keep (fun h=>h));have yy:=HRYr.out.zB0;have f0:=zx HRYr.out 0 (by decide);have f1:=zx HRYr.out 1 (by decide);have f2:=zx HRYr.out 2 (by decide);have f3:=zx HRYr.out 3 (by decide);clear hlt hk;go_wp2_with fail
     have HKY:=zB9 y [.slice a1 nc q1, .slice a2 no q2, .slice a3 k q3, .slice a4 k q4] 0 wr;obtain ⟨R5,K5⟩:=zBE (w:=w) [.slice a1 nc q1, .slice a2 no q2, .slice a3 k q3, .slice a4 k q4] HRYr.out rfl kwr HY.out.1;simp only [zCz,yZ,Nat.reduceAdd] at R5 K5 HKY;generalize (((wr.setCell ⟨y,0,none⟩ (.slice a1 nc q1)).setCell ⟨y,1,none⟩ (.slice a2 no q2)).setCell ⟨y,2,none⟩ (.slice a3 k q3)).setCell ⟨y,3,none⟩ (.slice a4 k q4)=wz at R5 K5 HKY ⊢;have hny:∀ q,w1.heap.size <= q -> ¬ (fun q=>q=y) q:=fun q hq e=>by have e':q=y:=e;have:=HY.out.2;omega
     have fr:∀ (j:Nat) (pt:Part),[(⟨3,1,a1,nc,q1,ints xs⟩:Part),⟨3,1,a2,no,q2,ints ys⟩,⟨3,1,a3,k,q3,ints (zD6 m k)⟩,⟨91,2,a4,k,q4,zCP m k⟩][j]?=some pt -> zAt wz w.heap.size pt.v pt.n pt.cs:=fun j pt e=>zAt.of (zG (hS.out.own j pt e) HKY (fun q e1=>hny q (hS.out.new j pt q e e1).1)) (fun q e1=>yX HK1.out.size (hS.out.new j pt q e e1).1)
     obtain ⟨g1,g2,g3,g4,g5⟩:=HE.out
     have hout:zEY w m (.slice a1 nc q1) (.slice a2 no q2) (.slice a3 k q3) (.slice a4 k q4) wz:=by
      have f0:=fr 0 _ rfl;have f1:=fr 1 _ rfl;have f2:=fr 2 _ rfl;have f3:=fr 3 _ rfl;refine ⟨K5,?_,?_,?_,?_⟩
      ·rw [<- g3,<- g1];exact f0
      ·rw [<- g4,<- g2];exact f1
      ·rw [<- g5];exact f2
      ·rw [<- g5];exact f3
     rw [g3,g4,g5] at hout;refine xA (v:=.agg #[.slice a1 nc q1, .slice a2 no q2, .slice a3 k q3, .slice a4 k q4]) (by simp [results,Tryz.results38,go_sem,R5.cell (k:=0) rfl,R5.cell (k:=1) rfl,R5.cell (k:=2) rfl,R5.cell (k:=3) rfl]) rfl ?_
     rw [g3,g4,g5];exact ⟨a1,q1,a2,q2,a3,q3,a4,q4,rfl,hout⟩
end
end Go.Proofs.YtfokdllgnblamaaGreatDoor
