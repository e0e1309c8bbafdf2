/- Layer D: texts joined. -/
import Derived.Test.YtoapgjjepiopbaaGreatDoorD41
import Derived.Test.YtoapgjjepiopbaaGreatDoorD43
import Derived.Laws.EntriesVeiled
set_option linter.all false
set_option maxHeartbeats 4000000
set_option maxRecDepth 20000
namespace Go.Proofs.YtoapgjjepiopbaaGreatDoor
open Go.RowKit
theorem J196(P:Prop)(h:P:=by repeat' first|assumption|exact yB _ _|apply Keeps.drewN|apply Keeps.alloc):P:=h
theorem J220(P:Prop)(h:P:=by rw[zAI zCe 2 zBj];omega):P:=h
theorem J246(P:Prop)(h:P:=by repeat' first|exact yB _ _|apply Keeps.drewN|apply Keeps.alloc):P:=h
inductive Abt where
 | read (n:Int)
 | write (n:Int)
 | atomic (n:Int)
 | mutex (n:Int)
 | begin (n:Int)
 | wait (n:Int)
 | fin (n:Int)
 | none
def Abt.val:Abt->Value
 | .read n=>.iface 364 (.agg #[n])
 | .write n=>.iface 365 (.agg #[n])
 | .atomic n=>.iface 366 (.agg #[n])
 | .mutex n=>.iface 368 (.agg #[n])
 | .begin n=>.iface 370 (.agg #[n])
 | .wait n=>.iface 371 (.agg #[n])
 | .fin n=>.iface 372 (.agg #[n])
 | .none=>.iface 374 (.agg #[])
def zN5(x:Evt):Abt:=
 if x.kind=1 then .read x.obj else if x.kind=2 then .write x.obj else if x.kind=3 then .atomic x.obj else if x.kind=4\/x.kind=5 then .mutex x.obj
 else if x.kind=6 then .begin x.obj else if x.kind=7 then .wait x.obj else if x.kind=9 then .fin x.thread else .none
theorem zP8(x:Evt)(w:World):Calls Tryz.prog 206 #[evV x] w λe w'=>e=.returned (zN5 x).val/\Keeps zA w w':=by
 obtain⟨xt,xk,xo,xv,xb⟩:=x;have H:∃z,Hid (z=zN5 ⟨xt,xk,xo,xv,xb⟩):=⟨_,rfl⟩
 obtain⟨z,H⟩:=H;rw[<-H.out];unfold evV
 have HC:xk=1\/xk=2\/xk=3\/xk=4\/xk=5\/xk=6\/xk=7\/xk=9\/((xk==1)=false/\(xk==2)=false/\(xk==3)=false/\(xk==4)=false/\(xk==5)=false/\(xk==6)=false/\(xk==7)=false/\(xk==9)=false):=by
  simp only[beq_eq_false_iff_ne,ne_eq];omega
 rcases HC with rfl|rfl|rfl|rfl|rfl|rfl|rfl|rfl|⟨h1,h2,h3,h4,h5,h6,h7,h9⟩
 all_goals (
  go_enter Tryz.func206,Tryz.ntmps206
  go_wp2_with fail
  go_ret
  refine⟨?_,(yB _ _).alloc _⟩
  rw[H.out];simp_all [zN5,Abt.val])
theorem zDT(n:Int)(w:World)(h:0<=n/\n<8):Calls Tryz.prog 277 #[n] w λe w'=>e=.returned true/\w=w':=by
 have h0:decide (0<=n)=true:=uC h.1;have h1:decide (n<8)=true:=uC h.2;go_enter Tryz.func277,Tryz.ntmps277
 exact J145 _
def okE(x:Evt):Prop:=(0<=x.thread/\x.thread<8)/\(0<=x.obj/\x.obj<8) ∧
 (((x.kind=1\/x.kind=2\/x.kind=3)/\x.bad=0)\/(x.kind=4/\x.value=0/\x.bad=0)\/(x.kind=5/\x.value=0/\(x.bad=0\/x.bad=2))\/(x.kind=6/\x.value=0/\(x.bad=0\/x.bad=4))\/(x.kind=7/\x.value=0/\(x.bad=0\/x.bad=3)) ∨
  (x.kind=8/\x.obj=0/\((x.value=0/\x.bad=1)\/(x.value≠0/\x.bad=0)))\/(x.kind=9/\x.obj=x.thread/\x.value=0/\x.bad=0))
theorem zDs(x:Evt)(h:okE x)(w:World):Calls Tryz.prog 267 #[evV x] w λe w'=>e=.returned true/\Keeps zA w w':=by
 obtain⟨xt,xk,xo,xv,xb⟩:=x;obtain⟨h1,h2,h3⟩:=h;unfold evV;simp only at h1 h2 h3 ⊢;have HT:=yA h1;have HO:=yA h2;obtain⟨b1,w1,e1,e2,R1,K1,_⟩:=newRow w [xt,xk,xo,xv,xb] 67;have y1:=R1.five;have k1:=zF w1;have HK:=yA K1;clear h1 h2 R1 K1;by_cases hv:xv=0
 ·subst hv
  rcases h3 with⟨rfl|rfl|rfl,rfl⟩|⟨rfl,_,rfl⟩|⟨rfl,_,rfl|rfl⟩|⟨rfl,_,rfl|rfl⟩|⟨rfl,_,rfl|rfl⟩|⟨rfl,rfl,⟨_,rfl⟩|⟨h,_⟩⟩|⟨rfl,rfl,_,rfl⟩
  all_goals first
   | exact absurd rfl h
   | (go_enter Tryz.func267,Tryz.ntmps267
      go_upto_region 1 with fail
      try rw[e1]
      try rw[e2]
      clear e1 e2;go_wp2_with (go_at_call 277;refine(zDT _ _ (by first|exact HT.out|exact HO.out)).mono ?_;rintro e w5 ⟨rfl,rfl⟩)
      go_ret
      exact⟨rfl,HK.out⟩)
 ·have hb:(xv==0)=false:=xN hv
  have hn:(xv != 0)=true:=uN.2 hv;rcases h3 with⟨rfl|rfl|rfl,rfl⟩|⟨rfl,h,_⟩|⟨rfl,h,_⟩|⟨rfl,h,_⟩|⟨rfl,h,_⟩|⟨rfl,rfl,⟨h,_⟩|⟨_,rfl⟩⟩|⟨rfl,_,h,_⟩
  all_goals first
   | exact absurd h hv
   | (clear hv
      go_enter Tryz.func267,Tryz.ntmps267
      go_upto_region 1 with fail
      try rw[e1]
      try rw[e2]
      clear e1 e2;go_wp2_with (go_at_call 277;refine(zDT _ _ (by first|exact HT.out|exact HO.out)).mono ?_;rintro e w5 ⟨rfl,rfl⟩)
      go_ret
      exact⟨rfl,HK.out⟩)
def zA6(la:Option Addr)(lc:Nat)(ba:Option Addr)(bc n:Nat)(T:List (Int × Int))(O:List Int):List Value:=.slice la n lc :: .slice ba n bc :: (T.flatMap zCe++ints O)
theorem zBj(p:Int × Int):(zCe p).length=2:=rfl
theorem zCs{la ba:Option Addr}{lc bc n:Nat}{T:List (Int × Int)}{O:List Int}(hT:T.length=8)(hO:O.length=8):(zA6 la lc ba bc n T O).length=26:=by
 unfold zA6;simp only[xM,xC,zAI zCe 2 zBj,hT,zAf,hO]
section
variable {w:World} {b n lc bc:Nat} {la ba:Option Addr} {T:List (Int × Int)} {O:List Int}
theorem zDW(h:zB w b (zA6 la lc ba bc n T O)){t:Nat}(ht:t<T.length):w.cell? ⟨b,2+t*2,none⟩=some (.int .i64 (T.getD t (0,0)).1)/\w.cell? ⟨b,2+t*2+1,none⟩=some (.int .i64 (T.getD t (0,0)).2):=by
 have key:∀j,j<2->(zA6 la lc ba bc n T O)[2+t*2+j]?=(zCe (T.getD t (0,0)))[j]?:=λj hj=>by
  unfold zA6;rw[show 2+t*2+j=(t*2+j)+1+1 by omega,yD,yD,xL (J220 _),zCh zCe 2 zBj T t j hj,List.getD,yL ht];rfl
 exact⟨h.cell (key 0 (by decide)),h.cell (key 1 (by decide))⟩
theorem zHn(h:zB w b (zA6 la lc ba bc n T O))(hT:T.length=8){k:Nat}(hk:k<O.length):w.cell? ⟨b,18+k,none⟩=some (.int .i64 (O.getD k 0)):=by
 refine h.cell ?_
 unfold zA6;rw[show 18+k=(16+k)+1+1 by omega,yD,yD,xI (J220 _),zAI zCe 2 zBj,show 16+k-T.length*2=k by omega];exact zAB O k hk
theorem zF3(h:zB w b (zA6 la lc ba bc n T O)){t:Nat}(ht:t<T.length)(v:Int):zB (w.setCell ⟨b,2+t*2,none⟩ (.int .i64 v)) b (zA6 la lc ba bc n (T.set t (v,(T.getD t (0,0)).2)) O):=by
 have hx:T[t]?=some (T.getD t (0,0)):=by rw[List.getD,yL ht];rfl
 have hl:t*2<(T.flatMap zCe).length:=J220 _;have:=h.set (2+t*2) (by unfold zA6;simp only[xM,xC];omega) (.int .i64 v)
 have e:(zA6 la lc ba bc n T O).set (2+t*2) (.int .i64 v)=zA6 la lc ba bc n (T.set t (v,(T.getD t (0,0)).2)) O:=by
  unfold zA6;rw[show 2+t*2=(t*2)+1+1 by omega,yJ,yJ,List.set_append_left _ _ hl];rw[show t*2=t*2+0 by rfl,zDB zCe 2 zBj T t 0 (by decide) (.int .i64 v) (T.getD t (0,0)) (v,(T.getD t (0,0)).2) hx rfl]
 rwa [e] at this
theorem zK1(h:zB w b (zA6 la lc ba bc n T O)){t:Nat}(ht:t<T.length)(v:Int):zB (w.setCell ⟨b,2+t*2+1,none⟩ (.int .i64 v)) b (zA6 la lc ba bc n (T.set t ((T.getD t (0,0)).1,v)) O):=by
 have hx:T[t]?=some (T.getD t (0,0)):=by rw[List.getD,yL ht];rfl
 have hl:t*2+1<(T.flatMap zCe).length:=J220 _;have:=h.set (2+t*2+1) (by unfold zA6;simp only[xM,xC];omega) (.int .i64 v)
 have e:(zA6 la lc ba bc n T O).set (2+t*2+1) (.int .i64 v)=zA6 la lc ba bc n (T.set t ((T.getD t (0,0)).1,v)) O:=by
  unfold zA6;rw[show 2+t*2+1=(t*2+1)+1+1 by omega,yJ,yJ,List.set_append_left _ _ hl];rw[zDB zCe 2 zBj T t 1 (by decide) (.int .i64 v) (T.getD t (0,0)) ((T.getD t (0,0)).1,v) hx rfl]
 rwa [e] at this
theorem zKq(h:zB w b (zA6 la lc ba bc n T O))(hT:T.length=8){k:Nat}(hk:k<O.length)(v:Int):zB (w.setCell ⟨b,18+k,none⟩ (.int .i64 v)) b (zA6 la lc ba bc n T (O.set k v)):=by
 have hl:(T.flatMap zCe).length=16:=by rw[zAI zCe 2 zBj,hT]
 have:=h.set (18+k) (by unfold zA6;simp only[xM,xC,zAf];omega) (.int .i64 v)
 have e:(zA6 la lc ba bc n T O).set (18+k) (.int .i64 v)=zA6 la lc ba bc n T (O.set k v):=by
  unfold zA6;rw[show 18+k=(16+k)+1+1 by omega,yJ,yJ,vX _ _ (by omega),hl,show 16+k-16=k by omega];unfold ints;rw[<-List.map_set]
 rwa [e] at this
end
structure zB7(B:Nat)(w:World)(b n:Nat)(T:List (Int × Int))(O:List Int):Prop where
 tl:T.length=8
 ol:O.length=8
 low:B<=b
 ex:∃la lc ba bc xs ys,zB w b (zA6 la lc ba bc n T O)/\w.ownsRow 0 67 5 (.slice la n lc) n xs/\w.ownsRow 0 322 1 (.slice ba n bc) n ys/\(∀g,(Value.slice la n lc).ownBlock=some g->B<=g/\g≠b/\(Value.slice ba n bc).ownBlock≠some g)/\∀g,(Value.slice ba n bc).ownBlock=some g->B<=g/\g≠b
theorem zB7.keeps{B b n:Nat}{w w':World}{T:List (Int × Int)}{O:List Int}(h:zB7 B w b n T O){S:Nat->Prop}(hk:Keeps S w w')(hS:∀q,B<=q->¬S q):zB7 B w' b n T O:=by
 obtain⟨la,lc,ba,bc,xs,ys,h1,h2,h3,h4,h5⟩:=h.ex;exact⟨h.tl,h.ol,h.low,la,lc,ba,bc,xs,ys,h1.keeps hk (hS b h.low),zD h2 hk (λq e=>hS q (h4 q e).1),zD h3 hk (λq e=>hS q (h5 q e).1),h4,h5⟩
theorem zB7.row{B b n:Nat}{w:World}{T:List (Int × Int)}{O:List Int}(h:zB7 B w b n T O):∃la lc ba bc,zB w b (zA6 la lc ba bc n T O):=by
 obtain⟨la,lc,ba,bc,xs,ys,h1,_⟩:=h.ex;exact⟨la,lc,ba,bc,h1⟩
def zIZ(k:Int)(t o:Nat)(T:List (Int × Int))(O:List Int):Int:=
 if k=5 then (if O.getD o 0=t then 0 else 2) else if k=6 then (if (T.getD o (0,0)).1=1 then 0 else 4) else if k=7 then (if (T.getD o (0,0)).1=1 then 3 else 0) else 0
section
variable {B b n:Nat} {w:World} {T:List (Int × Int)} {O:List Int}
theorem zJu(h:zB7 B w b n T O)(t:Nat)(ht:t<8):Calls Tryz.prog 252 #[.pointer (some ⟨b,0,none⟩),t] w λe w'=>e=.returned (.int .i64 (T.getD t (0,0)).1)/\Keeps zA w w':=by
 obtain⟨la,lc,ba,bc,hr⟩:=h.row;have c:=(zDW hr (t:=t) (by rw[h.tl];exact ht)).1;generalize (T.getD t (0,0)).1=s at c ⊢;have i1:(0:Int)<=t:=by omega
 have i2:(t:Int)<8:=by omega
 have HI:Hid ((0:Int)<=t/\(t:Int)<8):=⟨i1,i2⟩;clear h hr ht;go_enter Tryz.func252,Tryz.ntmps252
 go_wp2_with (go_at_call 277;refine(zDT _ _ HI.out).mono ?_;rintro e w5 ⟨rfl,rfl⟩)
 first|go_quiet (fail)|skip
 go_wp2_with fail
 go_ret
 exact⟨rfl,(J246 _)⟩
theorem zPl(h:zB7 B w b n T O)(t o:Nat)(k:Int)(ho:o<8)(hk:1<=k/\k<=9):Calls Tryz.prog 268 #[.pointer (some ⟨b,0,none⟩),t,.agg #[k,o]] w λe w'=>e=.returned (.int .i64 (zIZ k t o T O))/\Keeps zA w w':=by
 obtain⟨b1,w1,e1,e2,R1,K1,_⟩:=newRow w [k,o] 138;obtain⟨la,lc,ba,bc,hr⟩:=h.row;have hr:=hr.keeps K1 (λh=>h);have c:=(zDW hr (t:=o) (by rw[h.tl];exact ho)).1;have d:=zHn hr h.tl (k:=o) (by rw[h.ol];exact ho);obtain⟨bv,hbv⟩:=eX (zIZ k t o T O);rw[<-hbv];unfold zIZ at hbv;generalize (T.getD o (0,0)).1=s at c hbv;generalize O.getD o 0=r at d hbv;have y0:=R1.cell (k:=0) rfl;have y1:=R1.cell (k:=1) rfl;have HK:=yA K1;have i1:(0:Int)<=o:=by omega
 have i2:(o:Int)<8:=by omega
 clear h hr ho K1 R1;rcases (show k=1\/k=2\/k=3\/k=4\/k=5\/k=6\/k=7\/k=8\/k=9 by omega) with rfl|rfl|rfl|rfl|rfl|rfl|rfl|rfl|rfl
 all_goals (
  simp only[Int.reduceEq,if_true,if_false] at hbv;try(by_cases hs:s=1)
  all_goals try(by_cases hq:r=(t:Int))
  all_goals (
   try simp only[hs,hq,if_true,if_false] at hbv
   have HBV:=yA hbv;try have hs1:(s==1)=false:=xN hs
   try have hs2:(s != 1)=true:=uN.2 hs
   try have hq2:(r != (t:Int))=true:=uN.2 hq
   clear hbv;try subst hs
   try subst hq
   go_enter Tryz.func268,Tryz.ntmps268
   go_upto_region 1 with fail
   try rw[e1]
   try rw[e2]
   go_quiet (fail)
   go_wp2_with fail
   try(go_quiet (fail);go_wp2_with fail)
   try(go_quiet (fail);go_wp2_with fail)
   go_ret
   exact⟨by rw[HBV.out];rfl,HK.out.zC (J246 _)⟩))
end
section
variable {B b n:Nat} {w:World} {T:List (Int × Int)} {O:List Int}
theorem zPX(h:zB7 B w b n T O)(t o:Nat)(k:Int)(ht:t<8)(ho:o<8)(hk:1<=k/\k<=9)(hst:(T.getD t (0,0)).1=2)(HR:Hid (okE ⟨t,k,o,if k=8 then 1 else 0,0⟩))(h4:k=4->O.getD o 0<0)(h7:k=7->(T.getD o (0,0)).1=1\/(T.getD o (0,0)).1=3):
 Calls Tryz.prog 251 #[.pointer (some ⟨b,0,none⟩),t,.agg #[k,o]] w λe w'=>e=.returned true/\Keeps zA w w':=by
 obtain⟨la,lc,ba,bc,hr⟩:=h.row
 have c:∀W,Keeps zA w W->W.cell? ⟨b,2+t*2,none⟩=some (.int .i64 2):=by
  have:=(zDW hr (t:=t) (by rw[h.tl];exact ht)).1
  rw[hst] at this;exact zL this
 have d:=zL (zDW hr (t:=o) (by rw[h.tl];exact ho)).1;have f:=zL (zHn hr h.tl (k:=o) (by rw[h.ol];exact ho));generalize (T.getD o (0,0)).1=s at d h7;generalize O.getD o 0=r at f h4;have i1:(0:Int)<=o:=by omega
 have i2:(o:Int)<8:=by omega
 have i3:(0:Int)<=t:=by omega
 have i4:(t:Int)<8:=by omega
 clear h hr hst ht ho;go_enter Tryz.func251,Tryz.ntmps251
 go_upto_region 1 with fail
 obtain⟨b1,w1,e1,e2,R1,K1,s1⟩:=newRow w [k,o] 138;try rw[e1]
 try rw[e2]
 have y0:=R1.cell (k:=0) rfl;have y1:=R1.cell (k:=1) rfl;clear e1 e2;go_upto_region 2 with fail
 obtain⟨b7,w2,x1,x2,R2,K2,s2⟩:=newRow w1 [t,k,o,(0:Int),(0:Int)] 67;try rw[x1]
 try rw[x2]
 have ya:=(R1.keeps K2 (λh=>h)).cell (k:=0) rfl;have yb:=(R1.keeps K2 (λh=>h)).cell (k:=1) rfl;have kk:Keeps zA w w2:=K1.zC K2;have KK:=yA kk;have H1:Hid (zB w1 b1 [k,o]/\zB w2 b7 [t,k,o,(0:Int),(0:Int)]/\b1≠b7):=⟨R1,R2,by have:=s1.out;omega⟩;have H2:Hid (w.heap.size<=b7):=by have:=K1.size;show _<=_;omega
 have z7:=R2.five;have f7:=zAa R2 3 (by simp);clear x1 x2 y0 y1 s1 s2 K1 K2 R1 R2;by_cases h8:k=8
 ·subst h8
  have k2:=zF w2;go_upto_region 4 with fail
  have RS:zB (w2.setCell ⟨b7,3,none⟩ (.int .i64 1)) b7 [.int .i64 t,.int .i64 8,.int .i64 o,.int .i64 1,.int .i64 0]:=H1.out.2.1.set 3 (by simp) (.int .i64 1);have KS:Keeps (λq=>q=b7) w2 (w2.setCell ⟨b7,3,none⟩ (.int .i64 1)):=(yB (λq=>q=b7) w2).setCell (p:=⟨b7,3,none⟩) (λ_=>rfl) _;have ya3:=KS.cell (p:=⟨b1,0,none⟩) (λh=>H1.out.2.2 h) ya;have yb3:=KS.cell (p:=⟨b1,1,none⟩) (λh=>H1.out.2.2 h) yb;have kk3:Keeps zA w (w2.setCell ⟨b7,3,none⟩ (.int .i64 1)):=KK.out.setCell (p:=⟨b7,3,none⟩) (λh=>absurd h (by have:=H2.out;show¬b7<_;omega)) _;generalize w2.setCell ⟨b7,3,none⟩ (.int .i64 1)=w3 at RS KS ya3 yb3 kk3 ⊢;have KK:=yA kk3;have k3:=zF w3;have z3:=RS.five;clear z7 f7 ya yb kk k2 RS KS h4 h7;go_wp2_with (go_at_call 267;refine(zDs ⟨_,_,_,_,_⟩ HR.out _).mono ?_;rintro e w5 ⟨rfl,k5⟩;have q5:=xJ KK.out k5;have c5:=c w5 q5;have d5:=d w5 q5;have f5:=f w5 q5;have y5:=k5.cell (p:=⟨b1,0,none⟩) (λh=>h) ya3;have z5:=k5.cell (p:=⟨b1,1,none⟩) (λh=>h) yb3;clear c d f ya3 yb3 kk3)
  go_ret
  exact⟨rfl,(J196 _)⟩
 ·rw[if_neg h8] at HR
  have hb8:(k==8)=false:=xN h8;rcases (show k=1\/k=2\/k=3\/k=4\/k=5\/k=6\/k=7\/k=9 by omega) with rfl|rfl|rfl|rfl|rfl|rfl|rfl|rfl
  all_goals (
   clear hk h8;have k2:=zF w2;try have g4:decide (r<0)=true:=uC (h4 rfl)
   clear h4;first
   | (have h7:=h7 rfl
      rcases h7 with rfl|rfl
      all_goals (
       go_wp2_with (go_at_call 267;refine(zDs ⟨_,_,_,_,_⟩ HR.out _).mono ?_;rintro e w5 ⟨rfl,k5⟩;have q5:=xJ KK.out k5;have c5:=c w5 q5;have d5:=d w5 q5;have f5:=f w5 q5;have y5:=k5.cell (p:=⟨b1,0,none⟩) (λh=>h) ya;have z5:=k5.cell (p:=⟨b1,1,none⟩) (λh=>h) yb;clear c d f ya yb kk)
       try(go_quiet (fail);go_wp2_with fail)
       go_ret
       exact⟨rfl,(J196 _)⟩))
   | (clear h7
      go_wp2_with (go_at_call 267;refine(zDs ⟨_,_,_,_,_⟩ HR.out _).mono ?_;rintro e w5 ⟨rfl,k5⟩;have q5:=xJ KK.out k5;have c5:=c w5 q5;have d5:=d w5 q5;have f5:=f w5 q5;have y5:=k5.cell (p:=⟨b1,0,none⟩) (λh=>h) ya;have z5:=k5.cell (p:=⟨b1,1,none⟩) (λh=>h) yb;clear c d f ya yb kk)
      try(go_quiet (fail);go_wp2_with fail)
      go_ret
      exact⟨rfl,(J196 _)⟩))
end
theorem zLM{α:Type}{n i:Nat}(a b:α)(hi:i<n):(List.replicate i a++List.replicate (n-i) b).set i a=List.replicate (i+1) a++List.replicate (n-(i+1)) b:=by
 obtain⟨q,hq⟩:∃q,n-i=q+1:=⟨n-i-1,by omega⟩
 rw[vX _ _ (by rw[uF];exact yT _),uF,Nat.sub_self,hq,List.replicate_succ,yM,show n-(i+1)=q by omega,kF,vI];rfl
def T0:List (Int × Int):=(2,-1) :: List.replicate 7 (1,-1)
def O0:List Int:=List.replicate 8 (-1)
theorem zKE(w:World):Calls Tryz.prog 234 #[] w λe w'=>∃b,e=.returned (.pointer (some ⟨b,0,none⟩))/\zB7 w.heap.size w' b 0 T0 O0/\Keeps zA w w':=by
 go_enter Tryz.func234,Tryz.ntmps234
 go_upto_region 2 with fail
 obtain⟨b,w1,x1,x2,R1,K1,_⟩:=newRow w [.slice none 0 0,.slice none 0 0,(0:Int),(0:Int),(0:Int),(0:Int),(0:Int),(0:Int),(0:Int),(0:Int),(0:Int),(0:Int),(0:Int),(0:Int),(0:Int),(0:Int),(0:Int),(0:Int),(0:Int),(0:Int),(0:Int),(0:Int),(0:Int),(0:Int),(0:Int),(0:Int)] 406;try rw[x1]
 try rw[x2]
 have HR1:Hid (zB w1 b (zA6 none 0 none 0 0 (List.replicate 0 (1,-1)++List.replicate (8-0) (0,0)) (List.replicate 8 0))):=R1;have HK1:Hid (Keeps zA w w1/\w.heap.size<=b):=⟨K1,Nat.le_of_eq x1⟩;clear x1 x2 R1 K1;go_wp2_with fail
 go_loopw [6] (λiv wr=>∃i:Nat,i<=8/\iv=.int .i64 i/\Hid (zB wr b (zA6 none 0 none 0 0 (List.replicate i (1,-1)++List.replicate (8-i) (0,0)) (List.replicate 8 0))/\Keeps (λq=>q=b) w1 wr)) (λiv _=>8-(intOf iv).toNat)
 case atStart=>exact⟨0,yF _,rfl,HR1.out,yB _ _⟩
 case round =>
  obtain⟨i,hi,rfl,HI⟩:=hrel;clear HR1;by_cases hlt:i<8
  ·have hT:(List.replicate i ((1,-1):Int × Int)++List.replicate (8-i) (0,0)).length=8:=by simp;omega
   have hO:(List.replicate 8 (0:Int)).length=8:=rfl;have f0:wr.frozen? ⟨b,2+i*2,none⟩=false:=zAa HI.out.1 (2+i*2) (by rw[zCs hT hO];omega) wr (yB _ _);have f1:wr.frozen? ⟨b,2+i*2+1,none⟩=false:=zAa HI.out.1 (2+i*2+1) (by rw[zCs hT hO];omega) wr (yB _ _);obtain⟨c0,c1⟩:=zDW HI.out.1 (t:=i) (by rw[hT];exact hlt);have h1:=zF3 HI.out.1 (t:=i) (by rw[hT];exact hlt) 1;have h2:=zK1 h1 (t:=i) (by rw[xQ,hT];exact hlt) (-1)
   have e1:(((List.replicate i ((1,-1):Int × Int)++List.replicate (8-i) (0,0)).set i (1,((List.replicate i ((1,-1):Int × Int)++List.replicate (8-i) (0,0)).getD i (0,0)).2)).set i ((((List.replicate i ((1,-1):Int × Int)++List.replicate (8-i) (0,0)).set i (1,((List.replicate i ((1,-1):Int × Int)++List.replicate (8-i) (0,0)).getD i (0,0)).2)).getD i (0,0)).1,-1))=List.replicate (i+1) (1,-1)++List.replicate (8-(i+1)) (0,0):=by
    have hg:∀(L:List (Int × Int)) q,i<L.length->(L.set i q).getD i (0,0)=q:=λL q h=>by simp[List.getD,h]
    rw[hg _ _ (by rw[hT];exact hlt),List.set_set];exact zLM _ _ hlt
   rw[e1] at h2;have H2:=yA h2;generalize ((List.replicate i ((1,-1):Int × Int)++List.replicate (8-i) (0,0)).getD i (0,0)).1=z0 at c0;generalize ((List.replicate i ((1,-1):Int × Int)++List.replicate (8-i) (0,0)).getD i (0,0)).2=z1 at c1;have HK:=yA HI.out.2;have i1:(0:Int)<=i:=by omega
   have i2:(i:Int)<8:=by omega
   clear h1 h2 e1 hT hO HI hi;go_wp2_with fail
   exact⟨⟨i+1,by omega,by go_num,H2.out,(HK.out.setCell (p:=⟨b,2+i*2,none⟩) (λ_=>rfl) _).setCell (p:=⟨b,2+i*2+1,none⟩) (λ_=>rfl) _⟩,by simp[intOf];omega⟩
  ·have hi8:i=8:=by omega
   subst hi8;have HR2:Hid (zB wr b (zA6 none 0 none 0 0 (List.replicate 8 (1,-1)) (List.replicate 0 (-1)++List.replicate (8-0) 0))):=HI.out.1;have HK2:=yA HI.out.2;clear hi hlt HI;go_wp2_with fail
   go_loopw [16] (λiv wq=>∃i:Nat,i<=8/\iv=.int .i64 i/\Hid (zB wq b (zA6 none 0 none 0 0 (List.replicate 8 (1,-1)) (List.replicate i (-1)++List.replicate (8-i) 0))/\Keeps (λq=>q=b) w1 wq)) (λiv _=>8-(intOf iv).toNat)
   case atStart=>exact⟨0,yF _,rfl,HR2.out,HK2.out⟩
   case round =>
    obtain⟨i,hi,rfl,HI⟩:=hrel;clear HR2 HK2;by_cases hlt:i<8
    ·have hO:(List.replicate i (-1:Int)++List.replicate (8-i) 0).length=8:=by simp;omega
     have f0:wr.frozen? ⟨b,18+i,none⟩=false:=zAa HI.out.1 (18+i) (by rw[zCs rfl hO];omega) wr (yB _ _);have c0:=zHn HI.out.1 rfl (k:=i) (by rw[hO];exact hlt);have h1:=zKq HI.out.1 rfl (k:=i) (by rw[hO];exact hlt) (-1);rw[zLM _ _ hlt] at h1;have H2:=yA h1;generalize (List.replicate i (-1:Int)++List.replicate (8-i) 0).getD i 0=z0 at c0;have HK:=yA HI.out.2;have i1:(0:Int)<=i:=by omega
     have i2:(i:Int)<8:=by omega
     clear h1 hO HI hi;go_wp2_with fail
     exact⟨⟨i+1,by omega,by go_num,H2.out,HK.out.setCell (p:=⟨b,18+i,none⟩) (λ_=>rfl) _⟩,by simp[intOf];omega⟩
    ·have hi8:i=8:=by omega
     subst hi8;have HR3:zB wr b (zA6 none 0 none 0 0 (List.replicate 8 (1,-1)) (List.replicate 8 (-1))):=HI.out.1;have f0:wr.frozen? ⟨b,2,none⟩=false:=zAa HR3 2 (by decide) wr (yB _ _);have c0:wr.cell? ⟨b,2,none⟩=some (.int .i64 1):=(zDW HR3 (t:=0) (by decide)).1;have H4:Hid (zB (wr.setCell ⟨b,2,none⟩ (.int .i64 2)) b (zA6 none 0 none 0 0 T0 O0)):=zF3 HR3 (t:=0) (by decide) 2;have HK:=yA HI.out.2;clear hi hlt HI HR3;go_wp2_with fail
     go_ret
     refine⟨b,rfl,⟨rfl,rfl,HK1.out.2,none,0,none,0,[],[],H4.out,World.ownsRow_nil _ _ _ _,World.ownsRow_nil _ _ _ _,λg e=>by exact J170 _,λg e=>by exact J170 _⟩,?_⟩
     exact HK1.out.1.trans (HK.out.setCell (p:=⟨b,2,none⟩) (λ_=>rfl) _) (λq hq e=>by have e':q=b:=e;have:=HK1.out.2;omega)
theorem zB.cellW{w:World}{g:Nat}{cs:List Value}(r:zB w g cs){k:Nat}{v:Value}(h:cs[k]?=some v):∀W,Keeps zA w W->W.cell? ⟨g,k,none⟩=some v:=zL (r.cell h)
theorem zBm.src{w:World}{v:Value}{xs:List Int}(h:zBm w v xs):zl w v xs.length (ints xs):=by
 obtain⟨ad,cap,rfl,h1,h2⟩:=h;refine⟨ad,cap,rfl,λhn=>?_⟩
 cases ad with
 | none=>rw[h1 rfl] at hn;exact absurd rfl hn
 | some a =>
   obtain⟨g,o,s⟩:=a;obtain⟨rfl,hc⟩:=h2 g o s rfl;refine⟨g,o,rfl,λj v hj=>?_⟩
   have hj':j<xs.length:=by
    have:=(yP.1 hj).1
    rwa [zAf] at this
   rw[zAB xs j hj'] at hj;cases hj;exact hc j hj'
def zQl:List (List UInt8 × List UInt8):=
 [([],[]),
  ([99,111,110,115,116],[82,78]),
  ([109,111,118,101],[82,82]),
  ([110,101,103],[82,82]),
  ([110,111,116],[82,82]),
  ([97,100,100],[82,82,82]),
  ([115,117,98],[82,82,82]),
  ([109,117,108],[82,82,82]),
  ([100,105,118],[82,82,82]),
  ([114,101,109],[82,82,82]),
  ([101,113],[82,82,82]),
  ([110,101],[82,82,82]),
  ([108,116],[82,82,82]),
  ([108,101],[82,82,82]),
  ([103,116],[82,82,82]),
  ([103,101],[82,82,82]),
  ([97,110,100],[82,82,82]),
  ([111,114],[82,82,82]),
  ([106,117,109,112],[73]),
  ([117,110,108,101,115,115],[82,73]),
  ([97,103,97,105,110],[82,73]),
  ([114,101,97,100],[82,99]),
  ([119,114,105,116,101],[99,82]),
  ([102,101,116,99,104],[82,99,82]),
  ([108,111,99,107],[109]),
  ([117,110,108,111,99,107],[109]),
  ([115,116,97,114,116],[116]),
  ([106,111,105,110],[116]),
  ([97,115,115,101,114,116],[82]),
  ([101,110,100],[])]
def zOG(l:List UInt8):Value:=.string ⟨l.toArray⟩
def zSM(p:List UInt8 × List UInt8):List Value:=[zOG p.1,zOG p.2]
def zE2:List Value:=zQl.flatMap zSM
theorem zGk(w:World):
 Calls Tryz.prog 242 #[] w λe w'=>e=.returned (.slice (some ⟨w.heap.size,0,none⟩) 30 30)/\w'=w.alloc (.cells zE2.toArray 379):=by
 go_enter Tryz.func242,Tryz.ntmps242
 go_wp2_with fail
 go_ret
 exact⟨rfl,rfl⟩
theorem zMZ:zE2[58]?=some (zOG [101,110,100])/\zE2[59]?=some (zOG []):=⟨by kernel_rfl,by kernel_rfl⟩
structure zDb(w:World)(gt ot gI:Nat):Prop where
 t0:w.cell? ⟨gt,ot,none⟩=some (.int .i64 0)
 t1:w.cell? ⟨gt,ot+1,none⟩=some (.slice (some ⟨gI,0,none⟩) 1 1)
 i0:w.cell? ⟨gI,0,none⟩=some (.int .i64 29)
 i1:w.cell? ⟨gI,1,none⟩=some (.int .i64 0)
 i2:w.cell? ⟨gI,2,none⟩=some (.int .i64 0)
 i3:w.cell? ⟨gI,3,none⟩=some (.int .i64 0)
theorem zDb.keeps{S:Nat->Prop}{w w':World}{gt ot gI:Nat}(h:zDb w gt ot gI)(hk:Keeps S w w')(h1:¬S gt)(h2:¬S gI):zDb w' gt ot gI:=
 ⟨hk.cell (p:=⟨gt,_,none⟩) h1 h.t0,hk.cell (p:=⟨gt,_,none⟩) h1 h.t1,hk.cell (p:=⟨gI,_,none⟩) h2 h.i0,hk.cell (p:=⟨gI,_,none⟩) h2 h.i1,hk.cell (p:=⟨gI,_,none⟩) h2 h.i2,hk.cell (p:=⟨gI,_,none⟩) h2 h.i3⟩
theorem zDb.zG{w w':World}{gt ot gI:Nat}(h:zDb w gt ot gI)(hk:Keeps zA w w'):zDb w' gt ot gI:=h.keeps hk (λh=>h) (λh=>h)
theorem zDb.all{w:World}{gt ot gI:Nat}(h:zDb w gt ot gI):∀W,Keeps zA w W->W.cell? ⟨gt,ot,none⟩=some (.int .i64 0)/\W.cell? ⟨gt,ot+1,none⟩=some (.slice (some ⟨gI,0,none⟩) 1 1)/\W.cell? ⟨gI,0,none⟩=some (.int .i64 29)/\W.cell? ⟨gI,1,none⟩=some (.int .i64 0)/\W.cell? ⟨gI,2,none⟩=some (.int .i64 0)/\W.cell? ⟨gI,3,none⟩=some (.int .i64 0):=λW q=>by
 obtain⟨a,b,c,d,e,f⟩:=h.zG q;exact⟨a,b,c,d,e,f⟩
theorem zRJ(w:World)(ca:Option Addr)(cc gt ot tc gI:Nat):Calls Tryz.prog 209 #[.agg #[.slice ca 0 cc,(0:Int),.slice (some ⟨gt,ot,none⟩) 1 tc],.agg #[(0:Int),.slice (some ⟨gI,0,none⟩) 1 1],.agg #[(29:Int),(0:Int),(0:Int),(0:Int)]] w λe w'=>e=.returned true/\Keeps zA w w':=by
 go_enter Tryz.func209,Tryz.ntmps209
 go_upto_region 1 with fail
 obtain⟨b1,w1,e1,e2,R1,K1,S1⟩:=newRow w [.slice ca 0 cc,(0:Int),.slice (some ⟨gt,ot,none⟩) 1 tc] 78;rw[e1,e2];obtain⟨b2,w2,e3,e4,R2,K2,S2⟩:=newRow w1 [(0:Int),.slice (some ⟨gI,0,none⟩) 1 1] 161;rw[<-S1.out,e3,e4];obtain⟨b3,w3,e5,e6,R3,K3,_⟩:=newRow w2 [(29:Int),(0:Int),(0:Int),(0:Int)] 158;rw[<-S2.out,e5,e6];have HK3:Hid (Keeps zA w w3):=(K1.zC K2).zC K3;have HR3:=yA R3;clear e1 e2 e3 e4 e5 e6 R1 R2 K1 K2 K3 S1 S2 R3;go_upto_region 2 with(go_at_call 242;refine(zGk _).mono ?_;rintro e w' ⟨rfl,rfl⟩)
 obtain⟨bo,w4,e1,e2,R4,K4,_⟩:=newRow w3 zE2 379;rw[e1,e2];have y:=(HR3.out.keeps K4 (λh=>h)).zBF;have o0:=zL (R4.cell (k:=58) zMZ.1);have o1:=zL (R4.cell (k:=59) zMZ.2);have k4:=zF w4;have HK4:Hid (Keeps zA w w4):=HK3.out.zC K4;clear e1 e2 R4 K4;unfold zOG at o0 o1;go_upto_region 6 with fail
 obtain⟨b5,w5,e1,e2,R5,K5,_⟩:=newRow w4 [(0:Int),(0:Int),(0:Int)] 3;try rw[e1]
 try rw[e2]
 have z:=R5.zA7;have k5:=zF w5;have HK5:Hid (Keeps zA w w5):=HK4.out.zC K5;clear e1 e2 R5 K5 y o0 o1 k4;go_wp2_with fail
 refine yY 4 ?_
 rw[yQ];go_wp2_with fail
 rw[yQ];go_wp2_with fail
 rw[yQ];go_wp2_with fail
 rw[yQ];go_wp2_with fail
 go_ret
 exact⟨rfl,HK5.out⟩
theorem zQF(w:World)(ca:Option Addr)(cc gt ot tc gI:Nat)(h:zDb w gt ot gI):Calls Tryz.prog 174 #[.agg #[.slice ca 0 cc,(0:Int),.slice (some ⟨gt,ot,none⟩) 1 tc]] w λe w'=>e=.returned true/\Keeps zA w w':=by
 have HI:=yA h;clear h;go_enter Tryz.func174,Tryz.ntmps174
 go_upto_region 1 with fail
 obtain⟨b1,w1,e1,e2,R1,K1,_⟩:=newRow w [.slice ca 0 cc,(0:Int),.slice (some ⟨gt,ot,none⟩) 1 tc] 78;rw[e1,e2];have y:=R1.zA7;have t:=(HI.out.zG K1).all;have k1:=zF w1;have HR1:=yA R1;have HK1:=yA K1;clear e1 e2 R1 K1;go_wp2_with fail
 refine yY 1 ?_
 rw[yQ];go_wp2_with fail
 refine yY 2 ?_
 rw[yQ];go_upto_region 12 with fail
 obtain⟨b2,w2,e1,e2,R2,K2,_⟩:=newRow w1 [(0:Int),.slice (some ⟨gI,0,none⟩) 1 1] 161;rw[e1,e2];have HK2:Hid (Keeps zA w w2):=HK1.out.zC K2;have HR12:=yA (HR1.out.keeps K2 (λh=>h));have HR2:=yA R2;clear e1 e2 R2 K2 y t k1 HR1 HK1;have y:=HR12.out.zA7;have t:=(HI.out.zG HK2.out).all;have u:=HR2.out.all2;have k2:=zF w2;go_wp2_with fail
 refine yY 2 ?_
 rw[yQ];go_upto_region 21 with fail
 obtain⟨b3,w3,e1,e2,R3,K3,_⟩:=newRow w2 [(29:Int),(0:Int),(0:Int),(0:Int)] 158;rw[e1,e2];have HK3:Hid (Keeps zA w w3):=HK2.out.zC K3;have y3:=(HR12.out.keeps K3 (λh=>h)).zA7;have u3:=(HR2.out.keeps K3 (λh=>h)).all2;have z3:=R3.zBF;have k3:=zF w3;clear e1 e2 R3 K3 y t u k2;go_upto_region 22 with(go_at_call 209;refine(zRJ _ ca cc gt ot tc gI).mono ?_;rintro e w4 ⟨rfl,g4⟩;have HK4:Hid (Keeps zA w w4):=HK3.out.zC g4;clear g4 y3 u3 z3 k3)
 go_wp2_with fail
 rw[yQ];go_wp2_with fail
 rw[yQ];go_wp2_with fail
 go_ret
 exact⟨rfl,HK4.out⟩
