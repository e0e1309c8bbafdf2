/- Layer L: texts joined. -/
import Derived.Test.YtfokdllgnblamaaGreatDoorL50
set_option linter.all false
set_option maxHeartbeats 8000000
set_option maxRecDepth 8000
namespace Go.Proofs.YtfokdllgnblamaaGreatDoor
open Go.RowKit
theorem J113 (P:Prop) (h:P:=by exact ⟨⟨k+1,by omega,by go_num,hkp.out.zB HK10.out⟩,by simp [intOf];omega⟩):P:=h
theorem zNG {B b n:Nat} {w:World} {S:LgS} (h:zBt B w b n S.1 S.2) {x:Evt} (hx:zGc S.1 S.2 x) (hn:n <= 1000):Calls Tryz.prog 60 #[.pointer (some ⟨b,0,none⟩),evV x] w fun e w'=>e=.returned (.int .i64 0) /\ zBt B w' b (n+1) (zCu n S x).1 (zCu n S x).2 /\ Keeps (fun q=>B <= q) w w':=by
 obtain ⟨xt,xk,xo,xv,xb⟩:=x;have h1:=hx.ok.1.1;have h2:=hx.ok.2.1.1;simp only at h1 h2;obtain ⟨t,rfl⟩:∃ t:Nat,xt=t:=⟨xt.toNat,by omega⟩
 obtain ⟨o,rfl⟩:∃ o:Nat,xo=o:=⟨xo.toNat,by omega⟩
 exact zMs h t o xk xv xb hx hn
theorem zKe (w:World) (v:Value) (L:List Evt) (h:zl w v L.length (L.flatMap evC)) (hm:L.length <= 1000) (hok:OkL 0 L (T0,O0)) :
 Calls Tryz.prog 22 #[v] w fun e w'=>∃ b,e=.returned (.tuple #[.pointer (some ⟨b,0,none⟩), .int .i64 0, .int .i64 0]) /\ zBt w.heap.size w' b L.length (zDX 0 L (T0,O0)).1 (zDX 0 L (T0,O0)).2 /\ Keeps zA w w':=by
 obtain ⟨B,hB⟩:∃ z,z=w.heap.size:=⟨_,rfl⟩
 have H1:Hid (∀ W,Keeps (fun q=>B <= q) w W -> ∀ k x,L[k]?=some x -> ∃ g o,v=.slice (some ⟨g,o,none⟩) L.length (match v with | .slice _ _ c=>c | _=>0) /\ ∀ j u,(evC x)[j]?=some u -> W.cell? ⟨g,o+k*5+j,none⟩=some u):=fun W hk k x hx=>by
  obtain ⟨ad,cap,e,f⟩:=(h.up hk (by rw [hB];exact yV _) (fun e=>by rw [zw _ 5 zJH] at e;omega):zl W v L.length (L.flatMap evC)).rows zJH;obtain ⟨g,o,rfl,f2⟩:=f k x hx;subst e;exact ⟨g,o,rfl,f2⟩
 have H2:Hid (∀ k x,L[k]?=some x -> zGc (zDX 0 (L.take k) (T0,O0)).1 (zDX 0 (L.take k) (T0,O0)).2 x /\ zDX 0 (L.take (k+1)) (T0,O0)=zCu k (zDX 0 (L.take k) (T0,O0)) x):=fun k x hx=>by
  have:=zKz L 0 (T0,O0) hok k x hx
  rwa [xC] at this
 obtain ⟨ad,cap,rfl,_⟩:=h;obtain ⟨n,hn⟩:∃ n,n=L.length:=⟨_,rfl⟩
 have HN:=yA hn;have HBB:=yA hB;have HN0:=yA (zIj w);rw [<- hn] at hm H1 ⊢;rw [<- hB] at HN0 ⊢;clear hok hn hB;go_enter Tryz.func22,Tryz.ntmps22
 go_wp2_with (go_at_call 59;refine HN0.out.mono ?_;rintro e w1 ⟨b,rfl,hl,hk⟩;have HL1:=yA hl;have HK1:Hid (Keeps (fun q=>B <= q) w w1):=hk.mono (fun _ _ h=>h.elim);clear hl hk)
 clear HN0;go_loopw [12] (fun iv wr=>∃ i:Nat,i <= n /\ iv=.int .i64 i /\ Hid (zBt B wr b i (zDX 0 (L.take i) (T0,O0)).1 (zDX 0 (L.take i) (T0,O0)).2 /\ Keeps (fun q=>B <= q) w wr)) (fun iv _=>n - (intOf iv).toNat)
 case atStart=>exact ⟨0,yH _,rfl,HL1.out,HK1.out⟩
 case round =>
  obtain ⟨i,hi,rfl,HI⟩:=hrel;clear HL1 HK1;by_cases hlt:i < n
  ·obtain ⟨x,hx⟩:∃ x,L[i]?=some x:=⟨_,yJ (by rw [<- HN.out];exact hlt)⟩
   obtain ⟨g,o,e,d⟩:=H1.out wr HI.out.2 i x hx;simp only [xX,true_and,and_true] at e;subst e;obtain ⟨p1,p2⟩:=H2.out i x hx;have HAD:=yA (fun (W:World) (q:Keeps zA wr W)=>zNG (HI.out.1.keeps q (fun _ _ h=>h)) p1 (by omega));have HP2:=yA p2;have HKK:=yA HI.out.2;obtain ⟨xt,xk,xo,xv,xb⟩:=x;have d0:wr.cell? ⟨g,o+i*5,none⟩=some (.int .i64 xt):=d 0 _ rfl;have d1:wr.cell? ⟨g,o+i*5+1,none⟩=some (.int .i64 xk):=d 1 _ rfl;have d2:wr.cell? ⟨g,o+i*5+2,none⟩=some (.int .i64 xo):=d 2 _ rfl;have d3:wr.cell? ⟨g,o+i*5+3,none⟩=some (.int .i64 xv):=d 3 _ rfl;have d4:wr.cell? ⟨g,o+i*5+4,none⟩=some (.int .i64 xb):=d 4 _ rfl;have i1:(0:Int) <= i:=by omega
   have i2:(i:Int) < n:=by omega
   clear d hx p1 p2 HI hi;go_upto_region 5 with fail
   obtain ⟨b7,w2,x1,x2,R2,K2,_⟩:=newRow wr [.int .i64 xt, .int .i64 xk, .int .i64 xo, .int .i64 xv, .int .i64 xb] 40;try rw [x1]
   try rw [x2]
   have y2:=R2.five;have HK2:=yA K2;have k2:=zI w2;clear x1 x2 R2 d0 d1 d2 d3 d4;go_wp2_with (go_at_call 60;refine (HAD.out _ HK2.out).mono ?_;rintro e w5 ⟨rfl,hl,k5⟩;have HL:=yA hl;have HK5:=yA k5;clear hl k5)
   exact ⟨⟨i+1,by omega,by go_num,by rw [HP2.out];exact HL.out,(HKK.out.trans K2 (fun _ _ h=>h.elim)).trans HK5.out (fun _ _ h=>h)⟩,by simp [intOf];omega⟩
  ·have hin:i=n:=by omega
   subst hin;have htk:L.take i=L:=by rw [HN.out];exact xJ
   rw [htk] at HI;clear hlt hi;go_wp2_with fail
   refine xM (v:=.tuple #[.pointer (some ⟨b,0,none⟩), .int .i64 0, .int .i64 0]) (by simp [results,Tryz.results22,go_sem]) rfl ?_
   exact ⟨b,rfl,HI.out.1,HI.out.2.mono (fun q hq e=>by have e':B <= q:=e;have:=HBB.out;omega)⟩
theorem zIc (w:World) (a:UInt8) (d:Nat) (ha:a.toNat=48+d) (hd:d < 10):Calls Tryz.prog 24 #[.string ⟨#[a]⟩] w fun e w'=>e=.returned (.int .i64 d) /\ Keeps zA w w':=by
 have hz:(ByteArray.mk #[a]).size=1:=rfl;have HA:=yA ha;clear ha;go_enter Tryz.func24,Tryz.ntmps24
 go_wp2_with fail
 go_loopw [4,3] (fun i v wr=>(i=.int .i64 0 /\ v=.int .i64 0 /\ Hid (Keeps zA w wr)) \/ (i=.int .i64 1 /\ v=.int .i64 d /\ Hid (Keeps zA w wr))) (fun i _ _=>1 - (intOf i).toNat)
 case atStart=>exact .inl ⟨rfl,rfl,yB _ _⟩
 case round =>
  rcases hrel with ⟨rfl,rfl,hk⟩ | ⟨rfl,rfl,hk⟩
  ·go_wp2_with fail
   have e:((({ data:=#[a] }:ByteArray)[0].toNat:Int) - 48) % 256=(d:Int):=by
    have e0:(({ data:=#[a] }:ByteArray)[0])=a:=rfl;rw [e0,HA.out];omega
   exact ⟨.inr ⟨rfl,kK _ e,hk⟩,by simp [intOf]⟩
  ·go_wp2_with fail
   go_ret
   exact ⟨rfl,hk.out⟩
theorem zIO (w:World) (a b:UInt8) (d c:Nat) (ha:a.toNat=48+d) (hd:d < 10) (hb:b.toNat=48+c) (hc:c < 10):Calls Tryz.prog 24 #[.string ⟨#[a,b]⟩] w fun e w'=>e=.returned (.int .i64 ((10*d+c:Nat):Int)) /\ Keeps zA w w':=by
 have hz:(ByteArray.mk #[a,b]).size=2:=rfl;have HA:=yA ha;have HB:=yA hb;clear ha hb;go_enter Tryz.func24,Tryz.ntmps24
 go_wp2_with fail
 go_loopw [4,3] (fun i v wr=>(i=.int .i64 0 /\ v=.int .i64 0 /\ Hid (Keeps zA w wr)) \/ (i=.int .i64 1 /\ v=.int .i64 d /\ Hid (Keeps zA w wr)) \/ (i=.int .i64 2 /\ v=.int .i64 ((10*d+c:Nat):Int) /\ Hid (Keeps zA w wr))) (fun i _ _=>2 - (intOf i).toNat)
 case atStart=>exact .inl ⟨rfl,rfl,yB _ _⟩
 case round =>
  rcases hrel with ⟨rfl,rfl,hk⟩ | ⟨rfl,rfl,hk⟩ | ⟨rfl,rfl,hk⟩
  ·go_wp2_with fail
   have e:((({ data:=#[a,b] }:ByteArray)[0].toNat:Int) - 48) % 256=(d:Int):=by
    have e0:(({ data:=#[a,b] }:ByteArray)[0])=a:=rfl;rw [e0,HA.out];omega
   exact ⟨.inr (.inl ⟨rfl,kK _ e,hk⟩),by simp [intOf]⟩
  ·go_wp2_with fail
   have e0:(({ data:=#[a,b] }:ByteArray)[1])=b:=rfl;exact ⟨.inr (.inr ⟨rfl,by rw [e0,HB.out];congr 1;omega,hk⟩),by simp [intOf]⟩
  ·go_wp2_with fail
   go_ret
   exact ⟨rfl,hk.out⟩
theorem zLx {n:Nat} (h:n < 10):zB7 n=[UInt8.ofNat (48+n)]:=by
 unfold zB7;by_cases h0:n=0
 ·subst h0;rfl
 ·rw [if_neg h0,zCe (by decide) h0,show n / 10=0 by omega,zA1,show n % 10=n by omega];rfl
theorem zMI {n:Nat} (h:10 <= n) (h2:n < 100):zB7 n=[UInt8.ofNat (48+n / 10),UInt8.ofNat (48+n % 10)]:=by
 unfold zB7;have h0:n ≠ 0:=by omega
 have h1:n / 10 ≠ 0:=by omega
 rw [if_neg h0,zCe (by decide) h0,zCe (by decide) h1,show n / 10 / 10=0 by omega,zA1,show n / 10 % 10=n / 10 by omega];rfl
theorem zHz (w:World) {n:Nat} (h:n < 100):Calls Tryz.prog 24 #[.string (tell true n)] w fun e w'=>e=.returned (.int .i64 n) /\ Keeps zA w w':=by
 have hu:∀ k:Nat,k < 10 -> (UInt8.ofNat (48+k)).toNat=48+k:=fun k hk=>UInt8.toNat_ofNat_of_lt' (by show 48+k < 256;omega)
 by_cases h1:n < 10
 ·have e:tell true n=⟨#[UInt8.ofNat (48+n)]⟩:=by unfold tell;rw [zLx h1];rfl
  rw [e];exact zIc w _ n (hu n h1) h1
 ·have e:tell true n=⟨#[UInt8.ofNat (48+n / 10),UInt8.ofNat (48+n % 10)]⟩:=by unfold tell;rw [zMI (by omega) h];rfl
  rw [e];have:=zIO w _ _ (n / 10) (n % 10) (hu _ (by omega)) (by omega) (hu _ (by omega)) (by omega)
  rwa [show 10*(n / 10)+n % 10=n by omega] at this
theorem zN0 (w:World) (F:Nat -> Prop):zAR w F [] none:=⟨fun _=>[],fun i hi=>absurd hi (vY _),fun i y e=>by simp at e⟩
theorem zO3:newR ⟨[],0,[⟨0,[]⟩]⟩=0:=by decide
theorem zK2:whole ⟨[],0,[⟨0,[]⟩]⟩ []=([⟨0,9,0,0,0⟩],⟨[],[],[⟨3,[],[]⟩]⟩):=by rfl
theorem zOx {w:World} {F:Nat -> Prop} {th:Nat} (ht:zC w th [.int .i64 0, .slice none 0 0]) (f:F th) (hF:∀ k,F k -> k < w.heap.size):zC7 w F [] [⟨0,[]⟩] none (some ⟨th,0,none⟩):=by
 refine ⟨fun i hi=>absurd hi (vY _),fun i hi=>?_,hF,fun b hb=>?_,by simp [zAi,Ac.szL],by decide,by simp⟩
 ·have hi0:i=0:=by simpa using hi
  subst hi0;exact ⟨th,0,none,0,rfl,f,ht.cell (k:=0) rfl,ht.cell (k:=1) rfl,zN0 _ _⟩
 ·obtain rfl:b=⟨0,[]⟩:=by simpa using hb
  simp [Ac.zBi]
theorem zEy (w:World):Calls Tryz.prog 18 #[] w fun e w'=>e=.returned (.bool true) /\ Keeps zA w w':=by
 obtain ⟨th,w1,x1,z1,R1,K1,_⟩:=newRow w [.int .i64 0, .slice none 0 0] 70;have hU:zC7 w1 (fun k=>k < w1.heap.size) [] [⟨0,[]⟩] none (some ⟨th,0,none⟩):=zOx R1 (R1.lt (by simp)) (fun _ h=>h)
 have HW:Hid (Calls Tryz.prog 54 #[.agg #[.slice none 0 0, .int .i64 0, .slice (some ⟨th,0,none⟩) 1 1], .slice none 0 0] w1 fun e w'=>∃ oa oc a1 q1 a2 q2 a3 q3 a4 q4,e=.returned (.tuple #[.slice oa 1 oc, .agg #[.slice a1 0 q1, .slice a2 0 q2, .slice a3 1 q3, .slice a4 1 q4], .int .i64 0]) /\ zAO w' w1.heap.size (.slice oa 1 oc) 1 [.int .i64 0, .int .i64 9, .int .i64 0, .int .i64 0, .int .i64 0] /\ Keeps zA w1 w'):=by
  have h:=zL6 (mu:=0) (ucc:=0) (utc:=1) hU none 0 [] ⟨none,0,rfl,fun h=>absurd rfl h⟩ zO3;rw [zK2] at h;refine h.mono fun e w' h=>?_
  obtain ⟨oa,oc,a1,q1,a2,q2,a3,q3,a4,q4,he,hf,ho⟩:=h;exact ⟨oa,oc,a1,q1,a2,q2,a3,q3,a4,q4,he,hf,ho.keeps⟩
 have HK1:=yA K1;clear hU R1 K1;go_enter Tryz.func18,Tryz.ntmps18
 go_upto_region 2 with (go_at_call 54;refine HW.out.mono ?_;rintro e w2 ⟨oa,oc,a1,q1,a2,q2,a3,q3,a4,q4,rfl,hf,ho⟩;have HF:=yA hf;have HO:=yA ho;clear hf ho x1 z1)
 obtain ⟨b3,w4,x3,z3,R5,K5,_⟩:=newRow w2 [.slice a1 0 q1, .slice a2 0 q2, .slice a3 1 q3, .slice a4 1 q4] 51;rw [x3,z3];obtain ⟨ad,cap,e,_,_,hc⟩:=HF.out.keeps K5 (fun _ _ h=>h);simp only [xX,true_and] at e;obtain ⟨rfl,rfl⟩:=e;obtain ⟨g,rfl,_,hr⟩:=hc (by decide);have y5:=hr.five;have k4:=zI w4;have HK3:Hid (Keeps zA w w4):=(HK1.out.zB HO.out).zB K5;clear hr hc K5 R5 HF x3 z3;go_wp2_with fail
 go_ret
 exact ⟨rfl,HK3.out⟩
section
variable {cs:List Int} {mu:Int} {bs:List Bd} {w:World} {F:Nat -> Prop} {uca uta:Option Addr} {ucc utc:Nat}
theorem zC7.zJW (h:zC7 w F cs bs uca uta):Calls Tryz.prog 19 #[.agg #[.slice uca cs.length ucc, .int .i64 mu, .slice uta bs.length utc]] w fun e w'=>e=.returned (.int .i64 (newR ⟨cs,mu,bs⟩)) /\ Keeps zA w w' :=
 zGG cs mu bs w F uca uta ucc utc h.nums h.bds h.low h.sz h.l1 h.l2
end
def zM2 {α:Type} (C:α -> List Value) (L:List α) (m:ze) (r:Int) (w:World) (e:Ending) (w':World):Prop :=
 ∃ oa oc a1 n1 q1 a2 n2 q2 a3 n3 q3 a4 n4 q4,e=.returned (.tuple #[.slice oa L.length oc, .agg #[.slice a1 n1 q1, .slice a2 n2 q2, .slice a3 n3 q3, .slice a4 n4 q4], .int .i64 r]) /\ zl w' (.slice oa L.length oc) L.length (L.flatMap C) ∧
   zDU w' (.slice a1 n1 q1) (.slice a2 n2 q2) (.slice a3 n3 q3) (.slice a4 n4 q4) m.cells m.owners (zEe m m.zL.length) (zGd m m.zL.length) /\ Keeps zA w w'
def noM:ze:=⟨[],[],[]⟩
theorem zFf (w:World):zl w (.slice none 0 0) 0 []:=⟨none,0,rfl,fun h=>absurd rfl h⟩
theorem zM2.no {α:Type} {C:α -> List Value} {r:Int} {w w':World} {e:Ending} (h:e=.returned (.tuple #[.slice none 0 0,zOQ, .int .i64 r]) /\ Keeps zA w w'):zM2 C [] noM r w e w' :=
 ⟨none,0,none,0,0,none,0,0,none,0,0,none,0,0,h.1,zFf _,⟨zFf _,zFf _,zFf _,zFf _⟩,h.2⟩
theorem zM2.ok {α:Type} {C:α -> List Value} {L:List α} {m:ze} {w w':World} {e:Ending} (h:∃ oa oc a1 q1 a2 q2 a3 q3 a4 q4,e=.returned (.tuple #[.slice oa L.length oc, .agg #[.slice a1 m.cells.length q1, .slice a2 m.owners.length q2, .slice a3 m.zL.length q3, .slice a4 m.zL.length q4], .int .i64 0]) ∧
 zAO w' w.heap.size (.slice oa L.length oc) L.length (L.flatMap C) /\ zDN w m (.slice a1 m.cells.length q1) (.slice a2 m.owners.length q2) (.slice a3 m.zL.length q3) (.slice a4 m.zL.length q4) w'):zM2 C L m 0 w e w':=by
 obtain ⟨oa,oc,a1,q1,a2,q2,a3,q3,a4,q4,he,hf,ho⟩:=h;exact ⟨oa,oc,a1,_,q1,a2,_,q2,a3,_,q3,a4,_,q4,he,hf.src,ho.src,ho.keeps⟩
section
variable {cs:List Int} {mu:Int} {bs:List Bd} {w:World} {F:Nat -> Prop} {uca uta:Option Addr} {ucc utc:Nat}
end
section
variable {cs:List Int} {mu:Int} {bs:List Bd} {w:World} {F:Nat -> Prop} {uca uta:Option Addr} {ucc utc:Nat}
theorem zNF (h:zC7 w F cs bs uca uta) (ca:Option Addr) (n cc:Nat) (hr:newR ⟨cs,mu,bs⟩ ≠ 0):Calls Tryz.prog 5 #[.agg #[.slice uca cs.length ucc, .int .i64 mu, .slice uta bs.length utc], .slice ca n cc] w fun e w'=>e=.returned (.bool true) /\ Keeps zA w w':=by
 have HWI:Hid (∀ W,Keeps zA w W -> Calls Tryz.prog 19 #[.agg #[.slice uca cs.length ucc, .int .i64 mu, .slice uta bs.length utc]] W fun e w'=>e=.returned (.int .i64 (newR ⟨cs,mu,bs⟩)) /\ Keeps zA W w'):=fun W hk=>by
  have g:=(h.zG hk).zJW (mu:=mu) (ucc:=ucc) (utc:=utc);exact g
 have hb:(newR ⟨cs,mu,bs⟩ != 0)=true:=bne_iff_ne.2 hr;generalize newR ⟨cs,mu,bs⟩=rr at hb HWI;clear h hr;go_enter Tryz.func5,Tryz.ntmps5
 go_upto_region 1 with fail
 obtain ⟨b1,w1,x1,z1,R1,K1,_⟩:=newRow w [.slice uca cs.length ucc, .int .i64 mu, .slice uta bs.length utc] 25;try rw [x1]
 try rw [z1]
 have y1:=R1.zEt;have k1:=zI w1;have HR1:=yA R1;have HK1:=yA K1;clear x1 z1 R1 K1;have HS:=yA (zEy w1)
 go_wp2_with (first
  | (go_at_call 18;refine HS.out.mono ?_;rintro e w2 ⟨rfl,k2⟩;have HK2:=yA (HK1.out.zB k2))
  | (go_at_call 19;refine (HWI.out _ HK2.out).mono ?_;rintro e w3 ⟨rfl,k3⟩;have HK3:=yA (HK2.out.zB k3);clear k3))
 go_ret
 exact ⟨rfl,HK3.out⟩
theorem zKG (ca:Option Addr) (n cc:Nat) (hn:1000 < n)
 (HWI:Hid (∀ W,Keeps zA w W -> Calls Tryz.prog 19 #[.agg #[.slice uca cs.length ucc, .int .i64 mu, .slice uta bs.length utc]] W fun e w'=>e=.returned (.int .i64 0) /\ Keeps zA W w'))
 : Calls Tryz.prog 5 #[.agg #[.slice uca cs.length ucc, .int .i64 mu, .slice uta bs.length utc], .slice ca n cc] w fun e w'=>e=.returned (.bool true) /\ Keeps zA w w':=by
 have d1:decide ((1000:Int) < n)=true:=xZ (by omega);have d2:(1000 < n)=True:=eq_true hn;clear hn;go_enter Tryz.func5,Tryz.ntmps5
 go_upto_region 1 with fail
 obtain ⟨b1,w1,x1,z1,R1,K1,_⟩:=newRow w [.slice uca cs.length ucc, .int .i64 mu, .slice uta bs.length utc] 25;try rw [x1]
 try rw [z1]
 have y1:=R1.zEt;have k1:=zI w1;have HR1:=yA R1;have HK1:=yA K1;clear x1 z1 R1 K1;have HS:=yA (zEy w1)
 go_wp2_with (first
  | (go_at_call 18;refine HS.out.mono ?_;rintro e w2 ⟨rfl,k2⟩;have HK2:=yA (HK1.out.zB k2))
  | (go_at_call 19;refine (HWI.out _ HK2.out).mono ?_;rintro e w3 ⟨rfl,k3⟩;have HK3:=yA (HK2.out.zB k3);clear k3))
 go_ret
 exact ⟨rfl,HK3.out⟩
theorem zLq (ca:Option Addr) (n cc np nx nt no ms:Nat) (st:ByteArray) (D:List Value) (X:List Value) (T:List (Int × Int)) (O sts ows:List Int) (hn:n <= 1000) (hms:nx <= ms) (h60:ms <= 1000)
 (HN8:Hid (nt <= 8 /\ no <= 8)) (hnt:((nt:Int) != bs.length)=false) (hno:((no:Int) != mu)=false) (HLN:Hid (nt=sts.length /\ no=ows.length)) (HEQ:Hid ((∀ j,j < nt -> (T.getD j (0,0)).1=sts.getD j 0) /\ ∀ j,j < no -> O.getD j 0=ows.getD j 0))
 (HWI:Hid (∀ W,Keeps zA w W -> Calls Tryz.prog 19 #[.agg #[.slice uca cs.length ucc, .int .i64 mu, .slice uta bs.length utc]] W fun e w'=>e=.returned (.int .i64 0) /\ Keeps zA W w'))
 (HPL:Hid (∀ W,Keeps zA w W -> Calls Tryz.prog 20 #[.agg #[.slice uca cs.length ucc, .int .i64 mu, .slice uta bs.length utc], .slice ca n cc] W fun e w'=>∃ oa oc a1 an1 aq1 a2 aq2 a3 aq3 a4 an4 aq4,e=.returned (.tuple #[.slice oa np oc, .agg #[.slice a1 an1 aq1, .slice a2 no aq2, .slice a3 nt aq3, .slice a4 an4 aq4], .int .i64 0]) /\ zl w' (.slice oa np oc) np D /\ zl w' (.slice a3 nt aq3) nt (ints sts) /\ zl w' (.slice a2 no aq2) no (ints ows) /\ Keeps zA W w'))
 (HDN:Hid (∀ W v,zl W v np D -> Calls Tryz.prog 21 #[v] W fun e w'=>∃ oa oc al,e=.returned (.tuple #[.slice oa nx oc, .bool al]) /\ zl w' (.slice oa nx oc) nx X /\ Keeps zA W w'))
 (HOF:Hid (∀ W v,zl W v nx X -> Calls Tryz.prog 22 #[v] W fun e w'=>∃ b,e=.returned (.tuple #[.pointer (some ⟨b,0,none⟩), .int .i64 0, .int .i64 0]) /\ zBt W.heap.size w' b nx T O /\ Keeps zA W w'))
 (HST:Hid (∀ W,Keeps zA w W -> Calls Tryz.prog 23 #[.agg #[.slice uca cs.length ucc, .int .i64 mu, .slice uta bs.length utc]] W fun e w'=>e=.returned (.string st) /\ Keeps zA W w'))
 (HNM:Hid (∀ W,Calls Tryz.prog 24 #[.string st] W fun e w'=>e=.returned (.int .i64 ms) /\ Keeps zA W w'))
 : Calls Tryz.prog 5 #[.agg #[.slice uca cs.length ucc, .int .i64 mu, .slice uta bs.length utc], .slice ca n cc] w fun e w'=>e=.returned (.bool true) /\ Keeps zA w w':=by
 have d1:decide ((1000:Int) < n)=false:=xY (by omega);have d2:(1000 < n)=False:=eq_false (by omega);have d3:decide ((ms:Int) < nx)=false:=xY (by omega);have d4:(ms < nx)=False:=eq_false (by omega);obtain ⟨hn8,hn9⟩:=HN8.out;clear hn hms;go_enter Tryz.func5,Tryz.ntmps5
 go_upto_region 1 with fail
 obtain ⟨b1,w1,x1,z1,R1,K1,_⟩:=newRow w [.slice uca cs.length ucc, .int .i64 mu, .slice uta bs.length utc] 25;try rw [x1]
 try rw [z1]
 have y1:=R1.zEt;have k1:=zI w1;have HR1:=yA R1;have HK1:=yA K1;clear x1 z1 R1 K1;have HS:=yA (zEy w1)
 go_upto_region 6 with (first
  | (go_at_call 18;refine HS.out.mono ?_;rintro e w2 ⟨rfl,k2⟩;have HK2:=yA (HK1.out.zB k2);have k12:=yA k2)
  | (go_at_call 19;refine (HWI.out _ HK2.out).mono ?_;rintro e w3 ⟨rfl,k3⟩;have HK3:=yA (HK2.out.zB k3);have k13:=yA (k12.out.zB k3);have k3':=k2.zB k3;clear k3)
  | (go_at_call 20;refine (HPL.out _ HK3.out).mono ?_;rintro e w4 ⟨oa,oc,a1,an1,aq1,a2,aq2,a3,aq3,a4,an4,aq4,rfl,hf,h3,h2,ho⟩;have HF:=yA hf;have H3:=yA h3;have H2:=yA h2;have HO:=yA ho;clear hf h3 h2 ho))
 obtain ⟨b8,w5,x5,z5,R5,K5,_⟩:=newRow w4 [.slice a1 an1 aq1, .slice a2 no aq2, .slice a3 nt aq3, .slice a4 an4 aq4] 51;rw [x5,z5];have HK5:Hid (Keeps zA w w5):=(HK3.out.zB HO.out).zB K5;have HF5:=yA (HF.out.zG K5);have H35:=yA (H3.out.zG K5);have H25:=yA (H2.out.zG K5);have y1:=(HR1.out.keeps ((k13.out.zB HO.out).zB K5) (fun h=>h)).zEt;have y8:=R5.zDZ;have k5:=zI w5;clear x5 z5 R5 K5 HF HO HPL HWI H3 H2 HS k1 k2 k3'
 go_upto_region 16 with (first
  | (go_at_call 21;refine (HDN.out _ _ HF5.out).mono ?_;rintro e w6 ⟨ob,od,al,rfl,hf,k6⟩;have HF6:=yA hf;have HK56:=yA k6;clear hf)
  | (go_at_call 22;refine (HOF.out _ _ HF6.out).mono ?_;rintro e w7 ⟨b,rfl,hl,k7⟩;have HL7:=yA hl;have HK67:=yA k7;have k57:=HK56.out.zB k7;have HK57:=yA k57;clear hl k7)
  | (go_at_call 23;refine (HST.out _ (HK5.out.zB HK57.out)).mono ?_;rintro e w8 ⟨rfl,k8⟩;have HK78:=yA k8;have k58:=k57.zB k8;clear k8)
  | (go_at_call 24;refine (HNM.out _).mono ?_;rintro e w9 ⟨rfl,k9⟩;have HK89:=yA k9;have k59:=k58.zB k9;clear k9))
 have HK9:=yA (HK5.out.zB k59);have HL9:=yA (HL7.out.keeps (HK78.out.zB HK89.out) (fun _ _ h=>h));have HSnt:Hid (∀ W,Keeps zA w9 W -> zl W (.slice a3 nt aq3) nt (ints sts)):=fun W q=>H35.out.zG (k59.zB q)
 have HSno:Hid (∀ W,Keeps zA w9 W -> zl W (.slice a2 no aq2) no (ints ows)):=fun W q=>H25.out.zG (k59.zB q)
 have y9:=fun W (q:Keeps zA w9 W)=>y8 W (k59.zB q)
 clear y1 y8 k5 k6 k57 k58 k59 HST HNM HOF HDN HF5 HF6 H35 H25;go_wp2_with fail
 go_loopw [17] (fun iv wr=>∃ k:Nat,k <= nt /\ iv=.int .i64 k /\ Hid (Keeps zA w9 wr)) (fun iv _=>nt - (intOf iv).toNat)
 case atStart=>exact ⟨0,yH _,rfl,yB _ _⟩
 case round =>
  obtain ⟨k,hk,rfl,hkp⟩:=hrel;have kr:=hkp.out;by_cases hlt:k < nt
  ·have hsx:zl wr (.slice a3 nt aq3) sts.length (ints sts):=by rw [<- HLN.out.1];exact (HSnt.out wr hkp.out)
   obtain ⟨ad,cap,ee,hcl⟩:=hsx.ints;obtain ⟨g,o,rfl,c0⟩:=hcl k (by rw [<- HLN.out.1];exact hlt);simp only [xX] at ee;obtain ⟨rfl,hz,rfl⟩:=ee;clear hz;have HC:=yA (zIz (HL9.out.keeps hkp.out (fun _ _ h=>h)) k (by have:=HN8.out;omega));rw [HEQ.out.1 k hlt] at HC;generalize sts.getD k 0=z at c0 HC;have c1:=zT c0;have kk:=zI wr;have i1:(0:Int) <= k:=by omega
   have i2:(k:Int) < nt:=by omega
   clear hsx hcl c0 hk;go_wp2_with (go_at_call 25;refine HC.out.mono ?_;rintro e w10 ⟨rfl,k10⟩;have HK10:=yA k10;have k910:=xD kr k10)
   exact J113 _
  ·have hkn:k=nt:=by omega
   subst hkn;clear hlt hk;have hkp1:=hkp;go_wp2_with fail
   go_loopw [19] (fun iv wr=>∃ k:Nat,k <= no /\ iv=.int .i64 k /\ Hid (Keeps zA w9 wr)) (fun iv _=>no - (intOf iv).toNat)
   case atStart=>exact ⟨0,yH _,rfl,hkp1.out⟩
   case round =>
    obtain ⟨k,hk,rfl,hkp⟩:=hrel;have kr:=hkp.out;by_cases hlt:k < no
    ·have hsx:zl wr (.slice a2 no aq2) ows.length (ints ows):=by rw [<- HLN.out.2];exact (HSno.out wr hkp.out)
     obtain ⟨ad,cap,ee,hcl⟩:=hsx.ints;obtain ⟨g,o,rfl,c0⟩:=hcl k (by rw [<- HLN.out.2];exact hlt);simp only [xX] at ee;obtain ⟨rfl,hz,rfl⟩:=ee;clear hz;have HC:=yA (zKJ (HL9.out.keeps hkp.out (fun _ _ h=>h)) k (by have:=HN8.out;omega));rw [HEQ.out.2 k hlt] at HC;generalize ows.getD k 0=z at c0 HC;have c1:=zT c0;have kk:=zI wr;have i1:(0:Int) <= k:=by omega
     have i2:(k:Int) < no:=by omega
     clear hsx hcl c0 hk;go_wp2_with (go_at_call 26;refine HC.out.mono ?_;rintro e w10 ⟨rfl,k10⟩;have HK10:=yA k10;have k910:=xD kr k10)
     exact J113 _
    ·have hkn:k=no:=by omega
     subst hkn;clear hlt hk;go_wp2_with fail
     go_ret
     exact ⟨rfl,HK9.out.zB hkp.out⟩
end
section
variable {cs:List Int} {mu:Int} {bs:List Bd} {w:World} {F:Nat -> Prop} {uca uta:Option Addr} {ucc utc:Nat}
theorem zLh (h:zC7 w F cs bs uca uta) (ca:Option Addr) (cc:Nat) (ch:List Int) (hx:zl w (.slice ca ch.length cc) ch.length (ints ch)):Calls Tryz.prog 5 #[.agg #[.slice uca cs.length ucc, .int .i64 mu, .slice uta bs.length utc], .slice ca ch.length cc] w fun e w'=>e=.returned (.bool true) /\ Keeps zA w w':=by
 by_cases hr:newR ⟨cs,mu,bs⟩=0
 ·have hR:=zDD hr
  have HWI:Hid (∀ W,Keeps zA w W -> Calls Tryz.prog 19 #[.agg #[.slice uca cs.length ucc, .int .i64 mu, .slice uta bs.length utc]] W fun e w'=>e=.returned (.int .i64 0) /\ Keeps zA W w'):=fun W hk=>by
   have g:=(h.zG hk).zJW (mu:=mu) (ucc:=ucc) (utc:=utc);rwa [hr] at g
  by_cases hl:ch.length <= 1000
  ·have h60:unS bs <= 60:=by
    unfold newR zB5 at hr;rw [hR] at hr;revert hr
    simp only [kG];split
    ·intro e;cases e
    ·intro _;omega
   have hpot:zB9 ⟨cs,mu,bs⟩ (zAU ⟨cs,mu,bs⟩) <= unS bs:=zHS ⟨cs,mu,bs⟩;have h8:=zAt hR;have q1:bs.length <= 8:=h8.2.1;have q2:0 <= mu:=h8.2.2.2.1;have q3:mu <= 8:=h8.2.2.2.2.1;obtain ⟨t1,t2,t3⟩:=zIe hR ch (zAU ⟨cs,mu,bs⟩) (T0,O0) 0 (zEW hR) (zJq hR);have hok:=zNc hR ch _ (zEW hR);have HPL:∀ W,Keeps zA w W -> Calls Tryz.prog 20 #[.agg #[.slice uca cs.length ucc, .int .i64 mu, .slice uta bs.length utc], .slice ca ch.length cc] W (zNU W (plN ⟨cs,mu,bs⟩ (zAU ⟨cs,mu,bs⟩) ch)):=fun W hk=>zMi (h.zG hk) ca cc ch (hx.keeps hk (fun _ _ h=>h)) hl hr
   have hdl:(plN ⟨cs,mu,bs⟩ (zAU ⟨cs,mu,bs⟩) ch).1.length <= 1000:=by rw [zHF];exact hl
   have hth:(plN ⟨cs,mu,bs⟩ (zAU ⟨cs,mu,bs⟩) ch).2.zL.length=bs.length:=hok.zL;have how:(plN ⟨cs,mu,bs⟩ (zAU ⟨cs,mu,bs⟩) ch).2.owners.length=mu.toNat:=hok.owners;obtain ⟨D,hD⟩:∃ z,z=(plN ⟨cs,mu,bs⟩ (zAU ⟨cs,mu,bs⟩) ch).1:=⟨_,rfl⟩
   obtain ⟨m,hm⟩:∃ z,z=(plN ⟨cs,mu,bs⟩ (zAU ⟨cs,mu,bs⟩) ch).2:=⟨_,rfl⟩
   rw [<- hD] at t1 t2 t3 hdl;rw [<- hm] at t2 t3 hth how;have hstl:=zJK m m.zL.length (yV _);refine zLq ca ch.length cc D.length (zAW D).length m.zL.length m.owners.length (unS bs) (tell true (unS bs)) (D.flatMap stC) ((zAW D).flatMap evC) (zDX 0 (zAW D) (T0,O0)).1 (zDX 0 (zAW D) (T0,O0)).2 (zEe m m.zL.length) m.owners hl (by omega) (by omega) ⟨by omega,by omega⟩ (by rw [hth];simp) (by rw [how,Int.toNat_of_nonneg q2];simp) ⟨hstl.symm,rfl⟩ ⟨fun j hj=>?_,fun j hj=>t2.ow j hj⟩ HWI (yA fun W hk=>?_) (yA fun W v hv=>?_) (yA fun W v hv=>zKe W v (zAW D) hv (by omega) t1) (yA fun W hk=>?_) (yA fun W=>zHz W (by omega))
   ·rw [t2.st j hj]
    simp [zEe,ze.get,List.getD,hj,List.getElem?_take]
   ·refine (HPL W hk).mono fun e w' q=>?_
    obtain ⟨oa,oc,a1,q1,a2,q2,a3,q3,a4,q4,he,hf,ho⟩:=q;rw [<- hD,<- hm] at he;rw [<- hD] at hf;rw [<- hm] at ho;have hs:=ho.src;have h3:=hs.sts;rw [hstl] at h3;exact ⟨oa,oc,a1,_,q1,a2,q2,a3,q3,a4,_,q4,he,hf.src,h3,hs.owners,ho.keeps⟩
   ·refine (zKs W v D hv hdl).mono fun e w' q=>?_
    obtain ⟨oa,oc,he,hf,hk⟩:=q;exact ⟨oa,oc,_,he,hf.src,hk⟩
   ·have g:=zGv cs mu bs W F uca uta ucc utc (h.zG hk).nums (h.zG hk).bds (h.zG hk).low h.sz h.l1 h.l2
    rwa [hR] at g
  ·exact zKG ca _ cc (by omega) HWI
 ·exact zNF h ca _ cc hr
end
end Go.Proofs.YtfokdllgnblamaaGreatDoor
