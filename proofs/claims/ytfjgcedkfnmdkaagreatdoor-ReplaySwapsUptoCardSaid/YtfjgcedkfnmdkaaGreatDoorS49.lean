/- Layer S: texts joined. -/
import Derived.Test.YtfjgcedkfnmdkaaGreatDoorS48
set_option linter.all false
set_option maxHeartbeats 4000000
set_option maxRecDepth 8000
namespace Go.Proofs.YtfjgcedkfnmdkaaGreatDoor
open Go.RowKit
abbrev kU:=@not_true_eq_false
abbrev vL:=@List.set_comm
theorem J95 (P:Prop) (h:P:=by
 have:=H.acc (by omega) (by omega) (by rw [xo,yo,e])
 omega):P:=h
theorem zo.rows {α:Type} {C:α -> List Value} {sz:Nat} (hC:∀ x,(C x).length=sz) {w:World} {v:Value} {L:List α} (h:zo w v L.length (L.flatMap C)):∃ ad cap,v=.slice ad L.length cap /\ ∀ k x,L[k]?=some x -> ∃ g o,ad=some ⟨g,o,none⟩ /\ ∀ j u,(C x)[j]?=some u -> w.cell? ⟨g,o+k*sz+j,none⟩=some u:=by
 obtain ⟨ad,cap,e,h1⟩:=h;refine ⟨ad,cap,e,fun k x hk=>?_⟩
 obtain ⟨g,o,e1,h2⟩:=h1 (by have:=(yI.1 hk).1;omega);refine ⟨g,o,e1,fun j u hj=>?_⟩
 have hl:j < sz:=by rw [<- hC x];exact (yI.1 hj).1
 have:=h2 (k*sz+j) u (by rw [zAS C sz hC L k j hl,hk];exact hj)
 rwa [<- uE] at this
theorem zIk (w:World) (v1 v2:Value) (L:List Evt) (h1:zo w v1 L.length (L.flatMap evC)) (h2:zo w v2 L.length (L.flatMap evC)) (hm:L.length <= 1000) :
 Calls Tryz.prog 24 #[v1,v2] w fun e w'=>e=.returned (.bool true) /\ Keeps zA w w':=by
 obtain ⟨a1,c1,rfl,k1⟩:=h1.rows zBN;obtain ⟨a2,c2,rfl,k2⟩:=h2.rows zBN;have H1:=yA k1;have H2:=yA k2;obtain ⟨n,hn⟩:∃ n,n=L.length:=⟨_,rfl⟩
 have HN:=yA hn;rw [<- hn] at hm ⊢;clear h1 h2 k1 k2 hn;go_enter Tryz.func24,Tryz.ntmps24
 go_wp2_with fail
 go_loopw [5] (fun i wr=>∃ k:Nat,k <= n /\ i=.int .i64 k /\ Hid (Keeps zA w wr)) (fun i _=>n - (intOf i).toNat)
 case atStart=>exact ⟨0,yG _,rfl,yB _ _⟩
 case round =>
  obtain ⟨k,hk,rfl,hkp⟩:=hrel;by_cases hlt:k < n
  ·obtain ⟨x,hx⟩:∃ x,L[k]?=some x:=⟨_,yM (by rw [<- HN.out];exact hlt)⟩
   obtain ⟨g1,o1,rfl,dd⟩:=H1.out k x hx;obtain ⟨g2,o2,rfl,ff⟩:=H2.out k x hx;have d:=fun j u h=>hkp.out.cell (p:=⟨g1,o1+k*5+j,none⟩) (fun h=>h) (dd j u h)
   have f:=fun j u h=>hkp.out.cell (p:=⟨g2,o2+k*5+j,none⟩) (fun h=>h) (ff j u h)
   have d0:wr.cell? ⟨g1,o1+k*5,none⟩=some (.int .i64 x.thread):=d 0 _ rfl;have d1:wr.cell? ⟨g1,o1+k*5+1,none⟩=some (.int .i64 x.kind):=d 1 _ rfl;have d2:wr.cell? ⟨g1,o1+k*5+2,none⟩=some (.int .i64 x.obj):=d 2 _ rfl;have d3:wr.cell? ⟨g1,o1+k*5+3,none⟩=some (.int .i64 x.value):=d 3 _ rfl;have d4:wr.cell? ⟨g1,o1+k*5+4,none⟩=some (.int .i64 x.bad):=d 4 _ rfl;have f0:wr.cell? ⟨g2,o2+k*5,none⟩=some (.int .i64 x.thread):=f 0 _ rfl;have f1:wr.cell? ⟨g2,o2+k*5+1,none⟩=some (.int .i64 x.kind):=f 1 _ rfl;have f2:wr.cell? ⟨g2,o2+k*5+2,none⟩=some (.int .i64 x.obj):=f 2 _ rfl;have f3:wr.cell? ⟨g2,o2+k*5+3,none⟩=some (.int .i64 x.value):=f 3 _ rfl;have f4:wr.cell? ⟨g2,o2+k*5+4,none⟩=some (.int .i64 x.bad):=f 4 _ rfl;have i1:(0:Int) <= k:=by omega
   have i2:(k:Int) < n:=by omega
   clear d f dd ff hx hk;exact J87 _
  ·have hkn:k=n:=by omega
   subst hkn;clear hlt;go_wp2_with fail
   go_ret
   exact ⟨rfl,hkp.out⟩
def zBm (L:List zCL):List Evt:=(L.filter fun x=>decide (x.c=0)).map fun x=>x.e
def zFL (L:List zCL):Bool:=L.all fun x=>decide (x.c=0)
theorem zKr (L:List zCL) (x:zCL):zBm (L++[x])=zBm L++(if x.c=0 then [x.e] else []) /\ zFL (L++[x])=(zFL L&&decide (x.c=0)):=by
 unfold zBm zFL;by_cases h:x.c=0 <;> simp [h]
theorem zLw (w:World) (v:Value) (L:List zCL) (h:zo w v L.length (L.flatMap stC)) (hm:L.length <= 1000) :
 Calls Tryz.prog 31 #[v] w fun e w'=>∃ oa oc,e=.returned (.tuple #[.slice oa (zBm L).length oc, .bool (zFL L)]) /\ zAG w' w.heap.size (.slice oa (zBm L).length oc) (zBm L).length ((zBm L).flatMap evC) /\ Keeps zA w w':=by
 obtain ⟨a1,c1,rfl,k1⟩:=h.rows zCQ;have H1:=yA k1;obtain ⟨n,hn⟩:∃ n,n=L.length:=⟨_,rfl⟩
 have HN:=yA hn;rw [<- hn] at hm ⊢;obtain ⟨j0,hj0,hy0,hy1,hy2⟩:=info_parts zIz;obtain ⟨E,hE⟩:∃ z,z=zBm L:=⟨_,rfl⟩
 obtain ⟨A,hA⟩:∃ z,z=zFL L:=⟨_,rfl⟩
 have HEA:Hid (E=zBm L /\ A=zFL L):=⟨hE,hA⟩;rw [<- hE,<- hA];clear h k1 hn hE hA;go_enter Tryz.func31,Tryz.ntmps31
 go_wp2_with fail
 go_loopw [4,5,6] (fun ov bv iv wr=>∃ (k lo oc:Nat) (oa:Option Addr) (b:Bool),k <= n /\ lo <= k /\ ov=.slice oa lo oc /\ bv=.bool b /\ iv=.int .i64 k /\ Hid (b=zFL (L.take k) /\ lo=(zBm (L.take k)).length /\ wr.ownsRow 0 40 5 (.slice oa lo oc) lo ((zBm (L.take k)).flatMap evC) /\ (∀ g,(Value.slice oa lo oc).ownBlock=some g -> w.heap.size <= g) /\ Keeps zA w wr)) (fun _ _ i _=>n - (intOf i).toNat)
 case atStart=>exact ⟨0,0,0,none,true,yG _,yV _,rfl,rfl,rfl,rfl,rfl,xB _ _ _ _,fun g e=>by exact J154 _,yB _ _⟩
 case round =>
  obtain ⟨k,lo,oc,oa,b,hk,hlo,rfl,rfl,rfl,HI⟩:=hrel;by_cases hlt:k < n
  ·obtain ⟨x,hx⟩:∃ x,L[k]?=some x:=⟨_,yM (by rw [<- HN.out];exact hlt)⟩
   obtain ⟨hb,hl,how,hnew,hkk⟩:=HI.out;have HOW:=yA how;have HNEW:=yA hnew;have HKK:=yA hkk;have HTK:=yA (zKr (L.take k) x);have htk:L.take (k+1)=L.take k++[x]:=by rw [kQ,hx];rfl
   rw [<- htk] at HTK;have HBL:Hid (b=zFL (L.take k) /\ lo=(zBm (L.take k)).length):=⟨hb,hl⟩;obtain ⟨g1,o1,rfl,dd⟩:=H1.out k x hx;have d:=fun j u h=>hkk.cell (p:=⟨g1,o1+k*7+j,none⟩) (fun h=>h) (dd j u h)
   obtain ⟨xt,xc,xe0,xe1,xe2,xe3,xe4⟩:=x;have d1:wr.cell? ⟨g1,o1+k*7+1,none⟩=some (.int .i64 xc):=d 1 _ rfl;have d2:wr.cell? ⟨g1,o1+k*7+2,none⟩=some (.int .i64 xe0):=d 2 _ rfl;have d3:wr.cell? ⟨g1,o1+k*7+2+1,none⟩=some (.int .i64 xe1):=d 3 _ rfl;have d4:wr.cell? ⟨g1,o1+k*7+2+2,none⟩=some (.int .i64 xe2):=d 4 _ rfl;have d5:wr.cell? ⟨g1,o1+k*7+2+3,none⟩=some (.int .i64 xe3):=d 5 _ rfl;have d6:wr.cell? ⟨g1,o1+k*7+2+4,none⟩=some (.int .i64 xe4):=d 6 _ rfl;have i1:(0:Int) <= k:=by omega
   have i2:(k:Int) < n:=by omega
   clear d dd hx hk hb hl how hnew hkk htk HI;by_cases hc:xc=0
   ·have HT:Hid ((zBm (L.take (k+1))).flatMap evC=(zBm (L.take k)).flatMap evC++evC ⟨xe0,xe1,xe2,xe3,xe4⟩ /\ b=zFL (L.take (k+1)) /\ lo+1=(zBm (L.take (k+1))).length):=by
     obtain ⟨h1,h2⟩:=HTK.out;rw [if_pos hc] at h1;exact ⟨by rw [h1];simp,by rw [h2,HBL.out.1];simp [hc],by rw [h1,xI,<- HBL.out.2];rfl⟩
    have hcb:(xc==0)=true:=by rw [hc];rfl
    clear hc HTK;go_wp2_with (at_builtin;refine zH _ (by rfl) _ _ 47 (by rfl) 0 40 j0 _ 5 40 Tryz.underlying47 hj0 hy0 hy1 hy2 rfl (by decide) (.slice oa lo oc) lo ((zBm (L.take k)).flatMap evC) (by rfl) (zG HOW.out ((yB zA _).alloc _) (fun _ _ h=>h)) (.slice (some ⟨wr.heap.size,0,none⟩) 1 1) 1 (evC ⟨xe0,xe1,xe2,xe3,xe4⟩) (by rfl) (xQ (yN (yF _ _))) rfl (by simp [evC,Value.oneCell']) (by unfold maxLen;omega) (by omega) (yG _) ?_;intro ad9 cap9 w8 hout;have HO:=yA hout;clear hout)
    refine ⟨⟨k+1,lo+1,cap9,ad9,b,by omega,by omega,by go_num,rfl,by go_num,HT.out.2.1,HT.out.2.2,by rw [HT.out.1];exact HO.out.1,fun q e=>?_,HO.out.keeps (HKK.out.alloc _) (fun q e hq=>absurd hq (by have:=HNEW.out q e;omega))⟩,by simp [intOf];omega⟩
    rcases HO.out.2.2 q e with h | h
    ·exact HNEW.out q h
    ·have:=HKK.out.size
     simp at h
     omega
   ·have HT:Hid (zBm (L.take (k+1))=zBm (L.take k) /\ false=zFL (L.take (k+1))):=by
     obtain ⟨h1,h2⟩:=HTK.out;rw [if_neg hc] at h1;exact ⟨by rw [h1];simp,by rw [h2];simp [hc]⟩
    have hcb:(xc==0)=false:=xE hc;clear hc HTK d2 d3 d4 d5 d6;go_wp2_with fail
    exact ⟨⟨k+1,lo,oc,oa,false,by omega,by omega,rfl,rfl,by go_num,HT.out.2,by rw [HT.out.1];exact HBL.out.2,by rw [HT.out.1];exact HOW.out,HNEW.out,HKK.out⟩,by simp [intOf];omega⟩
  ·have hkn:k=n:=by omega
   subst hkn;clear hlt;have htk:L.take k=L:=by rw [HN.out];exact xL
   obtain ⟨hb,hl,how,hnew,hkk⟩:=HI.out;rw [htk] at hb hl how;rw [<- HEA.out.1] at hl how;rw [<- HEA.out.2] at hb;have HF:Hid (lo=E.length /\ b=A /\ zAG wr w.heap.size (.slice oa lo oc) lo (E.flatMap evC)):=⟨hl,hb,zAG.of how hnew⟩;have HKK:=yA hkk;clear hb hl how hnew hkk HI;go_wp2_with fail
   refine xR (v:=.tuple #[.slice oa lo oc, .bool b]) (by simp [results,Tryz.results31,go_sem]) rfl ?_
   refine ⟨oa,oc,by rw [<- HF.out.1,<- HF.out.2.1],?_,HKK.out⟩
   rw [<- HF.out.1];exact HF.out.2.2
theorem zNe (w:World) (F:Nat -> Prop):zAT w F [] none:=⟨fun _=>[],fun i hi=>absurd hi (vY _),fun i y e=>by simp at e⟩
theorem zOt:newR ⟨[],0,[⟨0,[]⟩]⟩=0:=by decide
theorem zLW:whole ⟨[],0,[⟨0,[]⟩]⟩ []=([⟨0,9,0,0,0⟩],⟨[],[],[⟨3,[],[]⟩]⟩):=by rfl
theorem zO1 {w:World} {F:Nat -> Prop} {th:Nat} (ht:zC w th [.int .i64 0, .slice none 0 0]) (f:F th) (hF:∀ k,F k -> k < w.heap.size):zCu w F [] [⟨0,[]⟩] none (some ⟨th,0,none⟩):=by
 refine ⟨fun i hi=>absurd hi (vY _),fun i hi=>?_,hF,fun b hb=>?_,by simp [zAl,Ac.szL],by decide,by simp⟩
 ·have hi0:i=0:=by simpa using hi
  subst hi0;exact ⟨th,0,none,0,rfl,f,ht.cell (k:=0) rfl,ht.cell (k:=1) rfl,zNe _ _⟩
 ·obtain rfl:b=⟨0,[]⟩:=by simpa using hb
  simp [Ac.zBh]
theorem zDY (w:World):Calls Tryz.prog 21 #[] w fun e w'=>e=.returned (.bool true) /\ Keeps zA w w':=by
 obtain ⟨th,w1,x1,z1,R1,K1,_⟩:=newRow w [.int .i64 0, .slice none 0 0] 77;have hU:zCu w1 (fun k=>k < w1.heap.size) [] [⟨0,[]⟩] none (some ⟨th,0,none⟩):=zO1 R1 (R1.lt (by simp)) (fun _ h=>h)
 have HW:Hid (Calls Tryz.prog 22 #[.agg #[.slice none 0 0, .int .i64 0, .slice (some ⟨th,0,none⟩) 1 1], .slice none 0 0] w1 fun e w'=>∃ oa oc a1 q1 a2 q2 a3 q3 a4 q4,e=.returned (.tuple #[.slice oa 1 oc, .agg #[.slice a1 0 q1, .slice a2 0 q2, .slice a3 1 q3, .slice a4 1 q4], .int .i64 0]) /\ zAG w' w1.heap.size (.slice oa 1 oc) 1 [.int .i64 0, .int .i64 9, .int .i64 0, .int .i64 0, .int .i64 0] /\ Keeps zA w1 w'):=by
  have h:=zHe (mu:=0) (ucc:=0) (utc:=1) hU none 0 [] ⟨none,0,rfl,fun h=>absurd rfl h⟩ zOt;rw [zLW] at h;refine h.mono fun e w' h=>?_
  obtain ⟨oa,oc,a1,q1,a2,q2,a3,q3,a4,q4,he,hf,ho⟩:=h;exact ⟨oa,oc,a1,q1,a2,q2,a3,q3,a4,q4,he,hf,ho.keeps⟩
 have HK1:=yA K1;clear hU R1 K1;go_enter Tryz.func21,Tryz.ntmps21
 go_upto_region 2 with (go_at_call 22;refine HW.out.mono ?_;rintro e w2 ⟨oa,oc,a1,q1,a2,q2,a3,q3,a4,q4,rfl,hf,ho⟩;have HF:=yA hf;have HO:=yA ho;clear hf ho x1 z1)
 obtain ⟨b3,w4,x3,z3,R5,K5,_⟩:=newRow w2 [.slice a1 0 q1, .slice a2 0 q2, .slice a3 1 q3, .slice a4 1 q4] 50;rw [x3,z3];obtain ⟨ad,cap,e,_,_,hc⟩:=HF.out.keeps K5 (fun _ _ h=>h);simp only [xY,true_and] at e;obtain ⟨rfl,rfl⟩:=e;obtain ⟨g,rfl,_,hr⟩:=hc (by decide);have y5:=hr.five;have k4:=zJ w4;have HK3:Hid (Keeps zA w w4):=(HK1.out.zB HO.out).zB K5;clear hr hc K5 R5 HF x3 z3;go_wp2_with fail
 go_ret
 exact ⟨rfl,HK3.out⟩
section
variable {cs:List Int} {mu:Int} {bs:List Bd} {w:World} {F:Nat -> Prop} {uca uta:Option Addr} {ucc utc:Nat}
theorem zCu.zJl (h:zCu w F cs bs uca uta):Calls Tryz.prog 29 #[.agg #[.slice uca cs.length ucc, .int .i64 mu, .slice uta bs.length utc]] w fun e w'=>e=.returned (.int .i64 (newR ⟨cs,mu,bs⟩)) /\ Keeps zA w w' :=
 zGH cs mu bs w F uca uta ucc utc h.nums h.bds h.low h.sz h.l1 h.l2
end
def zNC {α:Type} (C:α -> List Value) (L:List α) (m:zW) (r:Int) (w:World) (e:Ending) (w':World):Prop :=
 ∃ oa oc a1 n1 q1 a2 n2 q2 a3 n3 q3 a4 n4 q4,e=.returned (.tuple #[.slice oa L.length oc, .agg #[.slice a1 n1 q1, .slice a2 n2 q2, .slice a3 n3 q3, .slice a4 n4 q4], .int .i64 r]) /\ zo w' (.slice oa L.length oc) L.length (L.flatMap C) ∧
   zBf w' (.slice a1 n1 q1) (.slice a2 n2 q2) (.slice a3 n3 q3) (.slice a4 n4 q4) m.cells m.owners (zDI m m.zL.length) (zDJ m m.zL.length) /\ Keeps zA w w'
def noM:zW:=⟨[],[],[]⟩
theorem zF0 (w:World):zo w (.slice none 0 0) 0 []:=⟨none,0,rfl,fun h=>absurd rfl h⟩
theorem zNC.no {α:Type} {C:α -> List Value} {r:Int} {w w':World} {e:Ending} (h:e=.returned (.tuple #[.slice none 0 0,zOT, .int .i64 r]) /\ Keeps zA w w'):zNC C [] noM r w e w' :=
 ⟨none,0,none,0,0,none,0,0,none,0,0,none,0,0,h.1,zF0 _,⟨zF0 _,zF0 _,zF0 _,zF0 _⟩,h.2⟩
theorem zNC.ok {α:Type} {C:α -> List Value} {L:List α} {m:zW} {w w':World} {e:Ending} (h:∃ oa oc a1 q1 a2 q2 a3 q3 a4 q4,e=.returned (.tuple #[.slice oa L.length oc, .agg #[.slice a1 m.cells.length q1, .slice a2 m.owners.length q2, .slice a3 m.zL.length q3, .slice a4 m.zL.length q4], .int .i64 0]) ∧
 zAG w' w.heap.size (.slice oa L.length oc) L.length (L.flatMap C) /\ zDS w m (.slice a1 m.cells.length q1) (.slice a2 m.owners.length q2) (.slice a3 m.zL.length q3) (.slice a4 m.zL.length q4) w'):zNC C L m 0 w e w':=by
 obtain ⟨oa,oc,a1,q1,a2,q2,a3,q3,a4,q4,he,hf,ho⟩:=h;exact ⟨oa,oc,a1,_,q1,a2,_,q2,a3,_,q3,a4,_,q4,he,hf.src,ho.src,ho.keeps⟩
def zMT (m:zW):Prop:=m.cells.length <= 1000 /\ m.owners.length <= 1000 /\ m.zL.length <= 1000
theorem zW.ok.small {u:Un} (hr:zV u=true) {m:zW} (h:m.ok u):zMT m:=by
 have h1:=zBK hr;have h2:=h.cells;have h3:=h.owners;have h4:=h.zL;refine ⟨?_,?_,?_⟩ <;> omega
section
variable {cs:List Int} {mu:Int} {bs:List Bd} {w:World} {F:Nat -> Prop} {uca uta:Option Addr} {ucc utc:Nat}
end
end Go.Proofs.YtfjgcedkfnmdkaaGreatDoor
namespace Go.Proofs.YtfjgcedkfnmdkaaGreatDoor
structure zKt where
 t:WTh
 cw:Option Int
 ow:Option Int
 bg:Bool
 v:Int
 bad:Int
def zK7 (i:Nat) (t:WTh) (a:Ac) (c o s:Int):zKt :=
 if a.kind=2 then ⟨({ t with regs:=t.regs.set a.reg.toNat c }:WTh).on.local,none,none,false,c,0⟩
 else if a.kind=3 then ⟨t.on.local,some (a.ex.val t.regs),none,false,a.ex.val t.regs,0⟩
 else if a.kind=4 then ⟨({ t with regs:=t.regs.set a.reg.toNat c }:WTh).on.local,some (w64 (c+a.ex.val t.regs)),none,false,c,0⟩
 else if a.kind=5 then ⟨t.on.local,none,some i,false,0,0⟩
 else if a.kind=6 then (if o=i then ⟨t.on.local,none,some (-1),false,0,0⟩ else ⟨{ t with st:=4 },none,none,false,0,2⟩)
 else if a.kind=7 then (if s=1 then ⟨t.on.local,none,none,true,0,0⟩ else ⟨{ t with st:=4 },none,none,false,0,4⟩)
 else if a.kind=8 then (if s=1 then ⟨{ t with st:=4 },none,none,false,0,3⟩ else ⟨t.on.local,none,none,false,0,0⟩)
 else if a.ex.val t.regs=0 then ⟨{ t with st:=4 },none,none,false,a.ex.val t.regs,1⟩ else ⟨t.on.local,none,none,false,a.ex.val t.regs,0⟩
def outT (i:Nat) (t:WTh) (c o s:Int):zKt:=match t.next with
 | none=>⟨{ t with st:=3 },none,none,false,0,0⟩
 | some a=>zK7 i t a c o s
def zFN (l:List Int) (k:Nat) (v:Option Int):List Int:=match v with
 | some v=>l.set k v
 | none=>l
def zGy (u:Un) (m:zW) (i k:Nat) (r:zKt):zW:=⟨zFN m.cells k r.cw,zFN m.owners k r.ow,(if r.bg then m.zL.set k (zDk (u.body k)) else m.zL).set i r.t⟩
def obM (m:zW) (i:Nat):Nat:=(ze m i).2.toNat
def zBB (m:zW) (i:Nat):zKt:=outT i (m.get i) (m.cells.getD (obM m i) 0) (m.owners.getD (obM m i) 0) (m.get (obM m i)).st
theorem zHw (t:WTh):t.on.local.st=t.st:=by unfold WTh.local WTh.on;split <;> rfl
theorem zDj {u:Un} {m:zW} {i:Nat} (hi:i < m.zL.length) (h2:(m.get i).st=2):zi u m i=(zGy u m i (obM m i) (zBB m i),⟨i,(ze m i).1,(ze m i).2,(zBB m i).v,(zBB m i).bad⟩):=by
 unfold zi zBB outT;cases hn:(m.get i).next with
 | none=>rfl
 | some a =>
   have ea:ze m i=(a.kind - 1,a.obj):=by unfold ze;rw [h2,hn];rfl
   unfold obM;rw [ea];simp only
   unfold zK7 doM;by_cases e2:a.kind=2
   ·simp only [if_pos e2,zGy,zFN,ne_eq,kU,uR,xC]
    rw [vK _ _ _ hi];simp only [zW.zAj,kE]
   by_cases e3:a.kind=3
   ·simp only [if_neg e2,if_pos e3,zGy,zFN,zW.zAj,ne_eq,kU,uR,xC];rfl
   by_cases e4:a.kind=4
   ·simp only [if_neg e2,if_neg e3,if_pos e4,zGy,zFN,ne_eq,kU,uR,xC]
    rw [vK _ _ _ (show i < ({ m with cells:=m.cells.set a.obj.toNat (w64 (m.cells.getD a.obj.toNat 0+a.ex.val (m.get i).regs)) }:zW).zL.length from hi)];simp only [zW.zAj,kE]
   by_cases e5:a.kind=5
   ·simp only [if_neg e2,if_neg e3,if_neg e4,if_pos e5,zGy,zFN,zW.zAj,ne_eq,kU,uR,xC];rfl
   by_cases e6:a.kind=6
   ·simp only [if_neg e2,if_neg e3,if_neg e4,if_neg e5,if_pos e6]
    by_cases ho:m.owners.getD a.obj.toNat 0=i
    ·simp only [if_pos ho,zGy,zFN,zW.zAj,ne_eq,kU,uR,xC];rfl
    ·simp only [if_neg ho];rfl
   by_cases e7:a.kind=7
   ·simp only [if_neg e2,if_neg e3,if_neg e4,if_neg e5,if_neg e6,if_pos e7]
    by_cases hs:(m.get a.obj.toNat).st=1
    ·have hne:a.obj.toNat ≠ i:=fun e=>by rw [e,h2] at hs;cases hs
     simp only [if_pos hs,ne_eq,kU,uR,zFF];rw [vF _ _ hne];rfl
    ·simp only [if_neg hs];rfl
   by_cases e8:a.kind=8
   ·simp only [if_neg e2,if_neg e3,if_neg e4,if_neg e5,if_neg e6,if_neg e7,if_pos e8]
    by_cases hs:(m.get a.obj.toNat).st=1
    ·simp only [if_pos hs];rfl
    ·simp only [if_neg hs];rfl
   ·simp only [if_neg e2,if_neg e3,if_neg e4,if_neg e5,if_neg e6,if_neg e7,if_neg e8]
    by_cases hv:a.ex.val (m.get i).regs=0
    ·simp only [if_pos hv];rfl
    ·simp only [if_neg hv];rfl
theorem zEQ {l:List Int} {k j:Nat} {v:Option Int} (h:v=none \/ k ≠ j):(zFN l k v).getD j 0=l.getD j 0:=by
 cases v with
 | none=>rfl
 | some v=>exact zDX v (h.resolve_left (by simp))
theorem zGf {u:Un} {m:zW} {i k:Nat} {r:zKt} (hi:i < m.zL.length):(zGy u m i k r).get i=r.t:=by
 refine vK (⟨[],[],if r.bg then m.zL.set k (zDk (u.body k)) else m.zL⟩:zW) i r.t ?_
 show i < List.length (if r.bg=true then _ else _)
 split
 ·rw [uG];exact hi
 ·exact hi
theorem zFP {u:Un} {m:zW} {i j k:Nat} {r:zKt} (h:i ≠ j) (hb:r.bg=true -> k ≠ j):(zGy u m i k r).get j=m.get j:=by
 refine (vF (⟨[],[],if r.bg then m.zL.set k (zDk (u.body k)) else m.zL⟩:zW) r.t h).trans ?_
 cases hr:r.bg with
 | false=>rfl
 | true=>exact vF m _ (hb hr)
structure zOh (m:zW) (i:Nat):Prop where
 cw:(zBB m i).cw ≠ none -> (ze m i).1=2 \/ (ze m i).1=3
 ow:(zBB m i).ow ≠ none -> (ze m i).1=4 \/ (ze m i).1=5
 bg:(zBB m i).bg=true -> (ze m i).1=6 /\ (m.get (obM m i)).st=1
 st:(zBB m i).t.st=2 \/ (zBB m i).t.st=4 \/ ((zBB m i).t.st=3 /\ (ze m i).1=9)
theorem zJD {m:zW} {i:Nat} (h2:(m.get i).st=2):zOh m i:=by
 cases hn:(m.get i).next with
 | none =>
   have ea:(ze m i).1=9:=by unfold ze;rw [h2,hn];rfl
   have e:zBB m i=⟨{ m.get i with st:=3 },none,none,false,0,0⟩:=by unfold zBB outT;rw [hn]
   refine ⟨fun h=>?_,fun h=>?_,fun h=>?_, .inr (.inr ⟨by rw [e],ea⟩)⟩ <;> (rw [e] at h;simp at h)
 | some a =>
   have ea:(ze m i).1=a.kind - 1:=by unfold ze;rw [h2,hn];rfl
   have e:zBB m i=zK7 i (m.get i) a (m.cells.getD (obM m i) 0) (m.owners.getD (obM m i) 0) (m.get (obM m i)).st:=by unfold zBB outT;rw [hn]
   generalize m.cells.getD (obM m i) 0=c at e;generalize m.owners.getD (obM m i) 0=o at e;have hs:∀ t:WTh,t.st=2 -> t.on.local.st=2:=fun t h=>by rw [zHw];exact h
   rw [show zOh m i ↔ ((zBB m i).cw ≠ none -> (ze m i).1=2 \/ (ze m i).1=3) /\ ((zBB m i).ow ≠ none -> (ze m i).1=4 \/ (ze m i).1=5) /\ ((zBB m i).bg=true -> (ze m i).1=6 /\ (m.get (obM m i)).st=1) /\ ((zBB m i).t.st=2 \/ (zBB m i).t.st=4 \/ ((zBB m i).t.st=3 /\ (ze m i).1=9)) from ⟨fun ⟨a,b,c,d⟩=>⟨a,b,c,d⟩,fun ⟨a,b,c,d⟩=>⟨a,b,c,d⟩⟩];rw [e,ea];generalize (m.get (obM m i)).st=s;unfold zK7;repeat' split
   all_goals simp [hs,h2]
   all_goals first | omega | (refine ⟨by omega,?_⟩;exact .inl (hs _ h2)) | exact .inl (hs _ h2) | skip
theorem zFp {m m':zW} {i:Nat} (h2:(m.get i).st=2) (ht:m'.get i=m.get i) (hc:(ze m i).1=1 \/ (ze m i).1=3 -> m'.cells.getD (obM m i) 0=m.cells.getD (obM m i) 0) (ho:(ze m i).1=5 -> m'.owners.getD (obM m i) 0=m.owners.getD (obM m i) 0) (hs:(ze m i).1=6 \/ (ze m i).1=7 -> ((m'.get (obM m i)).st=1 ↔ (m.get (obM m i)).st=1)):zBB m' i=zBB m i /\ ze m' i=ze m i /\ obM m' i=obM m i:=by
 have ha:=zFO ht;have hb:obM m' i=obM m i:=by unfold obM;rw [ha]
 refine ⟨?_,ha,hb⟩
 unfold zBB;rw [hb,ht];unfold outT;cases hn:(m.get i).next with
 | none=>rfl
 | some a =>
   have ea:(ze m i).1=a.kind - 1:=by unfold ze;rw [h2,hn];rfl
   rw [ea] at hc ho hs;simp only
   unfold zK7;by_cases e2:a.kind=2
   ·rw [if_pos e2,if_pos e2,hc (by omega)]
   by_cases e4:a.kind=4
   ·simp only [if_neg e2,if_pos e4,hc (by omega)]
   by_cases e6:a.kind=6
   ·simp only [if_neg e2,if_neg e4,if_pos e6,ho (by omega)]
   by_cases e78:a.kind=7 \/ a.kind=8
   ·have:=hs (by omega)
    by_cases q:(m.get (obM m i)).st=1
    ·simp only [if_neg e2,if_neg e4,if_neg e6,q,this.2 q]
    ·simp only [if_neg e2,if_neg e4,if_neg e6,if_neg q,if_neg (fun e=>q (this.1 e))]
   ·simp only [if_neg e2,if_neg e4,if_neg e6,if_neg (fun e=>e78 (.inl e)),if_neg (fun e=>e78 (.inr e))]
structure zGQ (x y:Evt):Prop where
 thr:x.thread ≠ y.thread
 acc:1 <= x.kind /\ x.kind <= 3 -> 1 <= y.kind /\ y.kind <= 3 -> x.obj=y.obj -> x.kind=1 /\ y.kind=1
 mtx:x.kind=4 \/ x.kind=5 -> y.kind=4 \/ y.kind=5 -> x.obj ≠ y.obj
 beg:x.kind=6 -> y.kind=6 \/ y.kind=7 -> x.obj ≠ y.obj
 wai:x.kind=7 -> y.kind=6 -> x.obj ≠ y.obj
 fin:x.kind=9 -> y.kind=7 -> x.thread ≠ y.obj
 sta:x.kind=6 -> x.obj ≠ y.thread
theorem zJU {m:zW} {i:Nat} (hi:i < m.zL.length) (h2:(m.get i).st=2) (ha:zAX m i=true):zBQ m i=0:=by
 unfold zBQ;rw [if_neg (by omega)];simp [h2,ha]
theorem zJN {u:Un} {m:zW} (h:m.ok u) {i:Nat} (hi:i < m.zL.length) (h2:(m.get i).st=2):(obM m i:Int)=(ze m i).2:=by
 obtain ⟨b,hb,hok,hbe⟩:=h.th hi;unfold obM;rcases zB3 (hok.2.2 h2) (hok.2.1 (by rw [h2];decide)).2 with ⟨h3,_⟩ | ⟨a,f,r,h3,h4,h5,h6,h7⟩
 ·have:ze m i=(9,(i:Int)):=J182 _
  rw [this];simp
 ·have e:ze m i=(a.kind - 1,a.obj):=J182 _
  rw [e]
  have:0 <= a.obj:=by
   by_cases h9:a.kind=9
   ·rw [Ac.zMM h6 h9];omega
   ·exact (Ac.zEX h6 (by omega)).1
  simp only;omega
theorem zON {u:Un} (hr:zV u=true) {m:zW} (h:m.ok u) {i j:Nat} {x y:Evt} (hi:i < m.zL.length) (i2:(m.get i).st=2) (ia:zAX m i=true) (hx:(zi u m i).2=x) (jl:j < m.zL.length) (j2:((zi u m i).1.get j).st=2) (ja:zAX (zi u m i).1 j=true) (hy:(zi u (zi u m i).1 j).2=y) (H:zGQ x y) (H':zGQ y x) :
 (m.get j).st=2 /\ zAX m j=true /\ (zi u m j).2=y /\ ((zi u m j).1.get i).st=2 /\ zAX (zi u m j).1 i=true /\ (zi u (zi u m j).1 i).2=x /\ (zi u (zi u m j).1 i).1=(zi u (zi u m i).1 j).1:=by
 have hok1:=(zBq hr h hi i2).1;have hl1:=(zBq hr h hi i2).2;have oi:=zJN h hi i2;have oj:=zJN hok1 (by rw [hl1];exact jl) j2;have si:=zJD i2;have e1:=zDj (u:=u) hi i2;have e2:=zDj (u:=u) (by rw [hl1];exact jl) j2;generalize hm1:(zi u m i).1=m1 at *;rw [e1] at hx hm1;rw [e2] at hy;simp only at hx hm1 hy;have xt:x.thread=i:=by rw [<- hx]
 have xk:x.kind=(ze m i).1:=by rw [<- hx]
 have xo:x.obj=obM m i:=by rw [<- hx];exact oi.symm
 have yt:y.thread=j:=by rw [<- hy]
 have yk:y.kind=(ze m1 j).1:=by rw [<- hy]
 have yo:y.obj=obM m1 j:=by rw [<- hy];exact oj.symm
 have hij:i ≠ j:=fun e=>H.thr (by rw [xt,yt,e])
 have gj:m1.get j=m.get j:=by
  rw [<- hm1];exact zFP hij fun hb e=>H.sta (by rw [xk];exact (si.bg hb).1) (by rw [xo,yt,e])
 have j2m:(m.get j).st=2:=by rw [<- gj];exact j2
 have ea:ze m1 j=ze m j:=zFO gj;have eo:obM m1 j=obM m j:=by unfold obM;rw [ea]
 rw [ea] at yk;rw [eo] at yo;have sj:=zJD j2m
 -- what the second step looks at is as it was
 have cj:(ze m j).1=1 \/ (ze m j).1=3 -> m1.cells.getD (obM m j) 0=m.cells.getD (obM m j) 0:=fun hk=>by
  rw [<- hm1];refine zEQ ?_
  by_cases hn:(zBB m i).cw=none
  ·exact .inl hn
  ·exact .inr fun e=>by
    have h1:=si.cw hn;exact J95 _
 have wj:(ze m j).1=4 \/ (ze m j).1=5 -> m1.owners.getD (obM m j) 0=m.owners.getD (obM m j) 0:=fun hk=>by
  rw [<- hm1];refine zEQ ?_
  by_cases hn:(zBB m i).ow=none
  ·exact .inl hn
  ·exact .inr fun e=>H.mtx (by have:=si.ow hn;omega) (by omega) (by rw [xo,yo,e])
 have tj:(ze m j).1=6 \/ (ze m j).1=7 -> obM m j ≠ i -> m1.get (obM m j)=m.get (obM m j):=fun hk hne=>by
  rw [<- hm1];exact zFP (fun e=>hne e.symm) fun hb e=>H.beg (by have:=(si.bg hb).1;omega) (by omega) (by rw [xo,yo,e])
 have ti:m1.get i=(zBB m i).t:=by rw [<- hm1];exact zGf hi
 have kj:=zFp (m':=m1) j2m gj cj (fun hk=>wj (.inr hk)) fun hk=>by
  by_cases e:obM m j=i
  ·rw [e,ti,i2]
   rcases si.st with q | q | q <;> omega
  ·rw [tj hk e]
 have ja':zAX m j=true:=by
  revert ja
  unfold zAX;rw [ea];simp only
  by_cases k0:(ze m j).1=0
  ·simp [k0]
  rw [if_neg k0,if_neg k0];by_cases k4:(ze m j).1=4
  ·rw [if_pos k4,if_pos k4,show (ze m j).2.toNat=obM m j from rfl,wj (.inl k4)];exact fun h=>h
  rw [if_neg k4,if_neg k4];by_cases k7:(ze m j).1=7
  ·rw [if_pos k7,if_pos k7,show (ze m j).2.toNat=obM m j from rfl]
   by_cases e:obM m j=i
   ·rw [e,ti]
    intro hh
    simp only [yR,yS] at hh;rcases si.st with q | q | q
    ·omega
    ·omega
    ·exact absurd (by rw [xt,yo,e]) (H.fin (by omega) (by omega))
   ·rw [tj (.inr k7) e];exact fun h=>h
  ·rw [if_neg k7,if_neg k7];exact fun h=>h
 have f1:=zDj (u:=u) jl j2m;have hokj:=(zBq hr h jl j2m).1;have hlj:=(zBq hr h jl j2m).2;generalize hm2:(zi u m j).1=m2 at *;rw [f1] at hm2;simp only at hm2
 have gi:m2.get i=m.get i:=by
  rw [<- hm2];exact zFP hij.symm fun hb e=>by have:=(sj.bg hb).2;rw [e,i2] at this;cases this
 have i2':(m2.get i).st=2:=by rw [gi];exact i2
 have ea2:ze m2 i=ze m i:=zFO gi
 have ci:(ze m i).1=1 \/ (ze m i).1=3 -> m2.cells.getD (obM m i) 0=m.cells.getD (obM m i) 0:=fun hk=>by
  rw [<- hm2];refine zEQ ?_
  by_cases hn:(zBB m j).cw=none
  ·exact .inl hn
  ·exact .inr fun e=>by
    have h1:=sj.cw hn;exact J95 _
 have wi:(ze m i).1=4 \/ (ze m i).1=5 -> m2.owners.getD (obM m i) 0=m.owners.getD (obM m i) 0:=fun hk=>by
  rw [<- hm2];refine zEQ ?_
  by_cases hn:(zBB m j).ow=none
  ·exact .inl hn
  ·exact .inr fun e=>H.mtx (by omega) (by have:=sj.ow hn;omega) (by rw [xo,yo,e])
 have ti2:(ze m i).1=6 \/ (ze m i).1=7 -> obM m i ≠ j -> m2.get (obM m i)=m.get (obM m i):=fun hk hne=>by
  rw [<- hm2]
  exact zFP (fun e=>hne e.symm) fun hb e=>by
   have hb6:=(sj.bg hb).1;rcases hk with hk | hk
   ·exact H.beg (by omega) (by omega) (by rw [xo,yo,e])
   ·exact H.wai (by omega) (by omega) (by rw [xo,yo,e])
 have tj2:m2.get j=(zBB m j).t:=by rw [<- hm2];exact zGf jl
 have ki:=zFp (m':=m2) i2 gi ci (fun hk=>wi (.inr hk)) fun hk=>by
  by_cases e:obM m i=j
  ·rw [e,tj2,j2m]
   rcases sj.st with q | q | q <;> omega
  ·rw [ti2 hk e]
 have ia':zAX m2 i=true:=by
  revert ia
  unfold zAX;rw [ea2];simp only
  by_cases k0:(ze m i).1=0
  ·simp [k0]
  rw [if_neg k0,if_neg k0];by_cases k4:(ze m i).1=4
  ·rw [if_pos k4,if_pos k4,show (ze m i).2.toNat=obM m i from rfl,wi (.inl k4)];exact fun h=>h
  rw [if_neg k4,if_neg k4];by_cases k7:(ze m i).1=7
  ·rw [if_pos k7,if_pos k7,show (ze m i).2.toNat=obM m i from rfl]
   by_cases e:obM m i=j
   ·rw [e,j2m];simp
   ·rw [ti2 (.inr k7) e];exact fun h=>h
  ·rw [if_neg k7,if_neg k7];exact fun h=>h
 have f2:=zDj (u:=u) (m:=m2) (i:=i) (by rw [hlj];exact hi) i2';rw [ki.1,ki.2.1,ki.2.2] at f2;rw [kj.1,kj.2.1,kj.2.2] at e2;rw [kj.1,kj.2.1] at hy;rw [f1,f2,e2];refine ⟨j2m,ja',hy,i2',ia',hx,?_⟩
 simp only
 rw [<- hm1,<- hm2]
 have hc:∀ (l:List Int) (v w:Option Int),(v ≠ none -> w ≠ none -> obM m i ≠ obM m j) -> zFN (zFN l (obM m j) w) (obM m i) v=zFN (zFN l (obM m i) v) (obM m j) w:=fun l v w hne=>by
  cases v <;> cases w <;> first | rfl | exact vL _ _ (fun e=>hne (by simp) (by simp) e.symm)
 unfold zGy;simp only
 refine congr (congr (kK zW.mk (hc _ _ _ fun h1 h2 e=>?_)) (hc _ _ _ fun h1 h2 e=>?_)) ?_
 ·have q1:=si.cw h1
  have q2:=sj.cw h2;exact J95 _
 ·exact H.mtx (by have:=si.ow h1;omega) (by have:=sj.ow h2;omega) (by rw [xo,yo,e])
 ·have n1:(zBB m i).bg=true -> obM m i ≠ j:=fun hb e=>H.sta (by have:=(si.bg hb).1;omega) (by rw [xo,yt,e])
  have n2:(zBB m j).bg=true -> obM m j ≠ i:=fun hb e=>by have:=(sj.bg hb).2;rw [e,i2] at this;cases this
  have n3:(zBB m i).bg=true -> (zBB m j).bg=true -> obM m i ≠ obM m j:=fun h1 h2 e=>H.beg (by have:=(si.bg h1).1;omega) (by have:=(sj.bg h2).1;omega) (by rw [xo,yo,e])
  generalize obM m i=ki' at *;generalize obM m j=kj' at *;generalize (zBB m i).t=a;generalize (zBB m j).t=b;cases hb1:(zBB m i).bg <;> cases hb2:(zBB m j).bg
  ·simp only [xC,uR]
   exact vL _ _ (fun e=>hij e.symm)
  ·simp only [xC,uR,kD]
   rw [vL _ _ (fun e=>hij e.symm),vL _ _ (n2 hb2)]
  ·simp only [xC,uR,kD]
   rw [vL (i:=j) (j:=ki') _ _ (fun e=>n1 hb1 e.symm),vL (i:=j) (j:=i) _ _ (fun e=>hij e.symm)]
  ·simp only [kD]
   rw [vL (i:=j) (j:=ki') _ _ (fun e=>n1 hb1 e.symm),vL (i:=j) (j:=i) _ _ (fun e=>hij e.symm),vL (i:=kj') (j:=ki') _ _ (fun e=>n3 hb1 hb2 e.symm),vL (i:=kj') (j:=i) _ _ (n2 hb2)]
theorem zIh (u:Un):∀ (l k:List Int) (m:zW),plN u m (l++k)=((plN u m l).1++(plN u (plN u m l).2 k).1,(plN u (plN u m l).2 k).2):=by
 intro l k
 induction l with
 | nil=>intro m;rfl
 | cons a r ih=>intro m;simp only [vH,plN,ih]
def dnS (l:List Evt):List zCL:=l.map fun x=>⟨x.thread,0,x⟩
theorem zOJ {u:Un} (hr:zV u=true):∀ (l:List Int) (m:zW),m.ok u -> (plN u m l).2.ok u:=by
 intro l
 induction l with
 | nil=>intro m h;exact h
 | cons a r ih=>intro m h;simp only [plN];exact ih _ (zDN hr h a).1
theorem zFw {u:Un} {m:zW} {t:Int} {x:Evt} (h:(stepM u m t).2.2=0) (hx:(stepM u m t).2.1=x):zBQ m t=0 /\ stepM u m t=((zi u m t.toNat).1,x,0) /\ (zi u m t.toNat).2=x:=by
 unfold stepM at *;by_cases h0:zBQ m t=0
 ·rw [if_pos h0] at hx ⊢
  exact ⟨h0,by rw [<- hx],hx⟩
 ·rw [if_neg h0] at h
  exact absurd h h0
theorem zL8 {u:Un} (hr:zV u=true) {m mf:zW} (h:m.ok u) {pre post:List Evt} {x y:Evt} (hp:plN u m ((pre++x :: y :: post).map Evt.thread)=(dnS (pre++x :: y :: post),mf)) (H:zGQ x y) (H':zGQ y x) :
 plN u m ((pre++y :: x :: post).map Evt.thread)=(dnS (pre++y :: x :: post),mf):=by
 rw [uU,zIh] at hp ⊢;simp only [dnS,uU,xW] at hp ⊢;obtain ⟨h1,h2⟩:=hp;obtain ⟨h1,h3⟩:=List.append_inj h1 (by rw [zGl,uC,uC]);have hok:=zOJ hr (pre.map Evt.thread) m h;rw [h1];generalize (plN u m (pre.map Evt.thread)).2=m0 at *;simp only [uN,plN,List.cons.injEq,zCL.mk.injEq,true_and] at h2 h3 ⊢;obtain ⟨⟨a0,a1⟩,⟨b0,b1⟩,h3⟩:=h3;obtain ⟨r1,e1,d1⟩:=zFw a0 a1;have hok1:=(zDN hr hok x.thread).1;rw [e1] at b0 b1 h2 h3 hok1;simp only at b0 b1 h2 h3 hok1;obtain ⟨r2,e2,d2⟩:=zFw b0 b1;rw [e2] at h2 h3;simp only at h2 h3;obtain ⟨p1,p2,p3⟩:=hok.run r1;obtain ⟨q1,q2,q3⟩:=hok1.run r2;have hl1:=(zBq hr hok p2 p3).2;obtain ⟨s1,s2,s3,s4,s5,s6,s7⟩:=zON hr hok p2 p3 (zDZ r1).2.2.2.2.2 d1 (by rw [<- hl1];exact q2) q3 (zDZ r2).2.2.2.2.2 d2 H H';have q2':y.thread.toNat < m0.zL.length:=by rw [<- hl1];exact q2
 have hl2:=(zBq hr hok q2' s1).2
 have f1:zBQ m0 y.thread=0:=by
  have:=zJU q2' s1 s2
  rwa [Int.toNat_of_nonneg q1] at this
 have f2:zBQ (zi u m0 y.thread.toNat).1 x.thread=0:=by
  have:=zJU (by rw [hl2];exact p2) s4 s5
  rwa [Int.toNat_of_nonneg p1] at this
 have g1:stepM u m0 y.thread=((zi u m0 y.thread.toNat).1,y,0):=by unfold stepM;rw [if_pos f1,s3]
 have g2:stepM u (zi u m0 y.thread.toNat).1 x.thread=((zi u (zi u m0 x.thread.toNat).1 y.thread.toNat).1,x,0):=by unfold stepM;rw [if_pos f2,s6,s7]
 rw [g1];simp only [g2];exact ⟨by simp [h3],h2⟩
end Go.Proofs.YtfjgcedkfnmdkaaGreatDoor
