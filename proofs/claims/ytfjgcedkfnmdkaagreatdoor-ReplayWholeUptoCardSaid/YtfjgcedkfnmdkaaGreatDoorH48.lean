/- Layer H: texts joined. -/
import Derived.Test.YtfjgcedkfnmdkaaGreatDoorH47
set_option linter.all false
set_option maxHeartbeats 8000000
set_option maxRecDepth 8000
namespace Go.Proofs.YtfjgcedkfnmdkaaGreatDoor
open Go.RowKit
theorem J54 (P:Prop) (h:P:=by
 have h1:=zFl u
 have h2:unS bs <= 60:=by
  unfold newR zBy at hr;rw [show zU ⟨cs,mu,bs⟩=true by rw [<- hu];exact hR] at hr;revert hr
  simp only [if_true];split
  ·intro e;cases e
  ·intro _;omega
 rw [hu] at h1 hB;have h1:zBr ⟨cs,mu,bs⟩ (zBA ⟨cs,mu,bs⟩) <= unS bs:=h1;omega):P:=h
theorem J121 (P:Prop) (h:P:=by
 rw [<- HT.out,hst] at hw1 hw2 hw3;rw [hw1] at hres;exact ⟨by rw [hres];simp,hw2,by have:=hw3;simp only at this;omega,e1⟩):P:=h
theorem J129 (P:Prop) (h:P:=by
 have h1:=zFU m m.zL.length;rw [zJk] at h1;have h2:=(zAh HRT.out).2.1;have h3:=hmm.ok.zL;omega):P:=h
theorem J131 (P:Prop) (h:P:=by
 refine HM.out.mono (fun q hq=>?_)
 rcases hq with h | h
 ·rw [<- hg0];exact h
 ·simp [Value.ownBlock] at h):P:=h
theorem J225 (P:Prop) (h:P:=by have e:g0 <= q:=e;have:=HG0.out;have:=HY.out;omega):P:=h
def zEa (w:World) (B C:Nat) (v:Value) (n size:Nat):Prop :=
 ∃ ad cap,v=.slice ad n cap /\ (n ≠ 0 -> ∃ g,ad=some ⟨g,0,none⟩ /\ B <= g /\ g < C /\ w.there g 0 (n*size))
theorem zEa.of {w:World} {B C n size:Nat} {v:Value} {cs:List Value} (h:zAg w B v n cs) (hl:cs.length=n*size) (hs:0 < size) (hC:w.heap.size <= C):zEa w B C v n size:=by
 obtain ⟨ad,cap,e,_,_,h1⟩:=h;refine ⟨ad,cap,e,fun hn=>?_⟩
 obtain ⟨g,h2,h3,h4⟩:=h1 hn;refine ⟨g,h2,h3,yK (h4.lt (fun e=>?_)) hC,by rw [<- hl];exact h4.thr⟩
 rw [e] at hl;simp at hl
 have:n*size ≠ 0:=Nat.mul_ne_zero hn (by omega)
 omega
theorem zEa.set {w:World} {B C n size:Nat} {v:Value} (h:zEa w B C v n size) (p:Addr) (u:Value):zEa (w.setCell p u) B C v n size:=by
 obtain ⟨ad,cap,e,h1⟩:=h;refine ⟨ad,cap,e,fun hn=>?_⟩
 obtain ⟨g,h2,h3,h4,h5⟩:=h1 hn;refine ⟨g,h2,h3,h4,fun j hj=>?_⟩
 obtain ⟨a,b⟩:=h5 j hj;refine ⟨?_,by rw [World.frozen?_setCell];exact b⟩
 by_cases e:p=⟨g,0+j,none⟩
 ·subst e
  rw [World.cell?_setCell_same' _ _ _ a];rfl
 ·rw [vF _ _ _ _ e];exact a
theorem zEa.zF {w w':World} {B C n size:Nat} {v:Value} (h:zEa w B C v n size) (hk:Keeps zA w w'):zEa w' B C v n size:=by
 obtain ⟨ad,cap,e,h1⟩:=h;refine ⟨ad,cap,e,fun hn=>?_⟩
 obtain ⟨g,h2,h3,h4,h5⟩:=h1 hn;exact ⟨g,h2,h3,h4,zFE h5 hk (fun h=>h)⟩
theorem zEa.cell {w:World} {B C n size:Nat} {ad:Option Addr} {m cap:Nat} (h:zEa w B C (.slice ad m cap) n size) {k:Nat} (hk:k < n):∃ g,ad=some ⟨g,0,none⟩ /\ B <= g /\ g < C /\ ∀ j,j < size -> ∃ old,w.cell? ⟨g,k*size+j,none⟩=some old /\ w.frozen? ⟨g,k*size+j,none⟩=false:=by
 obtain ⟨ad',cap',e,h1⟩:=h;cases e;obtain ⟨g,h2,h3,h4,h5⟩:=h1 (by omega);refine ⟨g,h2,h3,h4,fun j hj=>?_⟩
 have hlt:k*size+j < n*size:=by
  have:(k+1)*size <= n*size:=vP _ hk
  rw [vM] at this;omega
 obtain ⟨a,b⟩:=h5 _ hlt;rw [yY] at a b;obtain ⟨old,ho⟩:=Option.isSome_iff_exists.1 a;exact ⟨old,ho,b⟩
theorem zBs.slice {e size n:Nat} {w w':World} {cs:List Value} {v:Value} (h:w'.ownsRow 0 e size v n cs):∃ ad cap,v=.slice ad n cap:=by
 rcases h.2 with ⟨e1,e2⟩ | ⟨g,cap,cur,e1,_⟩
 ·exact ⟨none,0,by rw [e1,e2]⟩
 ·exact ⟨_,cap,e1⟩
theorem zHK {w:World} {e n:Nat} {v:Value} {cs:List Value} {size:Nat} (h:w.ownsRow 0 e size v n cs):zAA w v n cs:=(zAg.of (B:=0) h (fun _ _=>yJ _)).src
structure LkI (w0 wr:World) (B y:Nat) (s1 s2 s3 s4:Value) (nc no nf:Nat):Prop where
 keep:Keeps (fun q=>B <= q) w0 wr
 row:zC wr y [s1,s2,s3,s4]
 h1:zEa wr B y s1 nc 1
 h2:zEa wr B y s2 no 1
 h3:zEa wr B y s3 nf 1
 h4:zEa wr B y s4 nf 2
theorem LkI.set {w0 wr:World} {B y:Nat} {s1 s2 s3 s4:Value} {nc no nf:Nat} (h:LkI w0 wr B y s1 s2 s3 s4 nc no nf) (p:Addr) (h1:B <= p.block) (h2:p.block < y) (u:Value):LkI w0 (wr.setCell p u) B y s1 s2 s3 s4 nc no nf :=
 ⟨h.keep.setCell (p:=p) (fun _=>h1) u,h.row.other (fun e=>by omega) u,h.h1.set p u,h.h2.set p u,h.h3.set p u,h.h4.set p u⟩
theorem zAg.form {w:World} {B n:Nat} {v:Value} {cs:List Value} (h:zAg w B v n cs):∃ ad cap,v=.slice ad n cap:=by obtain ⟨ad,cap,e,_⟩:=h;exact ⟨ad,cap,e⟩
theorem zAA.up {w w':World} {B:Nat} {v:Value} {n:Nat} {cs:List Value} (h:zAA w v n cs) (hk:Keeps (fun q=>B <= q) w w') (hB:w.heap.size <= B) (hc:cs.length=0 -> n=0):zAA w' v n cs:=by
 obtain ⟨ad,cap,rfl,h1⟩:=h;refine ⟨ad,cap,rfl,fun hn=>?_⟩
 obtain ⟨g,o,e,h2⟩:=h1 hn;refine ⟨g,o,e,fun j u hj=>?_⟩
 have hlt:=xO w _ (h2 j u hj);exact hk.cell (p:=⟨g,o+j,none⟩) (fun hb=>by have hb':B <= g:=hb;have hlt':g < w.heap.size:=hlt;omega) (h2 j u hj)
theorem zCu.up {w w':World} {B:Nat} {c1 c2 c3 c4:Value} {xs ys ss:List Int} {ps:List (Int × Int)} (h:zCu w c1 c2 c3 c4 xs ys ss ps) (hk:Keeps (fun q=>B <= q) w w') (hB:w.heap.size <= B):zCu w' c1 c2 c3 c4 xs ys ss ps :=
 ⟨h.cells.up hk hB (by simp [ints]),h.owners.up hk hB (by simp [ints]),h.sts.up hk hB (by simp [ints]),h.next.up hk hB (by intro e;rw [zCT zDu 2 (fun _=>rfl)] at e;omega)⟩
theorem zJI (m:zZ) (k:Nat) (h:k <= m.zL.length):(zDy m k).length=k:=by simp [zDy];omega
theorem zHz (m:zZ) (k:Nat):(zGf m k).length=k:=by simp [zGf]
theorem zDi.src {w w':World} {m:zZ} {c1 c2 c3 c4:Value} (h:zDi w m c1 c2 c3 c4 w'):zCu w' c1 c2 c3 c4 m.cells m.owners (zDy m m.zL.length) (zGf m m.zL.length) :=
 ⟨h.cells.src,h.owners.src,by rw [zJI m _ (xA _)];exact h.sts.src,by rw [zHz];exact h.next.src⟩
theorem zFR.out {w w':World} {m:zZ} {e:Ending} (h:zFR w m e w'):∃ c1 c2 c3 c4,e=.returned (.agg #[c1,c2,c3,c4]) /\ zDi w m c1 c2 c3 c4 w':=by
 obtain ⟨a1,q1,a2,q2,a3,q3,a4,q4,e,h⟩:=h;exact ⟨_,_,_,_,e,h⟩
def zJl:Value -> Nat
 | .slice _ n _=>n
 | _=>0
def NBO (g0:Nat) (v:Value) (q:Nat):Prop:=q < g0 \/ v.ownBlock=some q
theorem zA6.app {R:zA7 WFr} {sz k:Nat} {ty ty':TypeId} {B:zCc} {D:Nat -> Prop} {w w':World} {b g0 n cap:Nat} {u:Un} {m:zZ} {v:Value} {xs:List Value} {ad:Option Addr} (h:zA6 R sz ty B D (NBO g0 v) w b u m) (ho:zAO w 0 ty' k v n xs ad cap w') (hD:∀ q,v.ownBlock=some q -> ¬ D q):zA6 R sz ty B D (NBO g0 (.slice ad n cap)) w' b u m :=
 (h.zLf (S:=fun q=>v.ownBlock=some q) (ho.keeps (yC _ _) (fun q e _=>e)) (fun q e=>⟨.inr e,hD q e⟩)).mono fun q hq=>by
   rcases hq with hq | hq
   ·exact .inl (.inl hq)
   ·rcases ho.2.2 q hq with e | e
    ·exact .inl (.inr e)
    ·exact .inr ⟨Nat.le_of_eq e.symm,zO ho.1 hq⟩
theorem zDz.app {w w':World} {b g0 n cap sz:Nat} {u:Un} {m:zZ} {v:Value} {ty:TypeId} {xs:List Value} {ad:Option Addr} (h:zDz (NBO g0 v) w b u m) (ho:zAO w 0 ty sz v n xs ad cap w'):zDz (NBO g0 (.slice ad n cap)) w' b u m:=zA6.app h ho fun _ _ h=>h
abbrev zFz:Value:=.agg #[.slice none 0 0, .slice none 0 0, .slice none 0 0, .slice none 0 0]
def zNO (w:World) (r:List Evt × zZ) (e:Ending) (w':World):Prop :=
 ∃ oa oc a1 q1 a2 q2 a3 q3 a4 q4,e=.returned (.tuple #[.slice oa r.1.length oc, .agg #[.slice a1 r.2.cells.length q1, .slice a2 r.2.owners.length q2, .slice a3 r.2.zL.length q3, .slice a4 r.2.zL.length q4], .int .i64 0]) ∧
   zAg w' w.heap.size (.slice oa r.1.length oc) r.1.length (r.1.flatMap evC) /\ zDi w r.2 (.slice a1 r.2.cells.length q1) (.slice a2 r.2.owners.length q2) (.slice a3 r.2.zL.length q3) (.slice a4 r.2.zL.length q4) w'
section
variable {cs:List Int} {mu:Int} {bs:List Bd} {w:World} {F:Nat -> Prop} {uca uta:Option Addr} {ucc utc:Nat}
theorem zLM (h:zCB w F cs bs uca uta) (hr:newR ⟨cs,mu,bs⟩ ≠ 0) (v:Value):Calls Tryz.prog 22 #[.agg #[.slice uca cs.length ucc, .int .i64 mu, .slice uta bs.length utc],v] w fun e w'=>e=.returned (.tuple #[.slice none 0 0,zFz, .int .i64 (newR ⟨cs,mu,bs⟩)]) /\ Keeps zA w w':=by
 have HNO:Hid (∀ W,Keeps zA w W -> Calls Tryz.prog 12 #[.agg #[.slice uca cs.length ucc, .int .i64 mu, .slice uta bs.length utc]] W fun e w'=>e=.returned (.tuple #[.pointer none, .int .i64 (newR ⟨cs,mu,bs⟩)]) /\ Keeps zA W w'):=fun W hk=>(h.zF hk).zOP hr
 have hb:(newR ⟨cs,mu,bs⟩ != 0)=true:=uA.2 hr;generalize newR ⟨cs,mu,bs⟩=rr at hb HNO ⊢;clear h hr;go_enter Tryz.func22,Tryz.ntmps22
 go_upto_region 1 with fail
 obtain ⟨b1,w1,x1,z1,R1,K1,s1⟩:=newRow w [.slice uca cs.length ucc, .int .i64 mu, .slice uta bs.length utc] 25;try rw [x1]
 try rw [z1]
 obtain ⟨y,w2,x2,z2,R2,K2,s2⟩:=newRow w1 [.slice none 0 0, .slice none 0 0, .slice none 0 0, .slice none 0 0] 50;have n1:b1+1=y:=s1.out.symm.trans x2;try rw [n1]
 try rw [x2]
 try rw [z2]
 have y1:=(R1.keeps K2 (fun h=>h)).zDR;have HRY:=yB R2;have k2:=zH w2;have HK2:Hid (Keeps zA w w2):=K1.zB K2;have HY:Hid (w.heap.size <= y /\ y < w2.heap.size):=⟨by rw [<- x2];exact K1.size,R2.lt (by simp)⟩;have yy:=R2.zBx;have f0:=zT R2 0 (by decide);have f1:=zT R2 1 (by decide);have f2:=zT R2 2 (by decide);have f3:=zT R2 3 (by decide);clear n1 x1 z1 x2 z2 R1 R2 K1 K2 s1 s2;go_wp2_with (go_at_call 12;refine (HNO.out _ HK2.out).mono ?_;rintro e w3 ⟨rfl,k3⟩;have HK3:=yB k3)
 obtain ⟨R5,K5⟩:=zAj (w:=w) [.slice none 0 0, .slice none 0 0, .slice none 0 0, .slice none 0 0] (HRY.out.keeps HK3.out (fun h=>h)) rfl (HK2.out.zB HK3.out) HY.out.1;simp only [zCJ,yY,Nat.reduceAdd] at R5 K5;refine yZ (v:=.tuple #[.slice none 0 0,zFz, .int .i64 rr]) (by simp [results,Tryz.results22,go_sem,R5.cell (k:=0) rfl,R5.cell (k:=1) rfl,R5.cell (k:=2) rfl,R5.cell (k:=3) rfl,zFz]) rfl ⟨rfl,K5⟩
theorem zHt (h:zCB w F cs bs uca uta) (ca:Option Addr) (cc:Nat) (ch:List Int) (hx:zAA w (.slice ca ch.length cc) ch.length (ints ch)) (hr:newR ⟨cs,mu,bs⟩=0):Calls Tryz.prog 22 #[.agg #[.slice uca cs.length ucc, .int .i64 mu, .slice uta bs.length utc], .slice ca ch.length cc] w (zNO w (whole ⟨cs,mu,bs⟩ ch)):=by
 have hR:=zB4 hr;have HNW:Hid (∀ W,Keeps zA w W -> Calls Tryz.prog 12 #[.agg #[.slice uca cs.length ucc, .int .i64 mu, .slice uta bs.length utc]] W fun e w'=>∃ b,e=.returned (.tuple #[.pointer (some ⟨b,0,none⟩), .int .i64 0]) /\ zDz (fun q=>q < W.heap.size) w' b ⟨cs,mu,bs⟩ (zBA ⟨cs,mu,bs⟩) /\ Keeps zA W w'):=fun W hk=>(h.zF hk).zON hr
 obtain ⟨u,hu⟩:∃ u:Un,u=⟨cs,mu,bs⟩:=⟨_,rfl⟩
 rw [<- hu] at HNW hR ⊢;obtain ⟨B,hB⟩:∃ z,z=zBr u (zBA u):=⟨_,rfl⟩
 have HB60:Hid (B <= 60):=by
  show _ <= _
  exact J54 _
 obtain ⟨R,hRR⟩:∃ z,z=whole u ch:=⟨_,rfl⟩
 have HR0:Hid (R=([]++(whN u ch B 0 (zBA u)).1,(whN u ch B 0 (zBA u)).2)):=by show _=_;rw [hRR,hB];rfl
 have HX:Hid (∀ W,Keeps (fun q=>w.heap.size <= q) w W -> zAA W (.slice ca ch.length cc) ch.length (ints ch)):=fun W hk=>hx.up hk (xA _) (by simp [ints])
 have HRT:=yB hR;have HPB:Hid (zBr u (zBA u) <= B):=by show _ <= _;rw [hB];exact xA _
 obtain ⟨j0,hj0,hy0,hy1,hy2⟩:=info_parts zME;rw [<- hRR];clear h hx hr hR hu hB hRR;go_enter Tryz.func22,Tryz.ntmps22
 go_upto_region 1 with fail
 obtain ⟨b1,w1,x1,z1,R1,K1,s1⟩:=newRow w [.slice uca cs.length ucc, .int .i64 mu, .slice uta bs.length utc] 25;try rw [x1]
 try rw [z1]
 obtain ⟨y,w2,x2,z2,R2,K2,s2⟩:=newRow w1 [.slice none 0 0, .slice none 0 0, .slice none 0 0, .slice none 0 0] 50;have n1:b1+1=y:=s1.out.symm.trans x2;try rw [n1]
 try rw [x2]
 try rw [z2]
 have y1:=(R1.keeps K2 (fun h=>h)).zDR;have HRY:=yB R2;have k2:=zH w2;have HK2:Hid (Keeps zA w w2):=K1.zB K2;have HY:Hid (w.heap.size <= y /\ y < w2.heap.size):=⟨by rw [<- x2];exact K1.size,R2.lt (by simp)⟩;have yy:=R2.zBx;have f0:=zT R2 0 (by decide);have f1:=zT R2 1 (by decide);have f2:=zT R2 2 (by decide);have f3:=zT R2 3 (by decide);clear n1 x1 z1 x2 z2 R1 R2 K1 K2 s1 s2;go_upto_region 5 with (go_at_call 12;refine (HNW.out _ HK2.out).mono ?_;rintro e w3 ⟨b,rfl,hm,k3⟩;have HK3:=yB k3;have HM:=yB hm;clear hm k3)
 obtain ⟨g0,hg0⟩:∃ g,g=w2.heap.size:=⟨_,rfl⟩
 have HG0:=yB hg0
 have M3:Hid (zDz (NBO g0 (.slice none 0 0)) w3 b u (zBA u)):=by
  exact J131 _
 have HE:=yB M3.out.enabled;clear hg0 HM y1 yy f0 f1 f2 f3 k2 HNW;go_upto_region 6 with (go_at_call 46;refine HE.out.mono ?_;rintro e w4 ⟨v,rfl,ho,k4,hob⟩;obtain ⟨la,lc,evl⟩:∃ ad cap,v=.slice ad (zAl (zBA u)).length cap:=zBs.slice (w:=w) ho;subst evl;have HSL:=yB (zHK ho);have HK4:=yB k4;clear ho hob k4)
 have M4:=yB (M3.out.zF HK4.out);have HK24:Hid (Keeps (fun q=>g0 <= q) w2 w4):=(HK3.out.zB HK4.out).mono (fun _ _ h=>h.elim);clear HE M3 HK3 HK4;go_loopw [9,10] (fun ov lv wr=>∃ (m:zZ) (es:List Evt) (oa:Option Addr) (oc:Nat) (la:Option Addr) (lc ln lo:Nat),ov=.slice oa lo oc /\ lv=.slice la ln lc /\ lo <= 60 /\ Hid (lo=es.length /\ ln=(zAl m).length /\ zAA wr (.slice la ln lc) ln (ints (zAl m)) /\ wr.ownsRow 0 40 5 (.slice oa lo oc) lo (es.flatMap evC) /\ (∀ g,(Value.slice oa lo oc).ownBlock=some g -> g0 <= g) /\ zDz (NBO g0 (.slice oa lo oc)) wr b u m /\ Keeps (fun q=>g0 <= q) w2 wr /\ zBr u m+lo <= B /\ ∃ f,zBr u m <= f /\ R=(es++(whN u ch f es.length m).1,(whN u ch f es.length m).2))) (fun ov _ _=>B - zJl ov)
 case atStart=>exact ⟨zBA u,[],none,0,la,lc,_,0,rfl,rfl,yJ _,rfl,rfl,HSL.out,xH _ _ _ _,fun g e=>by exact J191 _,M4.out,HK24.out,HPB.out,B,HPB.out,HR0.out⟩
 case round =>
  obtain ⟨m,es,oa,oc,la,lc,ln,lo,rfl,rfl,hlo,HI⟩:=hrel;clear M4 HSL HK24;obtain ⟨e1,e2,hsl,how,hnew,hmm,hkk,hpot,f,hf,hres⟩:=HI.out;have HKK:=yB hkk;have HM:=yB hmm;have HOW:=yB how;by_cases h0:ln=0
  ·subst h0
   have he:zAl m=[]:=uW e2.symm;have HFIN:Hid (R=(es,m) /\ lo=es.length):=⟨by rw [hres,zFY HRT.out ch he];simp,e1⟩;have HNEW:=yB hnew;have SE:=yB hmm.state;have HRYr:=yB (HRY.out.keeps hkk (fun h=>by have h:g0 <= y:=h;have:=HG0.out;have:=HY.out.2;omega));have yy:=HRYr.out.zBx;have f0:=zT HRYr.out 0 (by decide);have f1:=zT HRYr.out 1 (by decide);have f2:=zT HRYr.out 2 (by decide);have f3:=zT HRYr.out 3 (by decide);have HGS:Hid (g0 <= wr.heap.size):=by have:=HG0.out;have:=hkk.size;show _ <= _;omega
   have kr:=zH wr;clear e1 e2 hsl how hnew hmm hkk hpot hf hres he HI
   go_wp2_with (first
    | (go_at_call 64;refine (zKN _ oa lo oc es (by rw [HFIN.out.2] at HOW;exact (by rw [HFIN.out.2];exact HOW.out))).mono ?_;rintro e w5 ⟨rfl,hw⟩;have hw:=hw.symm;subst hw)
    | (go_at_call 37;refine SE.out.mono ?_;rintro e w8 ⟨t1,t2,c3,c4,rfl,hs⟩;obtain ⟨t3,u3,e3⟩:=hs.sts.form;obtain ⟨t4,u4,e4⟩:=hs.next.form;subst e3 e4;have S8:=yB hs;have k8:=hs.keeps;clear hs))
   have K28:Hid (Keeps zA w w8):=(HK2.out.trans HKK.out (fun q hq e=>by exact J225 _)).zB k8;have HKY:=zBR y [.slice t1 m.cells.length m.cells.length, .slice t2 m.owners.length m.owners.length, .slice t3 m.zL.length u3, .slice t4 m.zL.length u4] 0 w8;obtain ⟨R5,K5⟩:=zAj (w:=w) [.slice t1 m.cells.length m.cells.length, .slice t2 m.owners.length m.owners.length, .slice t3 m.zL.length u3, .slice t4 m.zL.length u4] (HRYr.out.keeps k8 (fun h=>h)) rfl K28.out HY.out.1;simp only [zCJ,yY,Nat.reduceAdd] at R5 K5 HKY;generalize (((w8.setCell ⟨y,0,none⟩ (.slice t1 m.cells.length m.cells.length)).setCell ⟨y,1,none⟩ (.slice t2 m.owners.length m.owners.length)).setCell ⟨y,2,none⟩ (.slice t3 m.zL.length u3)).setCell ⟨y,3,none⟩ (.slice t4 m.zL.length u4)=wz at R5 K5 HKY ⊢;refine yZ (v:=.tuple #[.slice oa lo lo, .agg #[.slice t1 m.cells.length m.cells.length, .slice t2 m.owners.length m.owners.length, .slice t3 m.zL.length u3, .slice t4 m.zL.length u4], .int .i64 0]) (by simp [results,Tryz.results22,go_sem,R5.cell (k:=0) rfl,R5.cell (k:=1) rfl,R5.cell (k:=2) rfl,R5.cell (k:=3) rfl]) rfl ?_
   obtain ⟨q1,q2⟩:=HFIN.out;subst q1;have hny:∀ q,wr.heap.size <= q -> ¬ (fun q=>q=y) q:=fun q hq e=>by have e':q=y:=e;have:=HGS.out;have:=HY.out.2;have:=HG0.out;omega
   have hws:w.heap.size <= wr.heap.size:=by have:=HGS.out;have:=HG0.out;have:=HY.out;omega
   have hF:zAg wz w.heap.size (.slice oa lo lo) lo (es.flatMap evC):=by
    have h1:=zAg.of (B:=g0) HOW.out HNEW.out;have h2:=(h1.keeps k8 (fun _ _ h=>h)).keeps HKY (fun q hq e=>by have e':q=y:=e;have:=HY.out.2;have:=HG0.out;omega);obtain ⟨ad,cap,e,c1,c2,c3⟩:=h2.mono (B':=w.heap.size) (by have:=HG0.out;have:=HY.out;omega);cases e;refine ⟨_,lo,rfl,by unfold maxLen;omega,fun e=>?_,c3⟩
    rcases uQ lo with h | h
    ·exact h
    ·obtain ⟨g,e2,_⟩:=c3 (by omega)
     rw [e] at e2;cases e2
   rw [q2] at hF ⊢;exact ⟨oa,_,t1,_,t2,_,t3,u3,t4,u4,rfl,hF,K5,(S8.out.cells.keeps HKY hny).mono hws,(S8.out.owners.keeps HKY hny).mono hws,(S8.out.sts.keeps HKY hny).mono hws,(S8.out.next.keeps HKY hny).mono hws⟩
  ·have hlp:0 < ln:=by omega
   have he:zAl m ≠ []:=fun e=>h0 (by rw [e2,e];rfl)
   have h8:ln <= 1000:=by
    exact J129 _
   obtain ⟨f',hw1,hw2,hw3,hw4⟩:=zFZ HRT.out ch (k:=es.length) hmm.ok he hf;have hsx:zAA wr (.slice ca ch.length cc) ch.length (ints ch):=HX.out wr (HK2.out.trans hkk (fun q hq e=>by exact J225 _) |>.mono (fun _ _ h=>h.elim));have HCH:=yB (zIp wr ca cc ch lo ln hsx hlp h8);obtain ⟨cc0,hc0⟩:∃ z,z=chN ch lo ln:=⟨_,rfl⟩
   have hclt:cc0 < ln:=by rw [hc0];exact zG2 ch lo hlp
   have hsl':zAA wr (.slice la ln lc) (zAl m).length (ints (zAl m)):=by rw [<- e2];exact hsl
   obtain ⟨ad,cap,ee,hcl⟩:=hsl'.ints;obtain ⟨gl,ol,el,cl⟩:=hcl cc0 (by omega);simp only [uJ] at ee;obtain ⟨rfl,hz,rfl⟩:=ee;clear hz;subst el;obtain ⟨t,ht⟩:∃ z,z=(zAl m).getD cc0 0:=⟨_,rfl⟩
   have HT:Hid (t=whT ch es.length m):=by show _=_;rw [ht,hc0];unfold whT;rw [<- e2,<- e1]
   rw [<- ht] at cl;rw [<- hc0] at HCH;rcases hst:stepM u m t with ⟨m',⟨xt,xk,xo,xv,xb⟩,fl⟩
   have HST:Hid (Calls Tryz.prog 18 #[.pointer (some ⟨b,0,none⟩), .int .i64 t] wr fun e w'=>e=.returned (.tuple #[.agg #[.int .i64 xt, .int .i64 xk, .int .i64 xo, .int .i64 xv, .int .i64 xb], .int .i64 fl]) /\ zDz (NBO g0 (.slice oa lo oc)) w' b u m' /\ Keeps (fun q=>¬ NBO g0 (.slice oa lo oc) q) wr w'):=by
    have h:=hmm.step t;rw [hst] at h;exact h
   have HRES:Hid (R=((es++[(⟨xt,xk,xo,xv,xb⟩:Evt)])++(whN u ch f' (es++[(⟨xt,xk,xo,xv,xb⟩:Evt)]).length m').1,(whN u ch f' (es++[(⟨xt,xk,xo,xv,xb⟩:Evt)]).length m').2) /\ zBr u m' <= f' /\ zBr u m'+(lo+1) <= B /\ lo=es.length):=by
    exact J121 _
   have HNEW:=yB hnew;have i1:(0:Int) <= cc0:=by omega
   have i2:(cc0:Int) < ln:=by omega
   have kr:=zH wr;clear HI e1 e2 hsl how hnew hmm hkk hpot hf hres he h8 hw1 hw2 hw3 hw4 hsx hsl' hcl ht hc0 hst hclt
   go_upto_region 9 with (first
    | (go_at_call 63;refine HCH.out.mono ?_;rintro e w5 ⟨rfl,rfl⟩)
    | (go_at_call 18;refine HST.out.mono ?_;rintro e w6 ⟨rfl,hm,hk⟩;have M6:=yB hm;have HK6:=yB hk;clear hm hk))
   obtain ⟨yx,w7,x1,x2,RX,KX,sX⟩:=newRow w6 [.int .i64 xt, .int .i64 xk, .int .i64 xo, .int .i64 xv, .int .i64 xb] 40;rw [x1,x2];have M7:=yB (M6.out.zF KX);have HOW7:=yB (zG (zG HOW.out HK6.out (fun q e h=>h (.inr e))) KX (fun _ _ h=>h))
   have K27:Hid (Keeps (fun q=>g0 <= q) w2 w7):=(HKK.out.trans (HK6.out.mono (fun q _ hn=>by
    have hn':¬ q < g0:=fun h=>hn (.inl h)
    show g0 <= q
    omega)) (fun _ _ h=>h)).trans KX (fun _ _ h=>h.elim)
   have yx5:=RX.five;have k7:=zH w7;have lx:yx < w7.heap.size:=RX.lt (by simp);have nx:yx ≠ w7.heap.size:=by omega
   clear x1 x2 KX sX RX M6 HK6 HST HCH cl
   go_wp2_with (first
    | (at_builtin;refine zI _ (by rfl) _ _ 47 (by rfl) 0 40 j0 _ 5 40 Tryz.underlying47 hj0 hy0 hy1 hy2 rfl (by decide) (.slice oa lo oc) lo (es.flatMap evC) (by rfl) (zG HOW7.out ((yC zA _).alloc _) (fun _ _ h=>h)) (.slice (some ⟨w7.heap.size,0,none⟩) 1 1) 1 (evC ⟨xt,xk,xo,xv,xb⟩) (by rfl) (xP (yO (yL _ _))) rfl (by simp [evC,Value.oneCell']) (by unfold maxLen;omega) (by omega) (yJ _) ?_;intro ad9 cap9 w8 hout;have HO:=yB hout;have M8:=yB (zDz.app (M7.out.zF ((yC _ _).alloc _)) hout);clear hout)
    | (go_at_call 46;refine M8.out.enabled.mono ?_;rintro e w9 ⟨v,rfl,ho,k9,hob⟩;obtain ⟨la2,lc2,evl⟩:∃ ad cap,v=.slice ad (zAl m').length cap:=zBs.slice (w:=w) ho;subst evl;have HSL:=yB (zHK ho);have HK9:=yB k9;clear ho hob k9))
   have hB:=HB60.out;obtain ⟨r1,r2,r3,r4⟩:=HRES.out;have hlen:lo+1=(es++[(⟨xt,xk,xo,xv,xb⟩:Evt)]).length:=by rw [xQ,r4];rfl
   refine ⟨⟨m',es++[⟨xt,xk,xo,xv,xb⟩],ad9,cap9,la2,lc2,(zAl m').length,lo+1,rfl,rfl,by omega,hlen,rfl,HSL.out,?_,?_,M8.out.zF HK9.out,?_,r3,f',r2,r1⟩,by simp [zJl];omega⟩
   ·rw [show (es++[(⟨xt,xk,xo,xv,xb⟩:Evt)]).flatMap evC=es.flatMap evC++evC ⟨xt,xk,xo,xv,xb⟩ by simp]
    exact zG HO.out.1 HK9.out (fun _ _ h=>h)
   ·intro g e
    rcases HO.out.2.2 g e with h | h
    ·exact HNEW.out g h
    ·have h1:=K27.out.size
     have h2:=HG0.out;simp at h
     omega
   ·exact (HO.out.keeps (K27.out.alloc _) (fun q e _=>HNEW.out q e)).trans HK9.out (fun _ _ h=>h.elim)
end
end Go.Proofs.YtfjgcedkfnmdkaaGreatDoor
