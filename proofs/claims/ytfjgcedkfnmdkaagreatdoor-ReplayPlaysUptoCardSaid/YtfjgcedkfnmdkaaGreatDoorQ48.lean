/- Layer Q: texts joined. -/
import Derived.Test.YtfjgcedkfnmdkaaGreatDoorQ47
set_option linter.all false
set_option maxHeartbeats 8000000
set_option maxRecDepth 8000
namespace Go.Proofs.YtfjgcedkfnmdkaaGreatDoor
open Go.RowKit
theorem J125 (P:Prop) (h:P:=by
 refine HM.out.mono (fun q hq=>?_)
 rcases hq with h | h
 ·rw [<- hg0];exact h
 ·simp [Value.ownBlock] at h):P:=h
theorem J192 (P:Prop) (h:P:=by have e:g0 <= q:=e;have:=HG0.out;have:=HY.out;omega):P:=h
theorem J193 (P:Prop) (h:P:=by first | exact HL1.out.2.2 | (simp only [uT];exact HL1.out.2.2)):P:=h
theorem J227 (P:Prop) (h:P:=by have e':q=y:=e;have:=HGS.out;have:=HY.out.2;have:=HG0.out;omega):P:=h
theorem J241 (P:Prop) (h:P:=by have h:g0 <= y:=h;have:=HG0.out;have:=HY.out.2;omega):P:=h
theorem J249 (P:Prop) (h:P:=by have:=HGS.out;have:=HG0.out;have:=HY.out;omega):P:=h
def zEi (w:World) (B C:Nat) (v:Value) (n size:Nat):Prop :=
 ∃ ad cap,v=.slice ad n cap /\ (n ≠ 0 -> ∃ g,ad=some ⟨g,0,none⟩ /\ B <= g /\ g < C /\ w.there g 0 (n*size))
theorem zEi.of {w:World} {B C n size:Nat} {v:Value} {cs:List Value} (h:zAf w B v n cs) (hl:cs.length=n*size) (hs:0 < size) (hC:w.heap.size <= C):zEi w B C v n size:=by
 obtain ⟨ad,cap,e,_,_,h1⟩:=h;refine ⟨ad,cap,e,fun hn=>?_⟩
 obtain ⟨g,h2,h3,h4⟩:=h1 hn;refine ⟨g,h2,h3,yK (h4.lt (fun e=>?_)) hC,by rw [<- hl];exact h4.thr⟩
 rw [e] at hl;simp at hl
 have:n*size ≠ 0:=Nat.mul_ne_zero hn (by omega)
 omega
theorem zEi.set {w:World} {B C n size:Nat} {v:Value} (h:zEi w B C v n size) (p:Addr) (u:Value):zEi (w.setCell p u) B C v n size:=by
 obtain ⟨ad,cap,e,h1⟩:=h;refine ⟨ad,cap,e,fun hn=>?_⟩
 obtain ⟨g,h2,h3,h4,h5⟩:=h1 hn;refine ⟨g,h2,h3,h4,fun j hj=>?_⟩
 obtain ⟨a,b⟩:=h5 j hj;refine ⟨?_,by rw [World.frozen?_setCell];exact b⟩
 by_cases e:p=⟨g,0+j,none⟩
 ·subst e
  rw [World.cell?_setCell_same' _ _ _ a];rfl
 ·rw [vF _ _ _ _ e];exact a
theorem zEi.zF {w w':World} {B C n size:Nat} {v:Value} (h:zEi w B C v n size) (hk:Keeps zA w w'):zEi w' B C v n size:=by
 obtain ⟨ad,cap,e,h1⟩:=h;refine ⟨ad,cap,e,fun hn=>?_⟩
 obtain ⟨g,h2,h3,h4,h5⟩:=h1 hn;exact ⟨g,h2,h3,h4,zFO h5 hk (fun h=>h)⟩
theorem zEi.cell {w:World} {B C n size:Nat} {ad:Option Addr} {m cap:Nat} (h:zEi w B C (.slice ad m cap) n size) {k:Nat} (hk:k < n):∃ g,ad=some ⟨g,0,none⟩ /\ B <= g /\ g < C /\ ∀ j,j < size -> ∃ old,w.cell? ⟨g,k*size+j,none⟩=some old /\ w.frozen? ⟨g,k*size+j,none⟩=false:=by
 obtain ⟨ad',cap',e,h1⟩:=h;cases e;obtain ⟨g,h2,h3,h4,h5⟩:=h1 (by omega);refine ⟨g,h2,h3,h4,fun j hj=>?_⟩
 have hlt:k*size+j < n*size:=by
  have:(k+1)*size <= n*size:=vR _ hk
  rw [vM] at this;omega
 obtain ⟨a,b⟩:=h5 _ hlt;rw [yY] at a b;obtain ⟨old,ho⟩:=Option.isSome_iff_exists.1 a;exact ⟨old,ho,b⟩
theorem zB7.slice {e size n:Nat} {w w':World} {cs:List Value} {v:Value} (h:w'.ownsRow 0 e size v n cs):∃ ad cap,v=.slice ad n cap:=by
 rcases h.2 with ⟨e1,e2⟩ | ⟨g,cap,cur,e1,_⟩
 ·exact ⟨none,0,by rw [e1,e2]⟩
 ·exact ⟨_,cap,e1⟩
theorem zJX {w:World} {e n:Nat} {v:Value} {cs:List Value} {size:Nat} (h:w.ownsRow 0 e size v n cs):zu w v n cs:=(zAf.of (B:=0) h (fun _ _=>yJ _)).src
structure LkI (w0 wr:World) (B y:Nat) (s1 s2 s3 s4:Value) (nc no nf:Nat):Prop where
 keep:Keeps (fun q=>B <= q) w0 wr
 row:zC wr y [s1,s2,s3,s4]
 h1:zEi wr B y s1 nc 1
 h2:zEi wr B y s2 no 1
 h3:zEi wr B y s3 nf 1
 h4:zEi wr B y s4 nf 2
theorem LkI.set {w0 wr:World} {B y:Nat} {s1 s2 s3 s4:Value} {nc no nf:Nat} (h:LkI w0 wr B y s1 s2 s3 s4 nc no nf) (p:Addr) (h1:B <= p.block) (h2:p.block < y) (u:Value):LkI w0 (wr.setCell p u) B y s1 s2 s3 s4 nc no nf :=
 ⟨h.keep.setCell (p:=p) (fun _=>h1) u,h.row.other (fun e=>by omega) u,h.h1.set p u,h.h2.set p u,h.h3.set p u,h.h4.set p u⟩
theorem zAf.form {w:World} {B n:Nat} {v:Value} {cs:List Value} (h:zAf w B v n cs):∃ ad cap,v=.slice ad n cap:=by obtain ⟨ad,cap,e,_⟩:=h;exact ⟨ad,cap,e⟩
theorem zu.up {w w':World} {B:Nat} {v:Value} {n:Nat} {cs:List Value} (h:zu w v n cs) (hk:Keeps (fun q=>B <= q) w w') (hB:w.heap.size <= B) (hc:cs.length=0 -> n=0):zu w' v n cs:=by
 obtain ⟨ad,cap,rfl,h1⟩:=h;refine ⟨ad,cap,rfl,fun hn=>?_⟩
 obtain ⟨g,o,e,h2⟩:=h1 hn;refine ⟨g,o,e,fun j u hj=>?_⟩
 have hlt:=xO w _ (h2 j u hj);exact hk.cell (p:=⟨g,o+j,none⟩) (fun hb=>by have hb':B <= g:=hb;have hlt':g < w.heap.size:=hlt;omega) (h2 j u hj)
theorem zCv.up {w w':World} {B:Nat} {c1 c2 c3 c4:Value} {xs ys ss:List Int} {ps:List (Int × Int)} (h:zCv w c1 c2 c3 c4 xs ys ss ps) (hk:Keeps (fun q=>B <= q) w w') (hB:w.heap.size <= B):zCv w' c1 c2 c3 c4 xs ys ss ps :=
 ⟨h.cells.up hk hB (by simp [ints]),h.owners.up hk hB (by simp [ints]),h.sts.up hk hB (by simp [ints]),h.next.up hk hB (by intro e;rw [zA3 zD1 2 (fun _=>rfl)] at e;omega)⟩
theorem zJe (m:ze) (k:Nat) (h:k <= m.zL.length):(zDy m k).length=k:=by simp [zDy];omega
theorem zHz (m:ze) (k:Nat):(zGV m k).length=k:=by simp [zGV]
theorem zDI.src {w w':World} {m:ze} {c1 c2 c3 c4:Value} (h:zDI w m c1 c2 c3 c4 w'):zCv w' c1 c2 c3 c4 m.cells m.owners (zDy m m.zL.length) (zGV m m.zL.length) :=
 ⟨h.cells.src,h.owners.src,by rw [zJe m _ (xC _)];exact h.sts.src,by rw [zHz];exact h.next.src⟩
theorem zFV.out {w w':World} {m:ze} {e:Ending} (h:zFV w m e w'):∃ c1 c2 c3 c4,e=.returned (.agg #[c1,c2,c3,c4]) /\ zDI w m c1 c2 c3 c4 w':=by
 obtain ⟨a1,q1,a2,q2,a3,q3,a4,q4,e,h⟩:=h;exact ⟨_,_,_,_,e,h⟩
def zNT:Value -> Nat
 | .slice _ n _=>n
 | _=>0
def NBO (g0:Nat) (v:Value) (q:Nat):Prop:=q < g0 \/ v.ownBlock=some q
theorem zAq.app {R:zA9 WFr} {sz k:Nat} {ty ty':TypeId} {B:zCb} {D:Nat -> Prop} {w w':World} {b g0 n cap:Nat} {u:Un} {m:ze} {v:Value} {xs:List Value} {ad:Option Addr} (h:zAq R sz ty B D (NBO g0 v) w b u m) (ho:zAM w 0 ty' k v n xs ad cap w') (hD:∀ q,v.ownBlock=some q -> ¬ D q):zAq R sz ty B D (NBO g0 (.slice ad n cap)) w' b u m :=
 (h.zIX (S:=fun q=>v.ownBlock=some q) (ho.keeps (yC _ _) (fun q e _=>e)) (fun q e=>⟨.inr e,hD q e⟩)).mono fun q hq=>by
   rcases hq with hq | hq
   ·exact .inl (.inl hq)
   ·rcases ho.2.2 q hq with e | e
    ·exact .inl (.inr e)
    ·exact .inr ⟨Nat.le_of_eq e.symm,zP ho.1 hq⟩
theorem zCR.app {w w':World} {b g0 n cap sz:Nat} {u:Un} {m:ze} {v:Value} {ty:TypeId} {xs:List Value} {ad:Option Addr} (h:zCR (NBO g0 v) w b u m) (ho:zAM w 0 ty sz v n xs ad cap w'):zCR (NBO g0 (.slice ad n cap)) w' b u m:=zAq.app h ho fun _ _ h=>h
abbrev zC0:Value:=.agg #[.slice none 0 0, .slice none 0 0, .slice none 0 0, .slice none 0 0]
def zOK (w:World) (r:List Evt × ze) (e:Ending) (w':World):Prop :=
 ∃ oa oc a1 q1 a2 q2 a3 q3 a4 q4,e=.returned (.tuple #[.slice oa r.1.length oc, .agg #[.slice a1 r.2.cells.length q1, .slice a2 r.2.owners.length q2, .slice a3 r.2.zL.length q3, .slice a4 r.2.zL.length q4], .int .i64 0]) ∧
   zAf w' w.heap.size (.slice oa r.1.length oc) r.1.length (r.1.flatMap evC) /\ zDI w r.2 (.slice a1 r.2.cells.length q1) (.slice a2 r.2.owners.length q2) (.slice a3 r.2.zL.length q3) (.slice a4 r.2.zL.length q4) w'
section
variable {cs:List Int} {mu:Int} {bs:List Bd} {w:World} {F:Nat -> Prop} {uca uta:Option Addr} {ucc utc:Nat}
theorem zKs (h:zB0 w F cs bs uca uta) (ca:Option Addr) (cc:Nat) (ch:List Int) (hx:zu w (.slice ca ch.length cc) ch.length (ints ch)) (hr:newR ⟨cs,mu,bs⟩=0):Calls Tryz.prog 22 #[.agg #[.slice uca cs.length ucc, .int .i64 mu, .slice uta bs.length utc], .slice ca ch.length cc] w (zOK w (whole ⟨cs,mu,bs⟩ ch)):=by
 have hR:=zBQ hr;have HNW:Hid (∀ W,Keeps zA w W -> Calls Tryz.prog 12 #[.agg #[.slice uca cs.length ucc, .int .i64 mu, .slice uta bs.length utc]] W fun e w'=>∃ b,e=.returned (.tuple #[.pointer (some ⟨b,0,none⟩), .int .i64 0]) /\ zCR (fun q=>q < W.heap.size) w' b ⟨cs,mu,bs⟩ (zAi ⟨cs,mu,bs⟩) /\ Keeps zA W w'):=fun W hk=>(h.zF hk).zLx hr
 obtain ⟨u,hu⟩:∃ u:Un,u=⟨cs,mu,bs⟩:=⟨_,rfl⟩
 rw [<- hu] at HNW hR ⊢;obtain ⟨B,hB⟩:∃ z,z=zDC u (zAi u):=⟨_,rfl⟩
 have HB60:Hid (B <= 60):=by
  show _ <= _
  have h1:=zK2 u
  have h2:unS bs <= 60:=by
   unfold newR zCS at hr;rw [show zW ⟨cs,mu,bs⟩=true by rw [<- hu];exact hR] at hr;revert hr
   simp only [if_true];split
   ·intro e;cases e
   ·intro _;omega
  rw [hu] at h1 hB;have h1:zDC ⟨cs,mu,bs⟩ (zAi ⟨cs,mu,bs⟩) <= unS bs:=h1;omega
 obtain ⟨R,hRR⟩:∃ z,z=whole u ch:=⟨_,rfl⟩
 have HR0:Hid (R=([]++(whN u ch B 0 (zAi u)).1,(whN u ch B 0 (zAi u)).2)):=by show _=_;rw [hRR,hB];rfl
 have HX:Hid (∀ W,Keeps (fun q=>w.heap.size <= q) w W -> zu W (.slice ca ch.length cc) ch.length (ints ch)):=fun W hk=>hx.up hk (xC _) (by simp [ints])
 have HRT:=yB hR;have HPB:Hid (zDC u (zAi u) <= B):=by show _ <= _;rw [hB];exact xC _
 obtain ⟨j0,hj0,hy0,hy1,hy2⟩:=info_parts zNi;rw [<- hRR];clear h hx hr hR hu hB hRR;go_enter Tryz.func22,Tryz.ntmps22
 go_upto_region 1 with fail
 obtain ⟨b1,w1,x1,z1,R1,K1,s1⟩:=newRow w [.slice uca cs.length ucc, .int .i64 mu, .slice uta bs.length utc] 25;try rw [x1]
 try rw [z1]
 obtain ⟨y,w2,x2,z2,R2,K2,s2⟩:=newRow w1 [.slice none 0 0, .slice none 0 0, .slice none 0 0, .slice none 0 0] 50;have n1:b1+1=y:=s1.out.symm.trans x2;try rw [n1]
 try rw [x2]
 try rw [z2]
 have y1:=(R1.keeps K2 (fun h=>h)).zCw;have HRY:=yB R2;have k2:=zH w2;have HK2:Hid (Keeps zA w w2):=K1.zB K2;have HY:Hid (w.heap.size <= y /\ y < w2.heap.size):=⟨by rw [<- x2];exact K1.size,R2.lt (by simp)⟩;have yy:=R2.zBd;have f0:=zN R2 0 (by decide);have f1:=zN R2 1 (by decide);have f2:=zN R2 2 (by decide);have f3:=zN R2 3 (by decide);clear n1 x1 z1 x2 z2 R1 R2 K1 K2 s1 s2;go_upto_region 5 with (go_at_call 12;refine (HNW.out _ HK2.out).mono ?_;rintro e w3 ⟨b,rfl,hm,k3⟩;have HK3:=yB k3;have HM:=yB hm;clear hm k3)
 obtain ⟨g0,hg0⟩:∃ g,g=w2.heap.size:=⟨_,rfl⟩
 have HG0:=yB hg0
 have M3:Hid (zCR (NBO g0 (.slice none 0 0)) w3 b u (zAi u)):=by
  exact J125 _
 have HE:=yB M3.out.enabled;clear hg0 HM y1 yy f0 f1 f2 f3 k2 HNW;go_upto_region 6 with (go_at_call 46;refine HE.out.mono ?_;rintro e w4 ⟨v,rfl,ho,k4,hob⟩;obtain ⟨la,lc,evl⟩:∃ ad cap,v=.slice ad (zBM (zAi u)).length cap:=zB7.slice (w:=w) ho;subst evl;have HSL:=yB (zJX ho);have HK4:=yB k4;clear ho hob k4)
 have M4:=yB (M3.out.zF HK4.out);have HK24:Hid (Keeps (fun q=>g0 <= q) w2 w4):=(HK3.out.zB HK4.out).mono (fun _ _ h=>h.elim);clear HE M3 HK3 HK4;go_loopw [9,10] (fun ov lv wr=>∃ (m:ze) (es:List Evt) (oa:Option Addr) (oc:Nat) (la:Option Addr) (lc ln lo:Nat),ov=.slice oa lo oc /\ lv=.slice la ln lc /\ lo <= 60 /\ Hid (lo=es.length /\ ln=(zBM m).length /\ zu wr (.slice la ln lc) ln (ints (zBM m)) /\ wr.ownsRow 0 40 5 (.slice oa lo oc) lo (es.flatMap evC) /\ (∀ g,(Value.slice oa lo oc).ownBlock=some g -> g0 <= g) /\ zCR (NBO g0 (.slice oa lo oc)) wr b u m /\ Keeps (fun q=>g0 <= q) w2 wr /\ zDC u m+lo <= B /\ ∃ f,zDC u m <= f /\ R=(es++(whN u ch f es.length m).1,(whN u ch f es.length m).2))) (fun ov _ _=>B - zNT ov)
 case atStart=>exact ⟨zAi u,[],none,0,la,lc,_,0,rfl,rfl,yJ _,rfl,rfl,HSL.out,xI _ _ _ _,fun g e=>by exact J182 _,M4.out,HK24.out,HPB.out,B,HPB.out,HR0.out⟩
 case round =>
  obtain ⟨m,es,oa,oc,la,lc,ln,lo,rfl,rfl,hlo,HI⟩:=hrel;clear M4 HSL HK24;obtain ⟨e1,e2,hsl,how,hnew,hmm,hkk,hpot,f,hf,hres⟩:=HI.out;have HKK:=yB hkk;have HM:=yB hmm;have HOW:=yB how;by_cases h0:ln=0
  ·subst h0
   have he:zBM m=[]:=vN e2.symm;have HFIN:Hid (R=(es,m) /\ lo=es.length):=⟨by rw [hres,zMi HRT.out ch he];simp,e1⟩;have HNEW:=yB hnew;have SE:=yB hmm.state;have HRYr:=yB (HRY.out.keeps hkk (fun h=>by exact J241 _));have yy:=HRYr.out.zBd;have f0:=zN HRYr.out 0 (by decide);have f1:=zN HRYr.out 1 (by decide);have f2:=zN HRYr.out 2 (by decide);have f3:=zN HRYr.out 3 (by decide);have HGS:Hid (g0 <= wr.heap.size):=by have:=HG0.out;have:=hkk.size;show _ <= _;omega
   have kr:=zH wr;clear e1 e2 hsl how hnew hmm hkk hpot hf hres he HI
   go_wp2_with (first
    | (go_at_call 64;refine (zKk _ oa lo oc es (by rw [HFIN.out.2] at HOW;exact (by rw [HFIN.out.2];exact HOW.out))).mono ?_;rintro e w5 ⟨rfl,hw⟩;have hw:=hw.symm;subst hw)
    | (go_at_call 37;refine SE.out.mono ?_;rintro e w8 ⟨t1,t2,c3,c4,rfl,hs⟩;obtain ⟨t3,u3,e3⟩:=hs.sts.form;obtain ⟨t4,u4,e4⟩:=hs.next.form;subst e3 e4;have S8:=yB hs;have k8:=hs.keeps;clear hs))
   have K28:Hid (Keeps zA w w8):=(HK2.out.trans HKK.out (fun q hq e=>by exact J192 _)).zB k8;have HKY:=zBF y [.slice t1 m.cells.length m.cells.length, .slice t2 m.owners.length m.owners.length, .slice t3 m.zL.length u3, .slice t4 m.zL.length u4] 0 w8;obtain ⟨R5,K5⟩:=zAX (w:=w) [.slice t1 m.cells.length m.cells.length, .slice t2 m.owners.length m.owners.length, .slice t3 m.zL.length u3, .slice t4 m.zL.length u4] (HRYr.out.keeps k8 (fun h=>h)) rfl K28.out HY.out.1;simp only [zB3,yY,Nat.reduceAdd] at R5 K5 HKY;generalize (((w8.setCell ⟨y,0,none⟩ (.slice t1 m.cells.length m.cells.length)).setCell ⟨y,1,none⟩ (.slice t2 m.owners.length m.owners.length)).setCell ⟨y,2,none⟩ (.slice t3 m.zL.length u3)).setCell ⟨y,3,none⟩ (.slice t4 m.zL.length u4)=wz at R5 K5 HKY ⊢;refine yZ (v:=.tuple #[.slice oa lo lo, .agg #[.slice t1 m.cells.length m.cells.length, .slice t2 m.owners.length m.owners.length, .slice t3 m.zL.length u3, .slice t4 m.zL.length u4], .int .i64 0]) (by simp [results,Tryz.results22,go_sem,R5.cell (k:=0) rfl,R5.cell (k:=1) rfl,R5.cell (k:=2) rfl,R5.cell (k:=3) rfl]) rfl ?_
   obtain ⟨q1,q2⟩:=HFIN.out;subst q1;have hny:∀ q,wr.heap.size <= q -> ¬ (fun q=>q=y) q:=fun q hq e=>by exact J227 _
   have hws:w.heap.size <= wr.heap.size:=J249 _
   have hF:zAf wz w.heap.size (.slice oa lo lo) lo (es.flatMap evC):=by
    have h1:=zAf.of (B:=g0) HOW.out HNEW.out;have h2:=(h1.keeps k8 (fun _ _ h=>h)).keeps HKY (fun q hq e=>by have e':q=y:=e;have:=HY.out.2;have:=HG0.out;omega);obtain ⟨ad,cap,e,c1,c2,c3⟩:=h2.mono (B':=w.heap.size) (by have:=HG0.out;have:=HY.out;omega);cases e;refine ⟨_,lo,rfl,by unfold maxLen;omega,fun e=>?_,c3⟩
    rcases uR lo with h | h
    ·exact h
    ·obtain ⟨g,e2,_⟩:=c3 (by omega)
     rw [e] at e2;cases e2
   rw [q2] at hF ⊢;exact ⟨oa,_,t1,_,t2,_,t3,u3,t4,u4,rfl,hF,K5,(S8.out.cells.keeps HKY hny).mono hws,(S8.out.owners.keeps HKY hny).mono hws,(S8.out.sts.keeps HKY hny).mono hws,(S8.out.next.keeps HKY hny).mono hws⟩
  ·have hlp:0 < ln:=by omega
   have he:zBM m ≠ []:=fun e=>h0 (by rw [e2,e];rfl)
   have h8:ln <= 1000:=by
    have h1:=zJT m m.zL.length;rw [zNF] at h1;have h2:=(zAw HRT.out).2.1;have h3:=hmm.ok.zL;omega
   obtain ⟨f',hw1,hw2,hw3,hw4⟩:=zL4 HRT.out ch (k:=es.length) hmm.ok he hf;have hsx:zu wr (.slice ca ch.length cc) ch.length (ints ch):=HX.out wr (HK2.out.trans hkk (fun q hq e=>by exact J192 _) |>.mono (fun _ _ h=>h.elim));have HCH:=yB (zIq wr ca cc ch lo ln hsx hlp h8);obtain ⟨cc0,hc0⟩:∃ z,z=chN ch lo ln:=⟨_,rfl⟩
   have hclt:cc0 < ln:=by rw [hc0];exact zLu ch lo hlp
   have hsl':zu wr (.slice la ln lc) (zBM m).length (ints (zBM m)):=by rw [<- e2];exact hsl
   obtain ⟨ad,cap,ee,hcl⟩:=hsl'.ints;obtain ⟨gl,ol,el,cl⟩:=hcl cc0 (by omega);simp only [uF] at ee;obtain ⟨rfl,hz,rfl⟩:=ee;clear hz;subst el;obtain ⟨t,ht⟩:∃ z,z=(zBM m).getD cc0 0:=⟨_,rfl⟩
   have HT:Hid (t=whT ch es.length m):=by show _=_;rw [ht,hc0];unfold whT;rw [<- e2,<- e1]
   rw [<- ht] at cl;rw [<- hc0] at HCH;rcases hst:stepM u m t with ⟨m',⟨xt,xk,xo,xv,xb⟩,fl⟩
   have HST:Hid (Calls Tryz.prog 18 #[.pointer (some ⟨b,0,none⟩), .int .i64 t] wr fun e w'=>e=.returned (.tuple #[.agg #[.int .i64 xt, .int .i64 xk, .int .i64 xo, .int .i64 xv, .int .i64 xb], .int .i64 fl]) /\ zCR (NBO g0 (.slice oa lo oc)) w' b u m' /\ Keeps (fun q=>¬ NBO g0 (.slice oa lo oc) q) wr w'):=by
    have h:=hmm.step t;rw [hst] at h;exact h
   have HRES:Hid (R=((es++[(⟨xt,xk,xo,xv,xb⟩:Evt)])++(whN u ch f' (es++[(⟨xt,xk,xo,xv,xb⟩:Evt)]).length m').1,(whN u ch f' (es++[(⟨xt,xk,xo,xv,xb⟩:Evt)]).length m').2) /\ zDC u m' <= f' /\ zDC u m'+(lo+1) <= B /\ lo=es.length):=by
    rw [<- HT.out,hst] at hw1 hw2 hw3;rw [hw1] at hres;exact ⟨by rw [hres];simp,hw2,by have:=hw3;simp only at this;omega,e1⟩
   have HNEW:=yB hnew;have i1:(0:Int) <= cc0:=by omega
   have i2:(cc0:Int) < ln:=by omega
   have kr:=zH wr;clear HI e1 e2 hsl how hnew hmm hkk hpot hf hres he h8 hw1 hw2 hw3 hw4 hsx hsl' hcl ht hc0 hst hclt
   go_upto_region 9 with (first
    | (go_at_call 63;refine HCH.out.mono ?_;rintro e w5 ⟨rfl,rfl⟩)
    | (go_at_call 18;refine HST.out.mono ?_;rintro e w6 ⟨rfl,hm,hk⟩;have M6:=yB hm;have HK6:=yB hk;clear hm hk))
   obtain ⟨yx,w7,x1,x2,RX,KX,sX⟩:=newRow w6 [.int .i64 xt, .int .i64 xk, .int .i64 xo, .int .i64 xv, .int .i64 xb] 40;rw [x1,x2];have M7:=yB (M6.out.zF KX);have HOW7:=yB (zG (zG HOW.out HK6.out (fun q e h=>h (.inr e))) KX (fun _ _ h=>h))
   have K27:Hid (Keeps (fun q=>g0 <= q) w2 w7):=(HKK.out.trans (HK6.out.mono (fun q _ hn=>by
    have hn':¬ q < g0:=fun h=>hn (.inl h)
    show g0 <= q
    omega)) (fun _ _ h=>h)).trans KX (fun _ _ h=>h.elim)
   have yx5:=RX.five;have k7:=zH w7;have lx:yx < w7.heap.size:=RX.lt (by simp);have nx:yx ≠ w7.heap.size:=by omega
   clear x1 x2 KX sX RX M6 HK6 HST HCH cl
   go_wp2_with (first
    | (at_builtin;refine zI _ (by rfl) _ _ 47 (by rfl) 0 40 j0 _ 5 40 Tryz.underlying47 hj0 hy0 hy1 hy2 rfl (by decide) (.slice oa lo oc) lo (es.flatMap evC) (by rfl) (zG HOW7.out ((yC zA _).alloc _) (fun _ _ h=>h)) (.slice (some ⟨w7.heap.size,0,none⟩) 1 1) 1 (evC ⟨xt,xk,xo,xv,xb⟩) (by rfl) (xP (yP (yL _ _))) rfl (by simp [evC,Value.oneCell']) (by unfold maxLen;omega) (by omega) (yJ _) ?_;intro ad9 cap9 w8 hout;have HO:=yB hout;have M8:=yB (zCR.app (M7.out.zF ((yC _ _).alloc _)) hout);clear hout)
    | (go_at_call 46;refine M8.out.enabled.mono ?_;rintro e w9 ⟨v,rfl,ho,k9,hob⟩;obtain ⟨la2,lc2,evl⟩:∃ ad cap,v=.slice ad (zBM m').length cap:=zB7.slice (w:=w) ho;subst evl;have HSL:=yB (zJX ho);have HK9:=yB k9;clear ho hob k9))
   have hB:=HB60.out;obtain ⟨r1,r2,r3,r4⟩:=HRES.out;have hlen:lo+1=(es++[(⟨xt,xk,xo,xv,xb⟩:Evt)]).length:=by rw [xS,r4];rfl
   refine ⟨⟨m',es++[⟨xt,xk,xo,xv,xb⟩],ad9,cap9,la2,lc2,(zBM m').length,lo+1,rfl,rfl,by omega,hlen,rfl,HSL.out,?_,?_,M8.out.zF HK9.out,?_,r3,f',r2,r1⟩,by simp [zNT];omega⟩
   ·rw [show (es++[(⟨xt,xk,xo,xv,xb⟩:Evt)]).flatMap evC=es.flatMap evC++evC ⟨xt,xk,xo,xv,xb⟩ by simp]
    exact zG HO.out.1 HK9.out (fun _ _ h=>h)
   ·intro g e
    rcases HO.out.2.2 g e with h | h
    ·exact HNEW.out g h
    ·have h1:=K27.out.size
     have h2:=HG0.out;simp at h
     omega
   ·exact (HO.out.keeps (K27.out.alloc _) (fun q e _=>HNEW.out q e)).trans HK9.out (fun _ _ h=>h.elim)
end
def stC (x:zDW):List Value:=[.int .i64 x.t, .int .i64 x.c, .int .i64 x.e.thread, .int .i64 x.e.kind, .int .i64 x.e.obj, .int .i64 x.e.value, .int .i64 x.e.bad]
theorem zCB (x:zDW):(stC x).length=7:=rfl
def stZ:zDW:=⟨0,0,Evt.zero⟩
theorem zJV:(Tryz.prog.info? 116).map (fun i=>(i.zero,i.size,i.bytes))=some (some (.agg #[.int .i64 0, .int .i64 0, .int .i64 0, .int .i64 0, .int .i64 0, .int .i64 0, .int .i64 0]),7,56):=by kernel_rfl
theorem zN8 (n:Nat):(madeCells (Value.agg #[.int .i64 0, .int .i64 0, .int .i64 0, .int .i64 0, .int .i64 0, .int .i64 0, .int .i64 0]).cells (n*7)).toList=(List.replicate n stZ).flatMap stC:=by
 apply List.ext_getElem?
 intro k
 have hz:(Value.agg #[.int .i64 0, .int .i64 0, .int .i64 0, .int .i64 0, .int .i64 0, .int .i64 0, .int .i64 0]).cells=#[.int .i64 0, .int .i64 0, .int .i64 0, .int .i64 0, .int .i64 0, .int .i64 0, .int .i64 0]:=rfl;rw [hz];by_cases hk:k < n*7
 ·obtain ⟨i,j,hj,rfl⟩:∃ i j,j < 7 /\ k=i*7+j:=⟨k / 7,k % 7,Nat.mod_lt _ (by decide),by omega⟩
  have hi:i < n:=by omega
  rw [zBu stC 7 zCB (List.replicate n stZ) i j hj];simp only [madeCells,Array.toList_map,Array.toList_range,vT,List.getElem?_range hk,vE,uQ,hi,if_true,yI];have hm:(i*7+j) % 7=j:=by omega
  rcases (show j=0 \/ j=1 \/ j=2 \/ j=3 \/ j=4 \/ j=5 \/ j=6 by omega) with rfl | rfl | rfl | rfl | rfl | rfl | rfl <;> simp [hm,stZ,stC,Evt.zero]
 ·rw [List.getElem?_eq_none (by simp [madeCells];omega),List.getElem?_eq_none]
  rw [zA3 _ 7 zCB];simp
  omega
theorem zDK {w:World} {g i:Nat} {L:List zDW} (h:zC w g (L.flatMap stC)) (j:Nat) (hj:j < 7) (u:Value) {x y:zDW} (hx:L[i]?=some x) (hy:stC y=(stC x).set j u):zC (w.setCell ⟨g,i*7+j,none⟩ u) g ((L.set i y).flatMap stC):=by
 have hi:=(yO.1 hx).1;have:=h.set (i*7+j) (by rw [zA3 _ 7 zCB];omega) u
 rwa [zGP stC 7 zCB L i j hj u x y hx hy] at this
def zNV (w:World) (r:List zDW × ze) (e:Ending) (w':World):Prop :=
 ∃ oa oc a1 q1 a2 q2 a3 q3 a4 q4,e=.returned (.tuple #[.slice oa r.1.length oc, .agg #[.slice a1 r.2.cells.length q1, .slice a2 r.2.owners.length q2, .slice a3 r.2.zL.length q3, .slice a4 r.2.zL.length q4], .int .i64 0]) ∧
   zAf w' w.heap.size (.slice oa r.1.length oc) r.1.length (r.1.flatMap stC) /\ zDI w r.2 (.slice a1 r.2.cells.length q1) (.slice a2 r.2.owners.length q2) (.slice a3 r.2.zL.length q3) (.slice a4 r.2.zL.length q4) w'
section
variable {cs:List Int} {mu:Int} {bs:List Bd} {w:World} {F:Nat -> Prop} {uca uta:Option Addr} {ucc utc:Nat}
theorem zNK (h:zB0 w F cs bs uca uta) (hr:newR ⟨cs,mu,bs⟩ ≠ 0) (v:Value):Calls Tryz.prog 26 #[.agg #[.slice uca cs.length ucc, .int .i64 mu, .slice uta bs.length utc],v] w fun e w'=>e=.returned (.tuple #[.slice none 0 0,zC0, .int .i64 (newR ⟨cs,mu,bs⟩)]) /\ Keeps zA w w':=by
 have HNO:Hid (∀ W,Keeps zA w W -> Calls Tryz.prog 12 #[.agg #[.slice uca cs.length ucc, .int .i64 mu, .slice uta bs.length utc]] W fun e w'=>e=.returned (.tuple #[.pointer none, .int .i64 (newR ⟨cs,mu,bs⟩)]) /\ Keeps zA W w'):=fun W hk=>(h.zF hk).zOa hr
 have hb:(newR ⟨cs,mu,bs⟩ != 0)=true:=uA.2 hr;generalize newR ⟨cs,mu,bs⟩=rr at hb HNO ⊢;clear h hr;go_enter Tryz.func26,Tryz.ntmps26
 go_upto_region 1 with fail
 obtain ⟨b1,w1,x1,z1,R1,K1,s1⟩:=newRow w [.slice uca cs.length ucc, .int .i64 mu, .slice uta bs.length utc] 25;try rw [x1]
 try rw [z1]
 obtain ⟨y,w2,x2,z2,R2,K2,s2⟩:=newRow w1 [.slice none 0 0, .slice none 0 0, .slice none 0 0, .slice none 0 0] 50;have n1:b1+1=y:=s1.out.symm.trans x2;try rw [n1]
 try rw [x2]
 try rw [z2]
 have y1:=(R1.keeps K2 (fun h=>h)).zCw;have HRY:=yB R2;have k2:=zH w2;have HK2:Hid (Keeps zA w w2):=K1.zB K2;have HY:Hid (w.heap.size <= y /\ y < w2.heap.size):=⟨by rw [<- x2];exact K1.size,R2.lt (by simp)⟩;have yy:=R2.zBd;have f0:=zN R2 0 (by decide);have f1:=zN R2 1 (by decide);have f2:=zN R2 2 (by decide);have f3:=zN R2 3 (by decide);clear n1 x1 z1 x2 z2 R1 R2 K1 K2 s1 s2;go_wp2_with (go_at_call 12;refine (HNO.out _ HK2.out).mono ?_;rintro e w3 ⟨rfl,k3⟩;have HK3:=yB k3)
 obtain ⟨R5,K5⟩:=zAX (w:=w) [.slice none 0 0, .slice none 0 0, .slice none 0 0, .slice none 0 0] (HRY.out.keeps HK3.out (fun h=>h)) rfl (HK2.out.zB HK3.out) HY.out.1;simp only [zB3,yY,Nat.reduceAdd] at R5 K5;refine yZ (v:=.tuple #[.slice none 0 0,zC0, .int .i64 rr]) (by simp [results,Tryz.results26,go_sem,R5.cell (k:=0) rfl,R5.cell (k:=1) rfl,R5.cell (k:=2) rfl,R5.cell (k:=3) rfl,zC0]) rfl ⟨rfl,K5⟩
theorem zKh (h:zB0 w F cs bs uca uta) (sa:Option Addr) (sc n:Nat) (hn:1000 < n) (hr:newR ⟨cs,mu,bs⟩=0):Calls Tryz.prog 26 #[.agg #[.slice uca cs.length ucc, .int .i64 mu, .slice uta bs.length utc], .slice sa n sc] w fun e w'=>e=.returned (.tuple #[.slice none 0 0,zC0, .int .i64 230]) /\ Keeps zA w w':=by
 have hR:=zBQ hr;have HNW:Hid (∀ W,Keeps zA w W -> Calls Tryz.prog 12 #[.agg #[.slice uca cs.length ucc, .int .i64 mu, .slice uta bs.length utc]] W fun e w'=>∃ b,e=.returned (.tuple #[.pointer (some ⟨b,0,none⟩), .int .i64 0]) /\ zCR (fun q=>q < W.heap.size) w' b ⟨cs,mu,bs⟩ (zAi ⟨cs,mu,bs⟩) /\ Keeps zA W w'):=fun W hk=>(h.zF hk).zLx hr
 have hb:decide ((1000:Int) < n)=true:=xW (by omega);have hb2:(1000 < n)=True:=eq_true hn;clear h hr hR hn;go_enter Tryz.func26,Tryz.ntmps26
 go_upto_region 1 with fail
 obtain ⟨b1,w1,x1,z1,R1,K1,s1⟩:=newRow w [.slice uca cs.length ucc, .int .i64 mu, .slice uta bs.length utc] 25;try rw [x1]
 try rw [z1]
 obtain ⟨y,w2,x2,z2,R2,K2,s2⟩:=newRow w1 [.slice none 0 0, .slice none 0 0, .slice none 0 0, .slice none 0 0] 50;have n1:b1+1=y:=s1.out.symm.trans x2;try rw [n1]
 try rw [x2]
 try rw [z2]
 have y1:=(R1.keeps K2 (fun h=>h)).zCw;have HRY:=yB R2;have k2:=zH w2;have HK2:Hid (Keeps zA w w2):=K1.zB K2;have HY:Hid (w.heap.size <= y /\ y < w2.heap.size):=⟨by rw [<- x2];exact K1.size,R2.lt (by simp)⟩;have yy:=R2.zBd;have f0:=zN R2 0 (by decide);have f1:=zN R2 1 (by decide);have f2:=zN R2 2 (by decide);have f3:=zN R2 3 (by decide);clear n1 x1 z1 x2 z2 R1 R2 K1 K2 s1 s2;go_wp2_with (go_at_call 12;refine (HNW.out _ HK2.out).mono ?_;rintro e w3 ⟨b,rfl,hm,k3⟩;have HK3:=yB k3;clear hm)
 obtain ⟨R5,K5⟩:=zAX (w:=w) [.slice none 0 0, .slice none 0 0, .slice none 0 0, .slice none 0 0] (HRY.out.keeps HK3.out (fun h=>h)) rfl (HK2.out.zB HK3.out) HY.out.1;simp only [zB3,yY,Nat.reduceAdd] at R5 K5;refine yZ (v:=.tuple #[.slice none 0 0,zC0, .int .i64 230]) (by simp [results,Tryz.results26,go_sem,zC0,R5.cell (k:=0) rfl,R5.cell (k:=1) rfl,R5.cell (k:=2) rfl,R5.cell (k:=3) rfl]) rfl ⟨rfl,K5⟩
theorem zMU (h:zB0 w F cs bs uca uta) (sa:Option Addr) (sc:Nat) (ts:List Int) (hx:zu w (.slice sa ts.length sc) ts.length (ints ts)) (hn:ts.length <= 1000) (hr:newR ⟨cs,mu,bs⟩=0):Calls Tryz.prog 26 #[.agg #[.slice uca cs.length ucc, .int .i64 mu, .slice uta bs.length utc], .slice sa ts.length sc] w (zNV w (plN ⟨cs,mu,bs⟩ (zAi ⟨cs,mu,bs⟩) ts)):=by
 have hR:=zBQ hr;have HNW:Hid (∀ W,Keeps zA w W -> Calls Tryz.prog 12 #[.agg #[.slice uca cs.length ucc, .int .i64 mu, .slice uta bs.length utc]] W fun e w'=>∃ b,e=.returned (.tuple #[.pointer (some ⟨b,0,none⟩), .int .i64 0]) /\ zCR (fun q=>q < W.heap.size) w' b ⟨cs,mu,bs⟩ (zAi ⟨cs,mu,bs⟩) /\ Keeps zA W w'):=fun W hk=>(h.zF hk).zLx hr
 obtain ⟨u,hu⟩:∃ u:Un,u=⟨cs,mu,bs⟩:=⟨_,rfl⟩
 rw [<- hu] at HNW hR ⊢;have HX:Hid (∀ W,Keeps (fun q=>w.heap.size <= q) w W -> zu W (.slice sa ts.length sc) ts.length (ints ts)):=fun W hk=>hx.up hk (xC _) (by simp [ints])
 obtain ⟨n,hnn⟩:∃ z,z=ts.length:=⟨_,rfl⟩
 have HN:=yB hnn;rw [<- hnn] at hn HX ⊢;have hb:decide ((1000:Int) < n)=false:=xL (by omega);have hb2:(1000 < n)=False:=eq_false (by omega);obtain ⟨j0,hj0,hy0,hy1,hy2⟩:=info_parts zJV;clear h hx hr hR hu hnn;go_enter Tryz.func26,Tryz.ntmps26
 go_upto_region 1 with fail
 obtain ⟨b1,w1,x1,z1,R1,K1,s1⟩:=newRow w [.slice uca cs.length ucc, .int .i64 mu, .slice uta bs.length utc] 25;try rw [x1]
 try rw [z1]
 obtain ⟨y,w2,x2,z2,R2,K2,s2⟩:=newRow w1 [.slice none 0 0, .slice none 0 0, .slice none 0 0, .slice none 0 0] 50;have n1:b1+1=y:=s1.out.symm.trans x2;try rw [n1]
 try rw [x2]
 try rw [z2]
 have y1:=(R1.keeps K2 (fun h=>h)).zCw;have HRY:=yB R2;have k2:=zH w2;have HK2:Hid (Keeps zA w w2):=K1.zB K2;have HY:Hid (w.heap.size <= y /\ y < w2.heap.size):=⟨by rw [<- x2];exact K1.size,R2.lt (by simp)⟩;have yy:=R2.zBd;have f0:=zN R2 0 (by decide);have f1:=zN R2 1 (by decide);have f2:=zN R2 2 (by decide);have f3:=zN R2 3 (by decide);clear n1 x1 z1 x2 z2 R1 R2 K1 K2 s1 s2;go_upto_region 6 with (go_at_call 12;refine (HNW.out _ HK2.out).mono ?_;rintro e w3 ⟨b,rfl,hm,k3⟩;have HK3:=yB k3;have HM:=yB hm;clear hm k3)
 obtain ⟨g0,hg0⟩:∃ g,g=w2.heap.size:=⟨_,rfl⟩
 have HG0:=yB hg0;clear hg0 y1 yy f0 f1 f2 f3 k2 HNW;go_upto_region 7 with (refine wpList_make_full _ rfl _ _ _ rfl 0 116 j0 _ 7 Tryz.underlying55 hj0 hy0 hy1 _ _ _ _ n (by rfl) (by rfl) rfl rfl (by rw [hy2];omega) (by unfold maxLen;omega) (yJ _) ?_;intro w4 hown hgr;rw [zN8] at hown;have HOW:=yB hown;have HK4:Hid (Keeps zA w3 w4):=(yC _ _).grown hgr (fun k e=>by cases e);clear hown hgr)
 obtain ⟨go,hgo⟩:∃ z,z=w3.heap.size:=⟨_,rfl⟩
 rw [<- hgo] at HOW ⊢
 have M4:Hid (zCR (fun q=>q < g0 \/ q=go) w4 b u (zAi u)):=by
  have h1:=HM.out.fresh HK4.out;refine h1.mono (fun q hq=>?_)
  rcases hq with h | h
  ·left;show q < _;have:=HG0.out;omega
  ·exact .inr ⟨by omega,by rw [h];exact zP HOW.out rfl⟩
 have HGO:Hid (g0 <= go):=by have:=HG0.out;have:=HK3.out.size;show _ <= _;omega
 have HR4:Hid (zC w4 go ((([]:List zDW)++List.replicate n stZ).flatMap stC)):=uJ HOW.out;have HK24:Hid (Keeps (fun q=>g0 <= q) w2 w4):=(HK3.out.zB HK4.out).mono (fun _ _ h=>h.elim);clear HOW HM hgo HK3 HK4;go_wp2_with fail
 go_loopw [30] (fun iv wr=>∃ k:Nat,k <= n /\ iv=.int .i64 k /\ Hid (zC wr go (((plN u (zAi u) (ts.take k)).1++List.replicate (n - k) stZ).flatMap stC) /\ zCR (fun q=>q < g0 \/ q=go) wr b u (plN u (zAi u) (ts.take k)).2 /\ Keeps (fun q=>g0 <= q) w2 wr)) (fun iv _=>n - (intOf iv).toNat)
 case atStart=>exact ⟨0,yJ _,rfl,HR4.out,M4.out,HK24.out⟩
 case round =>
  obtain ⟨k,hk,rfl,HI⟩:=hrel;clear HR4 M4 HK24;by_cases hlt:k < n
  ·have HRW:=yB HI.out.1
   have HMK:=yB HI.out.2.1;have HKK:=yB HI.out.2.2;have i1:(0:Int) <= k:=by omega
   have i2:(k:Int) < n:=by omega
   have hsx:zu wr (.slice sa n sc) n (ints ts):=HX.out wr (HK2.out.trans HKK.out (fun q hq e=>by exact J192 _) |>.mono (fun _ _ h=>h.elim));have hsx':zu wr (.slice sa n sc) ts.length (ints ts):=by rw [<- HN.out];exact hsx
   obtain ⟨ad,cap,ee,hcl⟩:=hsx'.ints;obtain ⟨gs,os,es,cs0⟩:=hcl k (by rw [<- HN.out];exact hlt);simp only [uF] at ee;obtain ⟨rfl,hz,rfl⟩:=ee;clear hz;subst es;obtain ⟨t,ht⟩:∃ z,z=ts.getD k 0:=⟨_,rfl⟩
   rw [<- ht] at cs0;obtain ⟨m,hm⟩:∃ z,z=(plN u (zAi u) (ts.take k)).2:=⟨_,rfl⟩
   obtain ⟨D,hD⟩:∃ z,z=(plN u (zAi u) (ts.take k)).1:=⟨_,rfl⟩
   rw [<- hm] at HMK;rw [<- hD] at HRW;have HDL:Hid (D.length=k):=by show _=_;rw [hD,zFZ,uO];have:=HN.out;omega
   have HTK:Hid (plN u (zAi u) (ts.take (k+1))=(D++[⟨t,(stepM u m t).2.2,(stepM u m t).2.1⟩],(stepM u m t).1)):=by
    show _=_
    have hlt2:k < ts.length:=by rw [<- HN.out];exact hlt
    have e:ts.take (k+1)=ts.take k++[t]:=by rw [List.take_add_one,ht];simp [hlt2,List.getD]
    rw [e,zHv,<- hm,<- hD]
   obtain ⟨L0,hL0⟩:∃ z,z=D++List.replicate (n - k) stZ:=⟨_,rfl⟩
   have h0:L0[k]?=some stZ:=by
    rw [hL0,xG (by rw [HDL.out];exact xC _),HDL.out,yi,uQ,if_pos (by omega)]
   have HL0:=yB hL0;rw [<- hL0] at HRW;have hk0:k < L0.length:=(yO.1 h0).1;have HH0:Hid (L0[k]?=some stZ /\ k < L0.length):=⟨h0,hk0⟩;have hc0:∀ j,j < 7 -> k*7+j < (L0.flatMap stC).length:=fun j hj=>by rw [zA3 _ 7 zCB];omega
   have fr:=zN HRW.out;have c0:∀ W,Keeps zA wr W -> W.cell? ⟨go,k*7,none⟩=some (.int .i64 0):=zT (HRW.out.cell (by have:=zBu stC 7 zCB L0 k 0 (by decide);rw [h0] at this;exact this))
   have f0:∀ W,Keeps zA wr W -> W.frozen? ⟨go,k*7,none⟩=false:=fr (k*7+0) (hc0 0 (by decide))
   have kr:=zH wr;clear HI hk hsx hsx' hcl ht hm hD hL0 h0 hk0 fr hc0;go_upto_region 11 with fail
   have HR1:=yB (zDK HRW.out 0 (by decide) (.int .i64 t) (y:=⟨t,0,Evt.zero⟩) HH0.out.1 rfl);have HK1':Hid (Keeps (fun q=>q=go) wr (wr.setCell ⟨go,k*7,none⟩ (.int .i64 t))):=(yC (fun q=>q=go) wr).setCell (p:=⟨go,k*7,none⟩) (fun _=>rfl) _;have HR1:Hid (zC (wr.setCell ⟨go,k*7,none⟩ (.int .i64 t)) go ((L0.set k ⟨t,0,Evt.zero⟩).flatMap stC)):=HR1;generalize wr.setCell ⟨go,k*7,none⟩ (.int .i64 t)=w5 at HR1 HK1' ⊢;have M5:=yB (HMK.out.zL3 (HK1'.out.mono (fun q _ e=>.inr e)));rcases hst:stepM u m t with ⟨m',⟨xt,xk,xo,xv,xb⟩,fl⟩;rw [hst] at HTK
   have HST:Hid (Calls Tryz.prog 18 #[.pointer (some ⟨b,0,none⟩), .int .i64 t] w5 fun e w'=>e=.returned (.tuple #[.agg #[.int .i64 xt, .int .i64 xk, .int .i64 xo, .int .i64 xv, .int .i64 xb], .int .i64 fl]) /\ zCR (fun q=>q < g0 \/ q=go) w' b u m' /\ Keeps (fun q=>¬ (q < g0 \/ q=go)) w5 w'):=by
    have h:=M5.out.step t;rw [hst] at h;exact h
   obtain ⟨L1,hL1⟩:∃ z,z=L0.set k ⟨t,0,Evt.zero⟩:=⟨_,rfl⟩
   have h1:L1[k]?=some ⟨t,0,Evt.zero⟩:=by rw [hL1];exact yU HH0.out.2
   rw [<- hL1] at HR1;have HL1:Hid (L1=L0.set k ⟨t,0,Evt.zero⟩ /\ L1[k]?=some ⟨t,0,Evt.zero⟩ /\ k < L1.length):=⟨hL1,h1,(yO.1 h1).1⟩;have k5:=zH w5;clear hst c0 f0 cs0 hL1 h1 kr;go_wp2_with (go_at_call 18;refine HST.out.mono ?_;rintro e w6 ⟨rfl,hm,hkk⟩;have M6:=yB hm;have HK6:=yB hkk;have HR6:Hid (zC w6 go (L1.flatMap stC)):=HR1.out.keeps hkk (fun h=>h (.inr rfl));have k6:=zH w6;have hc1:∀ j,j < 7 -> k*7+j < (L1.flatMap stC).length:=(fun j hj=>by rw [zA3 _ 7 zCB];have:=HL1.out.2.2;omega);have fr:=zN HR6.out;have f1:=fr (k*7+1) (hc1 1 (by decide));have f2:=fr (k*7+2) (hc1 2 (by decide));have f3:=fr (k*7+3) (hc1 3 (by decide));have f4:=fr (k*7+4) (hc1 4 (by decide));have f5:=fr (k*7+5) (hc1 5 (by decide));have f6:=fr (k*7+6) (hc1 6 (by decide));have gc:=(fun j (hj:j < 7)=>zBu stC 7 zCB L1 k j hj);rw [HL1.out.2.1] at gc;have c1:=zT (HR6.out.cell (gc 1 (by decide)));have c2:=zT (HR6.out.cell (gc 2 (by decide)));have c3:=zT (HR6.out.cell (gc 3 (by decide)));have c4:=zT (HR6.out.cell (gc 4 (by decide)));have c5:=zT (HR6.out.cell (gc 5 (by decide)));have c6:=zT (HR6.out.cell (gc 6 (by decide)));clear hm hkk fr hc1 gc)
   have p0:=zDK HR6.out 2 (by decide) (.int .i64 xt) (y:=⟨t,0,⟨xt,0,0,0,0⟩⟩) (HL1.out.2.1) rfl;have p1:=zDK p0 3 (by decide) (.int .i64 xk) (y:=⟨t,0,⟨xt,xk,0,0,0⟩⟩) (yU (J193 _)) rfl;have p2:=zDK p1 4 (by decide) (.int .i64 xo) (y:=⟨t,0,⟨xt,xk,xo,0,0⟩⟩) (yU (J193 _)) rfl;have p3:=zDK p2 5 (by decide) (.int .i64 xv) (y:=⟨t,0,⟨xt,xk,xo,xv,0⟩⟩) (yU (J193 _)) rfl;have p4:=zDK p3 6 (by decide) (.int .i64 xb) (y:=⟨t,0,⟨xt,xk,xo,xv,xb⟩⟩) (yU (J193 _)) rfl;have p5:=zDK p4 1 (by decide) (.int .i64 fl) (y:=⟨t,fl,⟨xt,xk,xo,xv,xb⟩⟩) (yU (J193 _)) rfl;simp only [vZ] at p5;have K67:Keeps (fun q=>q=go) w6 ((((((w6.setCell ⟨go,k*7+2,none⟩ (.int .i64 xt)).setCell ⟨go,k*7+2+1,none⟩ (.int .i64 xk)).setCell ⟨go,k*7+2+2,none⟩ (.int .i64 xo)).setCell ⟨go,k*7+2+3,none⟩ (.int .i64 xv)).setCell ⟨go,k*7+2+4,none⟩ (.int .i64 xb)).setCell ⟨go,k*7+1,none⟩ (.int .i64 fl)):=(((((((yC (fun q=>q=go) w6).setCell (p:=⟨go,k*7+2,none⟩) (fun _=>rfl) (.int .i64 xt)).setCell (p:=⟨go,k*7+2+1,none⟩) (fun _=>rfl) (.int .i64 xk)).setCell (p:=⟨go,k*7+2+2,none⟩) (fun _=>rfl) (.int .i64 xo)).setCell (p:=⟨go,k*7+2+3,none⟩) (fun _=>rfl) (.int .i64 xv)).setCell (p:=⟨go,k*7+2+4,none⟩) (fun _=>rfl) (.int .i64 xb)).setCell (p:=⟨go,k*7+1,none⟩) (fun _=>rfl) (.int .i64 fl));have p5:zC ((((((w6.setCell ⟨go,k*7+2,none⟩ (.int .i64 xt)).setCell ⟨go,k*7+2+1,none⟩ (.int .i64 xk)).setCell ⟨go,k*7+2+2,none⟩ (.int .i64 xo)).setCell ⟨go,k*7+2+3,none⟩ (.int .i64 xv)).setCell ⟨go,k*7+2+4,none⟩ (.int .i64 xb)).setCell ⟨go,k*7+1,none⟩ (.int .i64 fl)) go ((L1.set k ⟨t,fl,⟨xt,xk,xo,xv,xb⟩⟩).flatMap stC):=p5;generalize ((((((w6.setCell ⟨go,k*7+2,none⟩ (.int .i64 xt)).setCell ⟨go,k*7+2+1,none⟩ (.int .i64 xk)).setCell ⟨go,k*7+2+2,none⟩ (.int .i64 xo)).setCell ⟨go,k*7+2+3,none⟩ (.int .i64 xv)).setCell ⟨go,k*7+2+4,none⟩ (.int .i64 xb)).setCell ⟨go,k*7+1,none⟩ (.int .i64 fl))=w7 at p5 K67 ⊢
   have eL:L1.set k ⟨t,fl,⟨xt,xk,xo,xv,xb⟩⟩=(D++[(⟨t,fl,⟨xt,xk,xo,xv,xb⟩⟩:zDW)])++List.replicate (n - (k+1)) stZ:=by
    rw [HL1.out.1,vZ,HL0.out,vG _ _ (by rw [HDL.out];exact xC _),HDL.out,yi];obtain ⟨q,hq⟩:∃ q,n - k=q+1:=⟨n - k - 1,by omega⟩
    rw [hq,List.replicate_succ,show n - (k+1)=q by omega,List.append_assoc];rfl
   rw [eL] at p5
   have hkk:Keeps (fun q=>g0 <= q) w2 w7:=(((HKK.out.trans (HK1'.out.mono (fun q _ e=>by have e':q=go:=e;have:=HGO.out;show g0 <= q;omega)) (fun _ _ h=>h)).trans (HK6.out.mono (fun q _ hn=>by
    have hn':¬ q < g0:=fun h=>hn (.inl h)
    show g0 <= q
    omega)) (fun _ _ h=>h))).trans (K67.mono (fun q _ e=>by have e':q=go:=e;have:=HGO.out;show g0 <= q;omega)) (fun _ _ h=>h)
   refine ⟨⟨k+1,by omega,by go_num,?_,?_,hkk⟩,by simp [intOf];omega⟩
   ·rw [HTK.out];exact p5
   ·rw [HTK.out];exact M6.out.zL3 (K67.mono (fun q _ e=>.inr e))
  ·have hkn:k=n:=by omega
   subst hkn;have HRW:=yB HI.out.1;have HMK:=yB HI.out.2.1;have HKK:=yB HI.out.2.2;have htk:ts.take k=ts:=by rw [HN.out];exact xV
   rw [htk,yi,List.replicate_zero,List.append_nil] at HRW;rw [htk] at HMK;obtain ⟨m,hm⟩:∃ z,z=(plN u (zAi u) ts).2:=⟨_,rfl⟩
   obtain ⟨D,hD⟩:∃ z,z=(plN u (zAi u) ts).1:=⟨_,rfl⟩
   have HPL:Hid (plN u (zAi u) ts=(D,m) /\ D.length=k):=⟨by rw [hm,hD],by rw [hD,zFZ];exact HN.out.symm⟩;rw [<- hm] at HMK;rw [<- hD] at HRW;have SE:=yB HMK.out.state;have HRYr:=yB (HRY.out.keeps HKK.out (fun h=>by exact J241 _));have yy:=HRYr.out.zBd;have f0:=zN HRYr.out 0 (by decide);have f1:=zN HRYr.out 1 (by decide);have f2:=zN HRYr.out 2 (by decide);have f3:=zN HRYr.out 3 (by decide);have HGS:Hid (g0 <= wr.heap.size):=by have:=HG0.out;have:=HKK.out.size;show _ <= _;omega
   have kr:=zH wr;clear hlt hk htk hm hD HI;go_wp2_with (go_at_call 37;refine SE.out.mono ?_;rintro e w8 ⟨t1,t2,c3,c4,rfl,hs⟩;obtain ⟨t3,u3,e3⟩:=hs.sts.form;obtain ⟨t4,u4,e4⟩:=hs.next.form;subst e3 e4;have S8:=yB hs;have k8:=hs.keeps;clear hs)
   have K28:Hid (Keeps zA w w8):=(HK2.out.trans HKK.out (fun q hq e=>by exact J192 _)).zB k8;have HKY:=zBF y [.slice t1 m.cells.length m.cells.length, .slice t2 m.owners.length m.owners.length, .slice t3 m.zL.length u3, .slice t4 m.zL.length u4] 0 w8;obtain ⟨R5,K5⟩:=zAX (w:=w) [.slice t1 m.cells.length m.cells.length, .slice t2 m.owners.length m.owners.length, .slice t3 m.zL.length u3, .slice t4 m.zL.length u4] (HRYr.out.keeps k8 (fun h=>h)) rfl K28.out HY.out.1;simp only [zB3,yY,Nat.reduceAdd] at R5 K5 HKY;generalize (((w8.setCell ⟨y,0,none⟩ (.slice t1 m.cells.length m.cells.length)).setCell ⟨y,1,none⟩ (.slice t2 m.owners.length m.owners.length)).setCell ⟨y,2,none⟩ (.slice t3 m.zL.length u3)).setCell ⟨y,3,none⟩ (.slice t4 m.zL.length u4)=wz at R5 K5 HKY ⊢;refine yZ (v:=.tuple #[.slice (some ⟨go,0,none⟩) k k, .agg #[.slice t1 m.cells.length m.cells.length, .slice t2 m.owners.length m.owners.length, .slice t3 m.zL.length u3, .slice t4 m.zL.length u4], .int .i64 0]) (by simp [results,Tryz.results26,go_sem,R5.cell (k:=0) rfl,R5.cell (k:=1) rfl,R5.cell (k:=2) rfl,R5.cell (k:=3) rfl]) rfl ?_
   obtain ⟨q1,q2⟩:=HPL.out;rw [q1];have hny:∀ q,wr.heap.size <= q -> ¬ (fun q=>q=y) q:=fun q hq e=>by exact J227 _
   have hws:w.heap.size <= wr.heap.size:=J249 _;have hgy:¬ go=y:=by have:=HGO.out;have:=HY.out.2;have:=HG0.out;omega
   have hF:zAf wz w.heap.size (.slice (some ⟨go,0,none⟩) k k) k (D.flatMap stC):=by
    refine ⟨some ⟨go,0,none⟩,k,rfl,by unfold maxLen;omega,fun e=>(by cases e),fun _=>⟨go,rfl,?_,(HRW.out.keeps k8 (fun h=>h)).keeps HKY hgy⟩⟩
    have:=HGO.out;have:=HG0.out;have:=HY.out;omega
   rw [<- q2] at hF ⊢;exact ⟨_,_,t1,_,t2,_,t3,u3,t4,u4,rfl,hF,K5,(S8.out.cells.keeps HKY hny).mono hws,(S8.out.owners.keeps HKY hny).mono hws,(S8.out.sts.keeps HKY hny).mono hws,(S8.out.next.keeps HKY hny).mono hws⟩
end
end Go.Proofs.YtfjgcedkfnmdkaaGreatDoor
