/- Layer K: texts joined. -/
import Derived.Test.YtfokdllgnblamaaGreatDoorK44
set_option linter.all false
set_option maxHeartbeats 8000000
set_option maxRecDepth 20000
namespace Go.Proofs.YtfokdllgnblamaaGreatDoor
open Go.RowKit
theorem J119 (P:Prop) (h:P:=by
 go_wp2_with fail
 exact ⟨⟨k+1,by omega,by go_num,hI.out.set ⟨g,k,none⟩ HG.out.1 HG.out.2 _⟩,by simp [intOf];omega⟩):P:=h
def zC0 (w:World) (B C:Nat) (v:Value) (n size:Nat):Prop :=
 ∃ ad cap,v=.slice ad n cap /\ (n ≠ 0 -> ∃ g,ad=some ⟨g,0,none⟩ /\ B <= g /\ g < C /\ w.there g 0 (n*size))
theorem zC0.of {w:World} {B C n size:Nat} {v:Value} {cs:List Value} (h:zAt w B v n cs) (hl:cs.length=n*size) (hs:0 < size) (hC:w.heap.size <= C):zC0 w B C v n size:=by
 obtain ⟨ad,cap,e,_,_,h1⟩:=h;refine ⟨ad,cap,e,fun hn=>?_⟩
 obtain ⟨g,h2,h3,h4⟩:=h1 hn;refine ⟨g,h2,h3,yI (h4.lt (fun e=>?_)) hC,by rw [<- hl];exact h4.thr⟩
 rw [e] at hl;simp at hl
 have:n*size ≠ 0:=Nat.mul_ne_zero hn (by omega)
 omega
theorem zC0.set {w:World} {B C n size:Nat} {v:Value} (h:zC0 w B C v n size) (p:Addr) (u:Value):zC0 (w.setCell p u) B C v n size:=by
 obtain ⟨ad,cap,e,h1⟩:=h;refine ⟨ad,cap,e,fun hn=>?_⟩
 obtain ⟨g,h2,h3,h4,h5⟩:=h1 hn;refine ⟨g,h2,h3,h4,fun j hj=>?_⟩
 obtain ⟨a,b⟩:=h5 j hj;refine ⟨?_,by rw [World.frozen?_setCell];exact b⟩
 by_cases e:p=⟨g,0+j,none⟩
 ·subst e
  rw [World.cell?_setCell_same' _ _ _ a];rfl
 ·rw [uX _ _ _ _ e];exact a
theorem zC0.zD {w w':World} {B C n size:Nat} {v:Value} (h:zC0 w B C v n size) (hk:Keeps zA w w'):zC0 w' B C v n size:=by
 obtain ⟨ad,cap,e,h1⟩:=h;refine ⟨ad,cap,e,fun hn=>?_⟩
 obtain ⟨g,h2,h3,h4,h5⟩:=h1 hn;exact ⟨g,h2,h3,h4,zFT h5 hk (fun h=>h)⟩
theorem zC0.cell {w:World} {B C n size:Nat} {ad:Option Addr} {m cap:Nat} (h:zC0 w B C (.slice ad m cap) n size) {k:Nat} (hk:k < n):∃ g,ad=some ⟨g,0,none⟩ /\ B <= g /\ g < C /\ ∀ j,j < size -> ∃ old,w.cell? ⟨g,k*size+j,none⟩=some old /\ w.frozen? ⟨g,k*size+j,none⟩=false:=by
 obtain ⟨ad',cap',e,h1⟩:=h;cases e;obtain ⟨g,h2,h3,h4,h5⟩:=h1 (by omega);refine ⟨g,h2,h3,h4,fun j hj=>?_⟩
 have hlt:k*size+j < n*size:=by
  have:(k+1)*size <= n*size:=vC _ hk
  rw [uY] at this;omega
 obtain ⟨a,b⟩:=h5 _ hlt;rw [yZ] at a b;obtain ⟨old,ho⟩:=yd.1 a;exact ⟨old,ho,b⟩
theorem zBk.slice {e size n:Nat} {w w':World} {cs:List Value} {v:Value} (h:w'.ownsRow 0 e size v n cs):∃ ad cap,v=.slice ad n cap:=by
 rcases h.2 with ⟨e1,e2⟩ | ⟨g,cap,cur,e1,_⟩
 ·exact ⟨none,0,by rw [e1,e2]⟩
 ·exact ⟨_,cap,e1⟩
theorem zEh {w:World} {e n:Nat} {v:Value} {cs:List Value} {size:Nat} (h:w.ownsRow 0 e size v n cs):zAD w v n cs:=(zAt.of (B:=0) h (fun _ _=>yJ _)).src
theorem zIr {w:World} {g n:Nat} (h:w.there g 0 n):∃ L:List Value,L.length=n /\ ∀ j u,L[j]?=some u -> w.cell? ⟨g,j,none⟩=some u:=by
 refine ⟨(List.range n).map fun j=>(w.cell? ⟨g,j,none⟩).getD undef,by simp,fun j u hj=>?_⟩
 rw [kY] at hj;obtain ⟨k,hk,e⟩:=vX.1 hj;have hlt:j < n:=by have:=(yP.1 hk).1;simpa using this
 rw [List.getElem?_range hlt] at hk;cases hk;obtain ⟨a,_⟩:=h j hlt;rw [yZ] at a;obtain ⟨v,hv⟩:=yd.1 a;rw [hv] at e ⊢;simpa using e
theorem zC0.olds {w:World} {B C n cap:Nat} {ad:Option Addr} (h:zC0 w B C (.slice ad n cap) n 1):(ad=none -> n=0) /\ ∃ L:List Value,L.length=n*1 /\ ∀ b,ad=some b -> ∀ j u,L[j]?=some u -> w.cell? (b.add j)=some u:=by
 obtain ⟨ad',cap',e,h1⟩:=h;cases e;by_cases hn:n=0
 ·exact ⟨fun _=>hn,[],by simp [hn],fun b _ j u hj=>by simp at hj⟩
 ·obtain ⟨g,rfl,_,_,ht⟩:=h1 hn
  refine ⟨fun e=>(by cases e),?_⟩
  obtain ⟨L,hL,hc⟩:=zIr ht;refine ⟨L,hL,fun b e j u hj=>?_⟩
  cases e;rw [Addr.add_lit,yZ];exact hc j u hj
structure LkI (w0 wr:World) (B y:Nat) (s1 s2 s3 s4:Value) (nc no nf:Nat):Prop where
 keep:Keeps (fun q=>B <= q) w0 wr
 row:zC wr y [s1,s2,s3,s4]
 h1:zC0 wr B y s1 nc 1
 h2:zC0 wr B y s2 no 1
 h3:zC0 wr B y s3 nf 1
 h4:zC0 wr B y s4 nf 2
theorem LkI.set {w0 wr:World} {B y:Nat} {s1 s2 s3 s4:Value} {nc no nf:Nat} (h:LkI w0 wr B y s1 s2 s3 s4 nc no nf) (p:Addr) (h1:B <= p.block) (h2:p.block < y) (u:Value):LkI w0 (wr.setCell p u) B y s1 s2 s3 s4 nc no nf :=
 ⟨h.keep.setCell (p:=p) (fun _=>h1) u,h.row.other (fun e=>by omega) u,h.h1.set p u,h.h2.set p u,h.h3.set p u,h.h4.set p u⟩
theorem zAt.form {w:World} {B n:Nat} {v:Value} {cs:List Value} (h:zAt w B v n cs):∃ ad cap,v=.slice ad n cap:=by obtain ⟨ad,cap,e,_⟩:=h;exact ⟨ad,cap,e⟩
theorem zAD.up {w w':World} {B:Nat} {v:Value} {n:Nat} {cs:List Value} (h:zAD w v n cs) (hk:Keeps (fun q=>B <= q) w w') (hB:w.heap.size <= B) (hc:cs.length=0 -> n=0):zAD w' v n cs:=by
 obtain ⟨ad,cap,rfl,h1⟩:=h;refine ⟨ad,cap,rfl,fun hn=>?_⟩
 obtain ⟨g,o,e,h2⟩:=h1 hn;refine ⟨g,o,e,fun j u hj=>?_⟩
 have hlt:=xP w _ (h2 j u hj);exact hk.cell (p:=⟨g,o+j,none⟩) (fun hb=>by have hb':B <= g:=hb;have hlt':g < w.heap.size:=hlt;omega) (h2 j u hj)
theorem zC1.up {w w':World} {B:Nat} {c1 c2 c3 c4:Value} {xs ys ss:List Int} {ps:List (Int × Int)} (h:zC1 w c1 c2 c3 c4 xs ys ss ps) (hk:Keeps (fun q=>B <= q) w w') (hB:w.heap.size <= B):zC1 w' c1 c2 c3 c4 xs ys ss ps :=
 ⟨h.cells.up hk hB (by simp [ints]),h.owners.up hk hB (by simp [ints]),h.sts.up hk hB (by simp [ints]),h.next.up hk hB (by intro e;rw [zBw zDl 2 (fun _=>rfl)] at e;omega)⟩
theorem zFj (m:zm) (k:Nat) (h:k <= m.zM.length):(zD6 m k).length=k:=by simp [zD6];omega
theorem zGG (m:zm) (k:Nat):(zF5 m k).length=k:=by simp [zF5]
theorem zEY.src {w w':World} {m:zm} {c1 c2 c3 c4:Value} (h:zEY w m c1 c2 c3 c4 w'):zC1 w' c1 c2 c3 c4 m.cells m.owners (zD6 m m.zM.length) (zF5 m m.zM.length) :=
 ⟨h.cells.src,h.owners.src,by rw [zFj m _ (yV _)];exact h.sts.src,by rw [zGG];exact h.next.src⟩
theorem zEp.out {w w':World} {m:zm} {e:Ending} (h:zEp w m e w'):∃ c1 c2 c3 c4,e=.returned (.agg #[c1,c2,c3,c4]) /\ zEY w m c1 c2 c3 c4 w':=by
 obtain ⟨a1,q1,a2,q2,a3,q3,a4,q4,e,h⟩:=h;exact ⟨_,_,_,_,e,h⟩
theorem zFQ (w:World) (v1 v2:Value) (xs ys:List Int) (h1:zAD w v1 xs.length (ints xs)) (h2:zAD w v2 ys.length (ints ys)) (hm:xs.length <= 1000) :
 Calls Tryz.prog 37 #[v1,v2] w fun e w'=>e=.returned (.bool (decide (xs=ys))) /\ Keeps zA w w':=by
 have HC:=yB (zG9 w v1 v2 xs ys h1 h2 hm);clear h1 h2;go_enter Tryz.func37,Tryz.ntmps37
 go_wp2_with (go_at_call 73;refine HC.out.mono ?_;rintro e w1 ⟨rfl,g1⟩;have G1:=yB g1;clear g1)
 go_ret
 exact ⟨rfl,G1.out⟩
theorem zKS (w:World) (b1 b2:Nat) (m:zm) (h8:m.zM.length <= 8) (hmc:m.cells.length <= 8) (hmo:m.owners.length <= 8)
 (VE':Hid (∀ W,Keeps zA w W -> Calls Tryz.prog 36 #[.pointer (some ⟨b1,0,none⟩)] W (zBW W (zBu m)))) (RE':Hid (∀ W,Keeps zA w W -> Calls Tryz.prog 13 #[.pointer (some ⟨b2,0,none⟩)] W (zBW W (zBu m)))) (VS:Hid (∀ W,Keeps zA w W -> Calls Tryz.prog 27 #[.pointer (some ⟨b1,0,none⟩)] W (zHK W m))) (RS':Hid (∀ W,Keeps zA w W -> Calls Tryz.prog 38 #[.pointer (some ⟨b2,0,none⟩)] W (zEp W m)))
 (VO':Hid (∀ W,Keeps zA w W -> Calls Tryz.prog 28 #[.pointer (some ⟨b1,0,none⟩)] W fun e w1=>e=.returned (.bool (decide ((zBu m).length=0))) /\ Keeps zA W w1)) (RO':Hid (∀ W,Keeps zA w W -> Calls Tryz.prog 40 #[.pointer (some ⟨b2,0,none⟩)] W fun e w1=>e=.returned (.bool (decide ((zBu m).length=0))) /\ Keeps zA W w1)) :
 Calls Tryz.prog 11 #[.pointer (some ⟨b1,0,none⟩), .pointer (some ⟨b2,0,none⟩)] w fun e w'=>e=.returned (.bool true) /\ Keeps zA w w':=by
 have hel:(zBu m).length <= 8:=by have h1:=zFg m m.zM.length;rw [zJn] at h1;omega
 obtain ⟨es,hes⟩:=eX (zBu m);obtain ⟨n,hn⟩:=eX es.length;have HEN:Hid (n=es.length):=hn;have VE:Hid (∀ W,Keeps zA w W -> Calls Tryz.prog 36 #[.pointer (some ⟨b1,0,none⟩)] W (zBW W es)):=by rw [hes];exact VE'
 have RE:Hid (∀ W,Keeps zA w W -> Calls Tryz.prog 13 #[.pointer (some ⟨b2,0,none⟩)] W (zBW W es)):=by rw [hes];exact RE'
 have RS:Hid (∀ W,Keeps zA w W -> Calls Tryz.prog 38 #[.pointer (some ⟨b2,0,none⟩)] W fun e w1=>∃ c1 c2 c3 c4,e=.returned (.agg #[c1,c2,c3,c4]) /\ zEY W m c1 c2 c3 c4 w1):=fun W hk=>(RS'.out W hk).mono fun e w1 h=>h.out
 obtain ⟨ov,hov⟩:=eX (decide ((zBu m).length=0));have VO:Hid (∀ W,Keeps zA w W -> Calls Tryz.prog 28 #[.pointer (some ⟨b1,0,none⟩)] W fun e w'=>e=.returned (.bool ov) /\ Keeps zA W w'):=by rw [hov];exact VO'
 have RO:Hid (∀ W,Keeps zA w W -> Calls Tryz.prog 40 #[.pointer (some ⟨b2,0,none⟩)] W fun e w'=>e=.returned (.bool ov) /\ Keeps zA W w'):=by rw [hov];exact RO'
 have hn8:n <= 8:=by rw [hn,hes];exact hel
 obtain ⟨nf,hnf⟩:=eX m.zM.length;obtain ⟨nc,hnc⟩:=eX m.cells.length;obtain ⟨no,hno⟩:=eX m.owners.length;have HL:Hid (nf=m.zM.length /\ nc=m.cells.length /\ no=m.owners.length /\ m.zM.length <= 8 /\ m.cells.length <= 8 /\ m.owners.length <= 8):=⟨hnf,hnc,hno,h8,hmc,hmo⟩;have nf8:nf <= 8:=by omega
 have nc8:nc <= 8:=by omega
 have no8:no <= 8:=by omega
 obtain ⟨i0,hi0,hz0,hz1,hz2⟩:=info_parts zA3;clear h8 hmc hmo hel hes hn hov hnf hnc hno VE' RE' RS' VO' RO';go_enter Tryz.func11,Tryz.ntmps11
 -- want,l,one
 go_upto_region 2 with (go_at_call 13;refine (RE.out _ (yC _ _)).mono ?_;rintro e w1 ⟨vw,rfl,a1,a2,a3⟩;obtain ⟨wa,wc,evw⟩:∃ ad cap,vw=.slice ad es.length cap:=zBk.slice (w:=w) a1;rw [<- HEN.out] at evw;subst evw;have A1:=yB a1;have A2:=yB a2;clear a1 a2 a3)
 go_upto_region 3 with (go_at_call 36;refine (VE.out _ A2.out).mono ?_;rintro e w2 ⟨vl,rfl,a1,a2,a3⟩;obtain ⟨la,lc,evl⟩:∃ ad cap,vl=.slice ad es.length cap:=zBk.slice (w:=w) a1;rw [<- HEN.out] at evl;subst evl;have B1:=yB a1;have B2:=yB a2;have B3:=yB a3;clear a1 a2 a3)
 have HSI:Hid (Calls Tryz.prog 37 #[.slice la n lc, .slice wa n wc] w2 fun e w'=>e=.returned (.bool true) /\ Keeps zA w2 w'):=by
  have:=zFQ w2 (.slice la n lc) (.slice wa n wc) es es (zEh B1.out) ((zEh A1.out).zD B2.out) (by rw [<- HEN.out];omega)
  exact J117 _
 go_upto_region 4 with (go_at_call 37;refine HSI.out.mono ?_;rintro e w3 ⟨rfl,a1⟩;have C1:=yB a1;clear a1)
 -- what is kept from here: B: the heap's size ahead of l
 obtain ⟨B,hB⟩:=eX w1.heap.size;have HB:Hid (B=w1.heap.size):=hB;have HW3:Hid (Keeps zA w w3):=(A2.out.zB B2.out).zB C1.out;have HWANT:Hid (zAD w3 (.slice wa n wc) es.length (ints es)):=((zEh A1.out).zD B2.out).zD C1.out;have HWB:Hid (∀ kb,(Value.slice wa n wc).ownBlock=some kb -> kb < B):=fun kb e=>by rw [hB];exact zO A1.out e
 have HLO:Hid (∃ zs,zs.length=n /\ w3.ownsRow 0 3 1 (.slice la n lc) n (ints zs)):=⟨es,HEN.out.symm,by have:=zG B1.out C1.out (fun _ _ h=>h);rw [<- HEN.out] at this;exact this⟩;have HLB:Hid (∀ kb,(Value.slice la n lc).ownBlock=some kb -> B <= kb):=fun kb e=>by rw [hB];exact B3.out kb e
 have HBW:Hid (w.heap.size <= B):=by show _ <= _;rw [hB];exact A2.out.size
 clear A1 A2 B1 B2 B3 C1 HSI hB;go_wp2_with fail
 go_loopw [8] (fun kv wr=>∃ k:Nat,k <= n /\ kv=.int .i64 k /\ Hid (Keeps (fun q=>B <= q) w3 wr) /\ Hid (∃ zs,zs.length=n /\ wr.ownsRow 0 3 1 (.slice la n lc) n (ints zs))) (fun kv _=>n - (intOf kv).toNat)
 case atStart=>exact ⟨0,yJ _,rfl,yC _ _,HLO.out⟩
 case round =>
  obtain ⟨k,hk,rfl,hkp,hlo⟩:=hrel;by_cases hlt:k < n
  ·have i1:(0:Int) <= k:=by omega
   have i2:(k:Int) < n:=by omega
   obtain ⟨zs,hzl,hzo⟩:=hlo.out;obtain ⟨gl,lc',e1,_,_⟩:=hzo.form (by omega);cases e1;have hrow:=uC hzo;have c0:=hrow.cell (zu zs k (by omega));have f0:=hrow.free (k:=k) (by rw [zAE];omega);have HST:=yB (hzo.stored k (.int .i64 (-77)));have HZL:=yB hzl;generalize zs.getD k 0=old at c0;clear hk hlo hzo hrow hzl;go_wp2_with fail
   refine ⟨⟨k+1,by omega,by go_num,hkp.out.setCell (p:=⟨gl,k,none⟩) (fun _=>HLB.out gl rfl) _,⟨zs.set k (-77),by rw [uU];exact HZL.out,?_⟩⟩,by simp [intOf];omega⟩
   have:=HST.out.1
   rw [ints_set] at this;exact this
  ·have hkn:n=k:=by omega
   subst hkn;clear hlt hk HLO;obtain ⟨zs,hzl,hzo⟩:=hlo.out;have HZO:=yB hzo;have HZL:=yB hzl;clear hlo hzo hzl;go_upto_region 9 with (at_builtin;refine zI _ (by rfl) _ _ 22 (by rfl) 0 3 i0 _ 1 8 xG hi0 hz0 hz1 hz2 rfl (by decide) (.slice la n lc) n (ints zs) (by rfl) (zG HZO.out ((yC zA _).alloc _) (fun _ _ h=>h)) (.slice (some ⟨wr.heap.size,0,none⟩) 2 2) 2 [.int .i64 (-78), .int .i64 (-79)] (by rfl) (xN (yN (yK _ _))) rfl (by simp [Value.oneCell']) (by unfold maxLen;omega) (by omega) (yJ _) ?_;intro la' lc' w8 hout;have HO:=yB hout;clear hout)
   have HK8:Hid (Keeps (fun q=>B <= q) w3 w8):=(hkp.out.alloc _).grown HO.out.2.1 (fun q e _=>HLB.out q e);have HW8:Hid (Keeps zA w w8):=HW3.out.trans HK8.out (fun q hq e=>by have h1:=HBW.out;have e':B <= q:=e;omega);have HLN:Hid (w8.ownsRow 0 3 1 (.slice la' (n+2) lc') (n+2) (ints zs++[.int .i64 (-78), .int .i64 (-79)])):=HO.out.1;have HWA8:Hid (zAD w8 (.slice wa n wc) es.length (ints es)):=HWANT.out.keeps HK8.out (fun kb e e'=>by have h1:=HWB.out kb e;have e2:B <= kb:=e';omega);clear HO HWANT HLB HK8
   -- the document's state
   go_upto_region 10 with (go_at_call 38;refine (RS.out _ HW8.out).mono ?_;rintro e w9 ⟨c1,c2,c3,c4,rfl,hs⟩;have S9:=yB hs;obtain ⟨p1,q1,e1⟩:=hs.cells.form;obtain ⟨p2,q2,e2⟩:=hs.owners.form;obtain ⟨p3,q3,e3⟩:=hs.sts.form;obtain ⟨p4,q4,e4⟩:=hs.next.form;rw [<- HL.out.2.1] at e1;rw [<- HL.out.2.2.1] at e2;rw [<- HL.out.1] at e3;rw [<- HL.out.1] at e4;subst e1 e2 e3 e4;clear hs)
   obtain ⟨y9,hy9⟩:=eX w9.heap.size;have hrow:zC (w9.alloc (.cells #[.slice p1 nc q1, .slice p2 no q2, .slice p3 nf q3, .slice p4 nf q4] 51)) y9 [.slice p1 nc q1, .slice p2 no q2, .slice p3 nf q3, .slice p4 nf q4]:=by rw [hy9];exact yN (yK w9 _)
   have hk9:Keeps zA w9 (w9.alloc (.cells #[.slice p1 nc q1, .slice p2 no q2, .slice p3 nf q3, .slice p4 nf q4] 51)):=(yC _ _).alloc _;rw [<- hy9];generalize w9.alloc (.cells #[.slice p1 nc q1, .slice p2 no q2, .slice p3 nf q3, .slice p4 nf q4] 51)=wA at hrow hk9 ⊢;have RA:=yB hrow;have SA:=yB (S9.out.src.keeps hk9);have KA:Hid (Keeps zA w8 wA):=S9.out.keeps.zB hk9;clear hrow hk9 hy9 S9
   -- the machine's
   go_upto_region 11 with (go_at_call 27;refine (VS.out _ (HW8.out.zB KA.out)).mono ?_;rintro e wB ⟨t1,t2,d3,d4,rfl,hs⟩;have SB:=yB hs;obtain ⟨t3,u3,e3⟩:=hs.sts.form;obtain ⟨t4,u4,e4⟩:=hs.next.form;rw [<- HL.out.1] at e3;rw [<- HL.out.1] at e4;subst e3 e4;rw [<- HL.out.2.1,<- HL.out.2.2.1] at SB;rw [<- HL.out.2.1,<- HL.out.2.2.1];clear hs)
   obtain ⟨y,hy⟩:=eX wB.heap.size;have hrow:zC (wB.alloc (.cells #[.slice t1 nc nc, .slice t2 no no, .slice t3 nf u3, .slice t4 nf u4] 51)) y [.slice t1 nc nc, .slice t2 no no, .slice t3 nf u3, .slice t4 nf u4]:=by rw [hy];exact yN (yK wB _)
   have hkB:Keeps zA wB (wB.alloc (.cells #[.slice t1 nc nc, .slice t2 no no, .slice t3 nf u3, .slice t4 nf u4] 51)):=(yC _ _).alloc _;rw [<- hy];generalize wB.alloc (.cells #[.slice t1 nc nc, .slice t2 no no, .slice t3 nf u3, .slice t4 nf u4] 51)=wC at hrow hkB ⊢;obtain ⟨B2,hB2⟩:=eX wA.heap.size;have HB2:Hid (B2=wA.heap.size):=hB2
   have hI:LkI wC wC B2 y (.slice t1 nc nc) (.slice t2 no no) (.slice t3 nf u3) (.slice t4 nf u4) nc no nf:=by
    rw [hB2,hy];obtain ⟨e1,e2,e3,_⟩:=HL.out;refine ⟨yC _ _,by rw [<- hy];exact hrow,?_,?_,?_,?_⟩
    ·have h:=(zC0.of (size:=1) SB.out.cells (by rw [zAE];omega) (by decide) (yV _)).zD hkB
     rw [<- e2] at h;exact h
    ·have h:=(zC0.of (size:=1) SB.out.owners (by rw [zAE];omega) (by decide) (yV _)).zD hkB
     rw [<- e3] at h;exact h
    ·have h:=(zC0.of (size:=1) SB.out.sts (by rw [zAE,zFj m _ (yV _)];omega) (by decide) (yV _)).zD hkB
     rw [<- e1] at h;exact h
    ·have h:=(zC0.of (size:=2) SB.out.next (zKf m _) (by decide) (yV _)).zD hkB
     rw [<- e1] at h;exact h
   have HI:=yB hI;have HYB:Hid (B2 <= y):=by show _ <= _;rw [hB2,hy];exact SB.out.keeps.size
   have KC:Hid (Keeps zA wA wC):=SB.out.keeps.zB hkB;have RA2:=yB (RA.out.keeps KC.out (fun h=>h))
   have SS:Hid (∀ W,Keeps zA wC W -> Calls Tryz.prog 39 #[.agg #[.slice t1 nc nc, .slice t2 no no, .slice t3 nf u3, .slice t4 nf u4], .agg #[.slice p1 nc q1, .slice p2 no q2, .slice p3 nf q3, .slice p4 nf q4]] W fun e w'=>e=.returned (.bool true) /\ Keeps zA W w'):=fun W hk=>by
    obtain ⟨e1,e2,e3,f1,f2,f3⟩:=HL.out;have hs:=(SB.out.src.keeps hkB).keeps hk;have hd:=(SA.out.keeps KC.out).keeps hk;exact zED W _ _ _ _ _ _ _ _ _ _ _ _ (by rw [e2,e3];rw [e2,e3] at hs;exact hs) hd (by omega) (by omega) (by rw [zFj m _ (yV _)];omega) (by rw [zGG];omega)
   have x9:wC.cell? ⟨y9,0,none⟩=some (.slice p1 nc q1):=RA2.out.cell (k:=0) rfl;have x9b:wC.cell? ⟨y9,1,none⟩=some (.slice p2 no q2):=RA2.out.cell (k:=1) rfl;have x9c:wC.cell? ⟨y9,2,none⟩=some (.slice p3 nf q3):=RA2.out.cell (k:=2) rfl;have x9d:wC.cell? ⟨y9,3,none⟩=some (.slice p4 nf q4):=RA2.out.cell (k:=3) rfl;have z0:=hrow.cell (k:=0) (v:=.slice t1 nc nc) rfl;have z1:=hrow.cell (k:=1) (v:=.slice t2 no no) rfl;have z2:=hrow.cell (k:=2) (v:=.slice t3 nf u3) rfl;have z3:=hrow.cell (k:=3) (v:=.slice t4 nf u4) rfl;clear hrow hkB hy hB2 hI SB;go_upto_region 12 with (go_at_call 39;refine (SS.out _ (yC _ _)).mono ?_;rintro e wD ⟨rfl,hk⟩;have KD:=yB hk;clear hk)
   clear x9 x9b x9c x9d z0 z1 z2 z3;have HI2:Hid (LkI wD wD B2 y (.slice t1 nc nc) (.slice t2 no no) (.slice t3 nf u3) (.slice t4 nf u4) nc no nf):=⟨yC _ _,HI.out.row.keeps KD.out (fun h=>h),HI.out.h1.zD KD.out,HI.out.h2.zD KD.out,HI.out.h3.zD KD.out,HI.out.h4.zD KD.out⟩;clear HI SS;go_wp2_with fail
   go_loopw [12] (fun kv wr=>∃ k:Nat,k <= nc /\ kv=.int .i64 k /\ Hid (LkI wD wr B2 y (.slice t1 nc nc) (.slice t2 no no) (.slice t3 nf u3) (.slice t4 nf u4) nc no nf)) (fun kv _=>nc - (intOf kv).toNat)
   case atStart=>exact ⟨0,yJ _,rfl,HI2.out⟩
   case round =>
    obtain ⟨k,hk,rfl,hI⟩:=hrel;have z0:=hI.out.row.cell (k:=0) (v:=.slice t1 nc nc) rfl;by_cases hlt:k < nc
    ·have i1:(0:Int) <= k:=by omega
     have i2:(k:Int) < nc:=by omega
     obtain ⟨g,eg,g1,g2,gc⟩:=hI.out.h1.cell hlt;obtain ⟨old,c0,f0⟩:=gc 0 (by decide);rw [vZ,vF] at c0 f0;subst eg;have HG:Hid (B2 <= g /\ g < y):=⟨g1,g2⟩;clear hk g1 g2 gc HI2;exact J119 _
    ·have hkn:nc=k:=by omega
     subst hkn;have HI3:=hI;clear hlt hk HI2;go_wp2_with fail
     go_loopw [13] (fun kv wr=>∃ k:Nat,k <= no /\ kv=.int .i64 k /\ Hid (LkI wD wr B2 y (.slice t1 nc nc) (.slice t2 no no) (.slice t3 nf u3) (.slice t4 nf u4) nc no nf)) (fun kv _=>no - (intOf kv).toNat)
     case atStart=>exact ⟨0,yJ _,rfl,HI3.out⟩
     case round =>
      obtain ⟨k,hk,rfl,hI⟩:=hrel;have z1:=hI.out.row.cell (k:=1) (v:=.slice t2 no no) rfl;by_cases hlt:k < no
      ·have i1:(0:Int) <= k:=by omega
       have i2:(k:Int) < no:=by omega
       obtain ⟨g,eg,g1,g2,gc⟩:=hI.out.h2.cell hlt;obtain ⟨old,c0,f0⟩:=gc 0 (by decide);rw [vZ,vF] at c0 f0;subst eg;have HG:Hid (B2 <= g /\ g < y):=⟨g1,g2⟩;clear hk g1 g2 gc HI3 z0;exact J119 _
      ·have hkn:no=k:=by omega
       subst hkn;have HI4:=hI;clear hlt hk HI3 z0;go_wp2_with fail
       go_loopw [14] (fun kv wr=>∃ k:Nat,k <= nf /\ kv=.int .i64 k /\ Hid (LkI wD wr B2 y (.slice t1 nc nc) (.slice t2 no no) (.slice t3 nf u3) (.slice t4 nf u4) nc no nf)) (fun kv _=>nf - (intOf kv).toNat)
       case atStart=>exact ⟨0,yJ _,rfl,HI4.out⟩
       case round =>
        obtain ⟨k,hk,rfl,hI⟩:=hrel;have z2:=hI.out.row.cell (k:=2) (v:=.slice t3 nf u3) rfl;have z3:=hI.out.row.cell (k:=3) (v:=.slice t4 nf u4) rfl;by_cases hlt:k < nf
        ·have i1:(0:Int) <= k:=by omega
         have i2:(k:Int) < nf:=by omega
         obtain ⟨g,eg,g1,g2,gc⟩:=hI.out.h3.cell hlt;obtain ⟨old,c0,f0⟩:=gc 0 (by decide);rw [vZ,vF] at c0 f0;subst eg;have HG:Hid (B2 <= g /\ g < y):=⟨g1,g2⟩;have HJ:Hid (LkI wD (wr.setCell ⟨g,k,none⟩ (.int .i64 (-77))) B2 y (.slice t1 nc nc) (.slice t2 no no) (.slice (some ⟨g,0,none⟩) nf u3) (.slice t4 nf u4) nc no nf):=hI.out.set ⟨g,k,none⟩ g1 g2 _;clear hk g1 g2 gc HI4 z1;go_upto_region 24 with fail
         generalize wr.setCell ⟨g,k,none⟩ (.int .i64 (-77))=wJ at HJ ⊢;have z3':=HJ.out.row.cell (k:=3) (v:=.slice t4 nf u4) rfl;obtain ⟨g',eg',g1',g2',gc'⟩:=HJ.out.h4.cell hlt;obtain ⟨old0,c0',f0'⟩:=gc' 0 (by decide);obtain ⟨old1,c1',f1'⟩:=gc' 1 (by decide);rw [vF] at c0' f0';subst eg';have HG':Hid (B2 <= g' /\ g' < y):=⟨g1',g2'⟩;clear g1' g2' gc' z2 z3 c0 f0;go_wp2_with fail
         exact ⟨⟨k+1,by omega,by go_num,(HJ.out.set ⟨g',k*2,none⟩ HG'.out.1 HG'.out.2 _).set ⟨g',k*2+1,none⟩ HG'.out.1 HG'.out.2 _⟩,by simp [intOf];omega⟩
        ·have hkn:nf=k:=by omega
         subst hkn;have HI5:=hI;clear hlt hk HI4 z1;go_upto_region 25 with fail
         have hI6:=HI5.out;obtain ⟨hno1,L1,hL1,hc1⟩:=hI6.h1.olds;have HN1:=yB hno1;have HLL1:=yB hL1;have HC1:=yB hc1;have z0:=hI6.row.cell (k:=0) (v:=.slice t1 nc nc) rfl;have ly:y < wr.heap.size:=hI6.row.lt (by simp);have ny:y ≠ wr.heap.size:=by omega
         clear hno1 hL1 hc1 hI6 z2 z3 hI;go_upto_region 26 with (at_builtin;refine wpList_append_grows _ (by rfl) _ _ 22 (by rfl) 3 i0 _ 1 8 xG hi0 hz0 hz1 hz2 rfl (by decide) t1 nc nc L1 (by rfl) (fun e=>⟨HN1.out e,HN1.out e⟩) HLL1.out (fun b e j u hj=>((yC zA wr).alloc _).cell (fun h=>h) (HC1.out b e j u hj)) ⟨wr.heap.size,0,none⟩ 1 1 [.int .i64 (-78)] (by rfl) (by rfl) (World.news_of_block (yK _ _)) (by simp [Value.oneCell']) (by omega) (by unfold maxLen;omega) (by omega) ?_;intro v' w12 hown hgr;obtain ⟨gn,cn,ev,_,_⟩:=hown.form (by omega);subst ev;have K12:Hid (Keeps zA wr w12):=((yC zA wr).alloc _).grown hgr (fun q e _=>by cases e);have R12:Hid (zC w12 y [.slice t1 nc nc, .slice t2 no no, .slice t3 nf u3, .slice t4 nf u4]):=HI5.out.row.keeps K12.out (fun h=>h);have zr:=R12.out.cell (k:=0) (v:=.slice t1 nc nc) rfl;have zf:=R12.out.free (k:=0) (by simp);clear hown hgr)
         have hr13:zC (w12.setCell ⟨y,0,none⟩ (.slice (some ⟨gn,0,none⟩) (nc+1) cn)) y [.slice (some ⟨gn,0,none⟩) (nc+1) cn, .slice t2 no no, .slice t3 nf u3, .slice t4 nf u4]:=R12.out.set 0 (by simp) _;have hk13:Keeps (fun q=>B2 <= q) wr (w12.setCell ⟨y,0,none⟩ (.slice (some ⟨gn,0,none⟩) (nc+1) cn)):=(K12.out.mono (fun _ _ h=>h.elim)).setCell (p:=⟨y,0,none⟩) (fun _=>HYB.out) _;have hh2:zC0 (w12.setCell ⟨y,0,none⟩ (.slice (some ⟨gn,0,none⟩) (nc+1) cn)) B2 y (.slice t2 no no) no 1:=(HI5.out.h2.zD K12.out).set ⟨y,0,none⟩ _;generalize w12.setCell ⟨y,0,none⟩ (.slice (some ⟨gn,0,none⟩) (nc+1) cn)=w13 at hr13 hk13 hh2 ⊢;obtain ⟨hno1,L2,hL1,hc1⟩:=hh2.olds;have HN2:=yB hno1;have HLL2:=yB hL1;have HC2:=yB hc1;have R13:=yB hr13;have K13:Hid (Keeps (fun q=>B2 <= q) wD w13):=HI5.out.keep.trans hk13 (fun _ _ h=>h);have z1:=hr13.cell (k:=1) (v:=.slice t2 no no) rfl;have ly':y < w13.heap.size:=hr13.lt (by simp);have ny':y ≠ w13.heap.size:=by omega
         clear hno1 hL1 hc1 hr13 hk13 hh2 zr zf R12 K12 HN1 HLL1 HC1 z0 ly ny HI5;go_upto_region 27 with (at_builtin;refine wpList_append_grows _ (by rfl) _ _ 22 (by rfl) 3 i0 _ 1 8 xG hi0 hz0 hz1 hz2 rfl (by decide) t2 no no L2 (by rfl) (fun e=>⟨HN2.out e,HN2.out e⟩) HLL2.out (fun b e j u hj=>((yC zA w13).alloc _).cell (fun h=>h) (HC2.out b e j u hj)) ⟨w13.heap.size,0,none⟩ 1 1 [.int .i64 (-78)] (by rfl) (by rfl) (World.news_of_block (yK _ _)) (by simp [Value.oneCell']) (by omega) (by unfold maxLen;omega) (by omega) ?_;intro v' w14 hown hgr;obtain ⟨gm,cm,ev,_,_⟩:=hown.form (by omega);subst ev;have K14:Hid (Keeps zA w13 w14):=((yC zA w13).alloc _).grown hgr (fun q e _=>by cases e);have R14:Hid (zC w14 y [.slice (some ⟨gn,0,none⟩) (nc+1) cn, .slice t2 no no, .slice t3 nf u3, .slice t4 nf u4]):=R13.out.keeps K14.out (fun h=>h);have zr:=R14.out.cell (k:=1) (v:=.slice t2 no no) rfl;have zf:=R14.out.free (k:=1) (by simp);clear hown hgr)
         have hkE:Keeps (fun q=>B2 <= q) wD (w14.setCell ⟨y,1,none⟩ (.slice (some ⟨gm,0,none⟩) (no+1) cm)):=(K13.out.trans (K14.out.mono (S:=fun q=>B2 <= q) (fun _ _ h=>h.elim)) (fun _ _ h=>h)).setCell (p:=⟨y,1,none⟩) (fun _=>HYB.out) _;generalize w14.setCell ⟨y,1,none⟩ (.slice (some ⟨gm,0,none⟩) (no+1) cm)=wE at hkE ⊢;have KAE:Hid (Keeps (fun q=>B2 <= q) wA wE):=((KC.out.zB KD.out).mono (fun _ _ h=>h.elim)).trans hkE (fun _ _ h=>h);have HWE:Hid (Keeps zA w wE):=(HW8.out.zB KA.out).trans KAE.out (fun q hq e=>by have h1:=HB2.out;have h2:=HW8.out.size;have h3:=KA.out.size;have e':B2 <= q:=e;omega);have HWAE:Hid (zAD wE (.slice wa n wc) es.length (ints es)):=(HWA8.out.zD KA.out).up KAE.out (by rw [HB2.out];exact yV _) (by simp [ints]);have HSE:Hid (zC1 wE (.slice p1 nc q1) (.slice p2 no q2) (.slice p3 nf q3) (.slice p4 nf q4) m.cells m.owners (zD6 m m.zM.length) (zF5 m m.zM.length)):=SA.out.up KAE.out (by rw [HB2.out];exact yV _);have RAE:Hid (zC wE y9 [.slice p1 nc q1, .slice p2 no q2, .slice p3 nf q3, .slice p4 nf q4]):=RA.out.keeps KAE.out (fun e=>by have h1:=RA.out.lt (by simp);have h2:=HB2.out;have e':B2 <= y9:=e;omega);have HLE:Hid (wE.ownsRow 0 3 1 (.slice la' (n+2) lc') (n+2) (ints zs++[.int .i64 (-78), .int .i64 (-79)])):=zG (zG HLN.out KA.out (fun _ _ h=>h)) KAE.out (fun q e e'=>by have h1:=zO HLN.out e;have h2:=HB2.out;have h3:=KA.out.size;have e2:B2 <= q:=e';omega);clear hkE zr zf R14 K14 K13 R13 HN2 HLL2 HC2 z1 ly' ny' KD KC KA HYB HB2 SA RA RA2 HLN HWA8 HW8 HW3 HWB HBW hkp
         -- once more
         go_upto_region 28 with (go_at_call 27;refine (VS.out _ HWE.out).mono ?_;rintro e wF ⟨t1',t2',d3,d4,rfl,hs⟩;have SF:=yB hs;obtain ⟨t3',u3',e3⟩:=hs.sts.form;obtain ⟨t4',u4',e4⟩:=hs.next.form;rw [<- HL.out.1] at e3;rw [<- HL.out.1] at e4;subst e3 e4;rw [<- HL.out.2.1,<- HL.out.2.2.1] at SF;rw [<- HL.out.2.1,<- HL.out.2.2.1];clear hs)
         obtain ⟨yf,hyf⟩:=eX wF.heap.size;have hrow:zC (wF.alloc (.cells #[.slice t1' nc nc, .slice t2' no no, .slice t3' nf u3', .slice t4' nf u4'] 51)) yf [.slice t1' nc nc, .slice t2' no no, .slice t3' nf u3', .slice t4' nf u4']:=by rw [hyf];exact yN (yK wF _)
         have hkF:Keeps zA wF (wF.alloc (.cells #[.slice t1' nc nc, .slice t2' no no, .slice t3' nf u3', .slice t4' nf u4'] 51)):=(yC _ _).alloc _;rw [<- hyf];generalize wF.alloc (.cells #[.slice t1' nc nc, .slice t2' no no, .slice t3' nf u3', .slice t4' nf u4'] 51)=wG at hrow hkF ⊢;have KG:Hid (Keeps zA wE wG):=SF.out.keeps.zB hkF
         have SS:Hid (Calls Tryz.prog 39 #[.agg #[.slice t1' nc nc, .slice t2' no no, .slice t3' nf u3', .slice t4' nf u4'], .agg #[.slice p1 nc q1, .slice p2 no q2, .slice p3 nf q3, .slice p4 nf q4]] wG fun e w'=>e=.returned (.bool true) /\ Keeps zA wG w'):=by
          obtain ⟨e1,e2,e3,f1,f2,f3⟩:=HL.out;have hs:=SF.out.src.keeps hkF;have hd:=HSE.out.keeps KG.out;exact zED wG _ _ _ _ _ _ _ _ _ _ _ _ (by rw [e2,e3];rw [e2,e3] at hs;exact hs) hd (by omega) (by omega) (by rw [zFj m _ (yV _)];omega) (by rw [zGG];omega)
         have RG:=yB (RAE.out.keeps KG.out (fun h=>h));have x9:=RG.out.cell (k:=0) (v:=.slice p1 nc q1) rfl;have x9b:=RG.out.cell (k:=1) (v:=.slice p2 no q2) rfl;have x9c:=RG.out.cell (k:=2) (v:=.slice p3 nf q3) rfl;have x9d:=RG.out.cell (k:=3) (v:=.slice p4 nf q4) rfl;have z0:=hrow.cell (k:=0) (v:=.slice t1' nc nc) rfl;have z1:=hrow.cell (k:=1) (v:=.slice t2' no no) rfl;have z2:=hrow.cell (k:=2) (v:=.slice t3' nf u3') rfl;have z3:=hrow.cell (k:=3) (v:=.slice t4' nf u4') rfl;clear hrow hkF hyf SF HSE RAE RG;go_upto_region 29 with (go_at_call 39;refine SS.out.mono ?_;rintro e wH ⟨rfl,hk⟩;have KH:Hid (Keeps zA wE wH):=KG.out.zB hk;clear hk)
         clear x9 x9b x9c x9d z0 z1 z2 z3 SS KG;go_upto_region 30 with (go_at_call 36;refine (VE.out _ (HWE.out.zB KH.out)).mono ?_;rintro e wI ⟨vk,rfl,a1,a2,a3⟩;obtain ⟨ka,kc,evk⟩:∃ ad cap,vk=.slice ad es.length cap:=zBk.slice (w:=w) a1;rw [<- HEN.out] at evk;subst evk;have A1:=yB a1;have A2:=yB a2;clear a1 a2 a3)
         have HSI:Hid (Calls Tryz.prog 37 #[.slice ka n kc, .slice wa n wc] wI fun e w'=>e=.returned (.bool true) /\ Keeps zA wI w'):=by
          have:=zFQ wI (.slice ka n kc) (.slice wa n wc) es es (zEh A1.out) ((HWAE.out.zD KH.out).zD A2.out) (by rw [<- HEN.out];omega)
          exact J117 _
         have KI:Hid (Keeps zA wE wI):=KH.out.zB A2.out;clear A1 A2 KH;go_upto_region 31 with (go_at_call 37;refine HSI.out.mono ?_;rintro e wJ ⟨rfl,hk⟩;have KJ:Hid (Keeps zA wE wJ):=KI.out.zB hk;clear hk)
         clear HSI KI;go_upto_region 32 with (go_at_call 28;refine (VO.out _ (HWE.out.zB KJ.out)).mono ?_;rintro e wK ⟨rfl,hk⟩;have KK:Hid (Keeps zA wE wK):=KJ.out.zB hk;clear hk)
         go_upto_region 33 with (go_at_call 40;refine (RO.out _ (HWE.out.zB KK.out)).mono ?_;rintro e wL ⟨rfl,hk⟩;have KL:Hid (Keeps zA wE wL):=KK.out.zB hk;clear hk)
         have hll:=zG HLE.out KL.out (fun _ _ h=>h);obtain ⟨gl,cl,el,_,_⟩:=hll.form (by omega);cases el
         have hcl:wL.cell? ⟨gl,n+1,none⟩=some (.int .i64 (-79)):=by
          refine (uC hll).cell ?_
          rw [xH (by rw [zAE];have:=HZL.out;omega),zAE,HZL.out];simp
         have i1:(0:Int) <= (n:Int)+1:=by omega
         have i2:((n+2:Nat):Int) - 1=((n+1:Nat):Int):=by omega
         have i3:(n:Int)+1 < ((n+2:Nat):Int):=by omega
         have i4:(n:Int)+2 - 1=((n+1:Nat):Int):=by omega
         clear hll VO RO;cases ov
         all_goals (
          go_wp2_with fail
          go_ret
          exact ⟨rfl,HWE.out.zB KL.out⟩)
end Go.Proofs.YtfokdllgnblamaaGreatDoor
