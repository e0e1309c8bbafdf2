/- Layer D: texts joined. -/
import Derived.Test.YtoapgjjepiopbaaGreatDoorD09
set_option linter.all false
set_option maxRecDepth 8000
namespace Go.Proofs.YtoapgjjepiopbaaGreatDoor
open Go.RowKit
abbrev kH:=@Nat.mul_le_mul_right
abbrev vT:=@Nat.div_eq_of_lt
abbrev vK:=@Nat.le_mul_of_pos_right
theorem J38(P:Prop) (h:P:=by
 go_ret
 exact⟨rfl,rfl⟩):P:=h
theorem J50(P:Prop) (h:P:=by
 by_cases e:j=i
 ·subst e;rw[if_pos rfl];exact hF'
 ·rw[if_neg e]
  rw[uJ true (λh=>e h.symm)] at hl;refine hloc _ _ gs _ _ (λb hb=>?_) (hst j _ _ _ _ (hF j hj hl) hR')
  have h1:=hL j hj hl b hb;have h2:b≠i:=λe=>by subst e;rw[hun] at h1;cases h1
  exact(if_neg h2).symm):P:=h
theorem J58(P:Prop) (h:P:=by
 have h0:m=0:=by omega
 subst h0
 have hiN:i=N:=by
  rcases xR i N with h|h
  ·have:=hrun.2 h;omega
  ·omega
 subst hiN;go_wp2_with fail
 go_ret
 exact⟨da,dc,by go_num,zAK.ofRow HO.out HN.out (λkb e=>⟨HB.out kb e,zM HO.out e⟩),HK.out⟩):P:=h
theorem J113(P:Prop) (h:P:=by
 have h5:e.on<listed.size:=by rw[inv.size];simp;omega
 exact hL e.on (by omega) (by simpa [h5] using h4) b h3):P:=h
theorem J117(P:Prop) (h:P:=by
 intro i hi
 obtain⟨g,o,e,hg,c0⟩:=h i hi;exact⟨g,o,e,hg,hk.cell (p:=⟨g,_,none⟩) (hS g hg) c0⟩):P:=h
theorem J145(P:Prop) (h:P:=by
 go_wp2_with fail
 exact J38 _):P:=h
theorem J177(P:Prop)(h:P:=by first|rfl|(congr 1 <;> omega)):P:=h
theorem J190(P:Prop)(h:P:=by rw[<-HD.out.1];congr 1 <;> omega):P:=h
def zAK(w:World)(F:Nat->Prop)(b n:Nat)(ad:Option Addr):Prop:=
 ∀i,i<(dig b n).length->∃g o,ad=some ⟨g,o,none⟩/\F g/\w.cell? ⟨g,o+i,none⟩=some (.int .i64 ((n / b ^ i % b:Nat):Int))
theorem zAK.keeps{S F:Nat->Prop}{w w':World}{b n:Nat}{ad:Option Addr}(h:zAK w F b n ad)(hk:Keeps S w w')(hS:∀k,F k->¬S k):zAK w' F b n ad:=by
 exact J117 _
theorem zAK.mono{F F':Nat->Prop}{w:World}{b n:Nat}{ad:Option Addr}(h:zAK w F b n ad)(hF:∀k,F k->F' k):zAK w F' b n ad:=by
 intro i hi
 obtain⟨g,o,e,hg,c0⟩:=h i hi;exact⟨g,o,e,hF g hg,c0⟩
theorem zAK.zero(w:World)(F:Nat->Prop)(b:Nat)(ad:Option Addr):zAK w F b 0 ad:=by
 intro i hi;rw[zAp] at hi;cases hi
def zCR(b m n:Nat):List Value:=(List.range n).map λj=>.int .i64 ((m / b ^ j % b:Nat):Int)
theorem zLs(b m n:Nat):zCR b m (n+1)=zCR b m n++[.int .i64 ((m / b ^ n % b:Nat):Int)]:=by
 unfold zCR;rw[List.range_succ,List.map_append];rfl
theorem zAK.ofRow{w:World}{F:Nat->Prop}{b m n cap:Nat}{ty:TypeId}{ad:Option Addr}(h:w.ownsRow 0 ty 1 (.slice ad n cap) n (zCR b m n))(hn:n=(dig b m).length)(hF:∀kb,(Value.slice ad n cap).ownBlock=some kb->F kb):zAK w F b m ad:=by
 intro i hi
 rw[<-hn] at hi;obtain⟨g,c,hv,_,_⟩:=h.form (by omega);cases hv;have hr:=uB h;refine⟨g,0,rfl,hF g rfl,?_⟩
 rw[xA];refine hr.cell ?_
 unfold zCR;rw[List.getElem?_map,List.getElem?_range hi];rfl
theorem zDU{b n i:Nat}(hb:2<=b)(h:n<b ^ i):(dig b n).length<=i:=by
 rcases xR i (dig b n).length with h1|h1
 ·have:=(zi hb i n).1 h1;omega
 ·exact h1
theorem zEs{b n i:Nat}(hb:2<=b)(h:(dig b n).length<=i):n / b ^ i % b=0:=by
 have h1:¬b ^ i<=n:=λe=>by have:=(zi hb i n).2 e;omega
 rw[vT (by omega)];exact Nat.zero_mod b
theorem zHe{b:Nat}(hb:2<=b)(n i:Nat):0<n / b ^ i↔i<(dig b n).length:=by
 rw[zi hb,Nat.div_pos_iff];have:0<b ^ i:=uX (by omega)
 exact⟨λh=>h.2,λh=>⟨this,h⟩⟩
theorem zI4{b:Nat}(hb:2<=b)(x y i:Nat):(i<max (dig b x).length (dig b y).length\/0<(x % b ^ i+y % b ^ i) / b ^ i)↔i<(dig b (x+y)).length:=by
 have hp:0<b ^ i:=uX (by omega);have h1:=zi hb i x;have h2:=zi hb i y;rw[zi hb,Nat.div_pos_iff];constructor
 ·rintro(h|h)
  ·rcases (show i<(dig b x).length\/i<(dig b y).length by omega) with h|h
   ·have:=h1.1 h;omega
   ·have:=h2.1 h;omega
  ·have:=Nat.mod_le x (b ^ i);have:=Nat.mod_le y (b ^ i);omega
 ·intro h
  by_cases hx:b ^ i<=x
  ·have:=h1.2 hx;left;omega
  ·by_cases hy:b ^ i<=y
   ·have:=h2.2 hy;left;omega
   ·right;rw[Nat.mod_eq_of_lt (by omega),Nat.mod_eq_of_lt (by omega)];exact⟨hp,h⟩
theorem zHD{b:Nat}(hb:2<=b)(x k i:Nat)(hk:0<k):(i<(dig b x).length\/0<x % b ^ i*k / b ^ i)↔i<(dig b (x*k)).length:=by
 have hp:0<b ^ i:=uX (by omega);have h1:=zi hb i x;have h3:x<=x*k:=vK x hk;rw[zi hb i (x*k),Nat.div_pos_iff];constructor
 ·rintro(h|h)
  ·have:=h1.1 h;omega
  ·have:=kH k (Nat.mod_le x (b ^ i));omega
 ·intro h
  by_cases hx:b ^ i<=x
  ·have:=h1.2 hx;left;omega
  ·right;rw[Nat.mod_eq_of_lt (by omega)];exact⟨hp,h⟩
theorem zGW{b:Nat}(hb:2<=b)(x y i:Nat):(x % b ^ i+y % b ^ i) / b ^ i<2:=by
 have hp:0<b ^ i:=uX (by omega);have h1:=Nat.mod_lt x hp;have h2:=Nat.mod_lt y hp;rw[Nat.div_lt_iff_lt_mul hp];omega
theorem zFj{b:Nat}(hb:2<=b)(x k i:Nat)(hk:0<k):x % b ^ i*k / b ^ i<k:=by
 have hp:0<b ^ i:=uX (by omega);have h1:=Nat.mod_lt x hp;rw[Nat.div_lt_iff_lt_mul hp,Nat.mul_comm k];exact Nat.mul_lt_mul_of_pos_right h1 hk
theorem zCv{b:Nat}(hb:2<=b)(x i:Nat):x / b ^ i % b<b:=Nat.mod_lt _ (by omega)
theorem zBI:(Tryz.prog.info? 3).map (λi=>(i.zero,i.size,i.bytes))=some (some (.int .i64 0),1,8):=by kernel_rfl
def zBf(b m:Nat)(w:World)(r:Ending)(w':World):Prop:=
 ∃ad cap,r=.returned (.slice ad (dig b m).length cap)/\zAK w' (Since w.heap.size w') b m ad/\Keeps zA w w'
theorem grow{b m i dc2:Nat}{da da2:Option Addr}{dc:Nat}{w wr w4:World}{z:Value}{o:Obj}(HO:wr.ownsRow 0 3 1 (.slice da i dc) i (zCR b m i))(HK:Keeps zA w wr)(HB:∀kb,(Value.slice da i dc).ownBlock=some kb->w.heap.size<=kb)
 (hz:z=.int .i64 ((m / b ^ i % b:Nat):Int)) (HA:zn (wr.alloc o) 0 3 1 (.slice da i dc) (i+1) (zCR b m i++[z]) da2 dc2 w4):
 w4.ownsRow 0 3 1 (.slice da2 (i+1) dc2) (i+1) (zCR b m (i+1))/\Keeps zA w w4/\∀kb,(Value.slice da2 (i+1) dc2).ownBlock=some kb->w.heap.size<=kb:=by
 subst hz;refine⟨?_,?_,?_⟩
 ·have h1:=HA.1
  rw[<-zLs] at h1;exact h1
 ·exact xD HA (HK.alloc _) (λq e hq=>by have:=HB q e;omega)
 ·intro kb e
  rcases HA.2.2 kb e with h1|h1
  ·exact HB kb h1
  ·rw[h1];have:=HK.size;simp;omega
theorem zLp(n:Nat)(hn:n<9000000000000000000)(w:World):Calls Tryz.prog 19 #[n] w (zBf 1000000000 n w):=by
 obtain⟨j0,hj0,hz0,hz1,hz2⟩:=info_parts zBI;obtain⟨N,hN⟩:=eX ((dig 1000000000 n).length);have HN:=yA hN;have hN2:N<=64:=by rw[hN];exact zDU (by decide) (yH hn (by decide))
 unfold zBf;rw[<-hN];clear hN;go_enter Tryz.func19,Tryz.ntmps19
 go_wp2_with fail
 go_loopw [0,3] (λnv ov wr=>∃(i m:Nat)(da:Option Addr)(dc:Nat),i<=N/\nv=.int .i64 m/\ov=.slice da i dc/\Hid (m=n / 1000000000 ^ i)/\m<9000000000000000000/\Hid (wr.ownsRow 0 3 1 (.slice da i dc) i (zCR 1000000000 n i))/\Hid (Keeps zA w wr)/\Hid (∀kb,(Value.slice da i dc).ownBlock=some kb->w.heap.size<=kb)) (λnv _ _=>(intOf nv).toNat)
 case atStart=>exact⟨0,n,none,0,yF _,rfl,rfl,by show _=_;simp,hn,World.ownsRow_nil _ _ _ _,yB _ _,λkb e=>by exact J170 _⟩
 case round =>
  obtain⟨i,m,da,dc,hi,rfl,rfl,HM,hm9,HO,HK,HB⟩:=hrel;have hrun:=zHe (b:=1000000000) (by decide) n i;rw[<-HM.out,<-HN.out] at hrun;by_cases hlt:0<m
  ·have i1:(0:Int)<m:=by omega
   have hiN:=hrun.1 hlt;have HD:Hid (m % 1000000000=n / 1000000000 ^ i % 1000000000/\m / 1000000000=n / 1000000000 ^ (i+1)):=⟨by rw[HM.out],by rw[HM.out,uS,xY]⟩;clear hrun;go_wp2_with (at_builtin;refine zI _ (by rfl) _ _ 51 (by rfl) 0 3 j0 _ 1 8 Tryz.underlying51 hj0 hz0 hz1 hz2 rfl (by decide) (.slice da i dc) i (zCR 1000000000 n i) (by rfl) (zD HO.out ((yB zA wr).alloc _) (λ_ _ h=>h)) (.slice (some ⟨wr.heap.size,0,none⟩) 1 1) 1 _ (by rfl) (xE (yK (yG wr _))) rfl (J168 _) (by unfold maxLen;omega) (by omega) (yF _) ?_;intro da2 dc2 w4 ha;have HA:=yA ha;clear ha)
   go_roundw
   case rel =>
    obtain⟨g1,g2,g3⟩:=grow HO.out HK.out HB.out (J190 _) HA.out;exact⟨i+1,m / 1000000000,da2,dc2,by omega,by exact J177 _,by go_num,HD.out.2,by omega,g1,g2,g3⟩
   case measure=>simp[intOf];omega
  ·exact J58 _
theorem zKl(n:Nat)(hn:n<9000000000000000000)(w:World):Calls Tryz.prog 23 #[n] w (zBf 10 n w):=by
 obtain⟨j0,hj0,hz0,hz1,hz2⟩:=info_parts zBI;obtain⟨N,hN⟩:=eX ((dig 10 n).length);have HN:=yA hN;have hN2:N<=64:=by rw[hN];exact zDU (by decide) (yH hn (by decide))
 unfold zBf;rw[<-hN];clear hN;go_enter Tryz.func23,Tryz.ntmps23
 go_wp2_with fail
 go_loopw [0,3] (λnv ov wr=>∃(i m:Nat)(da:Option Addr)(dc:Nat),i<=N/\nv=.int .i64 m/\ov=.slice da i dc/\Hid (m=n / 10 ^ i)/\m<9000000000000000000/\Hid (wr.ownsRow 0 3 1 (.slice da i dc) i (zCR 10 n i))/\Hid (Keeps zA w wr)/\Hid (∀kb,(Value.slice da i dc).ownBlock=some kb->w.heap.size<=kb)) (λnv _ _=>(intOf nv).toNat)
 case atStart=>exact⟨0,n,none,0,yF _,rfl,rfl,by show _=_;simp,hn,World.ownsRow_nil _ _ _ _,yB _ _,λkb e=>by exact J170 _⟩
 case round =>
  obtain⟨i,m,da,dc,hi,rfl,rfl,HM,hm9,HO,HK,HB⟩:=hrel;have hrun:=zHe (b:=10) (by decide) n i;rw[<-HM.out,<-HN.out] at hrun;by_cases hlt:0<m
  ·have i1:(0:Int)<m:=by omega
   have hiN:=hrun.1 hlt;have HD:Hid (m % 10=n / 10 ^ i % 10/\m / 10=n / 10 ^ (i+1)):=⟨by rw[HM.out],by rw[HM.out,uS,xY]⟩;clear hrun;go_wp2_with (at_builtin;refine zI _ (by rfl) _ _ 22 (by rfl) 0 3 j0 _ 1 8 Tryz.underlying22 hj0 hz0 hz1 hz2 rfl (by decide) (.slice da i dc) i (zCR 10 n i) (by rfl) (zD HO.out ((yB zA wr).alloc _) (λ_ _ h=>h)) (.slice (some ⟨wr.heap.size,0,none⟩) 1 1) 1 _ (by rfl) (xE (yK (yG wr _))) rfl (J168 _) (by unfold maxLen;omega) (by omega) (yF _) ?_;intro da2 dc2 w4 ha;have HA:=yA ha;clear ha)
   go_roundw
   case rel =>
    obtain⟨g1,g2,g3⟩:=grow HO.out HK.out HB.out (J190 _) HA.out;exact⟨i+1,m / 10,da2,dc2,by omega,by exact J177 _,by go_num,HD.out.2,by omega,g1,g2,g3⟩
   case measure=>simp[intOf];omega
  ·exact J58 _
theorem zDI(b:Nat)(hb:2<=b)(n:Nat)(i:Nat)(w:World)(F:Nat->Prop)(ad:Option Addr)(cap:Nat)(h:zAK w F b n ad):
 Calls Tryz.prog 47 #[.slice ad (dig b n).length cap,i] w λe w'=>e=.returned (.int .i64 ((n / b ^ i % b:Nat):Int))/\w=w':=by
 by_cases hi:i<(dig b n).length
 ·obtain⟨g,o,e,hg,c0⟩:=h i hi
  subst e;generalize n / b ^ i % b=d at c0 ⊢;generalize (dig b n).length=l at hi ⊢;have i1:(0:Int)<=i:=by omega
  have i2:(i:Int)<l:=by omega
  clear h;go_enter Tryz.func47,Tryz.ntmps47
  exact J145 _
 ·rw[zEs hb (by omega)]
  generalize (dig b n).length=l at hi ⊢;have i2:¬(i:Int)<l:=by omega
  clear h;go_enter Tryz.func47,Tryz.ntmps47
  exact J145 _
def zGJ(gs:Nat->Nat × Nat)(i:Nat)(p:Nat × Nat)(j:Nat):Nat × Nat:=if j=i then p else gs j
def zPF(md:Region.Mode)(l:List Oper)(n:Nat)(D:Nat->List Nat):Bool:=
 (List.range n).all λi=>((l[i]?).map λo=>(D i).all λa=>decide (a=i) || o.after.any λe=>Region.binds md e&&(D e.on).contains a).getD true
section
variable {P:Program}
theorem zCJ{id:Nat}{Q:Exit->Act->World->Prop}{a:Act}{w:World}{l:List Oper}(n:Nat)(hm:P.follows .mixedOrders=true)(hB:zHm .any l n=true)(D:Nat->List Nat)(hDB:zPF .any l n D=true)
 (R:World->World->Prop) (hrefl:∀w,R w w) (htrans:∀a b c,R a b->R b c->R a c) (hsz:∀a b,R a b->a.heap.size<=b.heap.size) (F:Nat->Value->(Nat->Nat × Nat)->World->Prop) (hst:∀j v gs W W',F j v gs W->R W W'->F j v gs W') (hloc:∀j v gs gs' W,(∀a,a∈D j->gs a=gs' a)->F j v gs W->F j v gs' W)
 (hstep:∀i o,i<n->l[i]?=some o->∀(vs:Nat->Value)(gs:Nat->Nat × Nat)(W:World)(Q':Exit->Act->World->Prop),R w.drew W->(∀j,(o.after.any λe=>Region.binds .any e&&decide (e.on=j))=true->F j (vs j) gs W) →
   (∀v W',R W W'->F i v (zGJ gs i (W.heap.size,W'.heap.size)) W'->Q' .normal ((zJ l vs a n).put o.dst v) W')->wpList P l.toArray Q' [o] (zJ l vs a n) W)
 (htail:∀(vs:Nat->Value)(gs:Nat->Nat × Nat)(W:World),R w.drew W->(∀j,j<n->F j (vs j) gs W)->(∀j,j<n->(gs j).2<=W.heap.size)->(∀i j,i<n->j<n->i≠j->(gs i).2<=(gs j).1\/(gs j).2<=(gs i).1)->wpList P l.toArray Q (l.drop n) (zJ l vs a n) W):(Code.region id l.toArray true).wp P Q a w:=by
 simp only[zHm,yS,yV,xB,xT] at hB;obtain⟨⟨⟨⟨⟨hn,hs⟩,hc⟩,hback⟩,hdis⟩,hseq⟩:=hB
 have key:∀(f:Nat)(listed:Array Bool)(vs:Nat->Value)(gs:Nat->Nat × Nat)(W:World),HeadInv .any l.toArray n listed->zBp listed n=f->R w.drew W->(∀j,j<n->listed.getD j true=true->F j (vs j) gs W)->(∀j,j<n->listed.getD j true=true->∀a,a∈D j->listed.getD a true=true)->(∀j,j<n->listed.getD j true=true->(gs j).2<=W.heap.size)->(∀i j,i<n->j<n->i≠j->listed.getD i true=true->listed.getD j true=true->(gs i).2<=(gs j).1\/(gs j).2<=(gs i).1) →
  wpAny P .any l.toArray Q (f+(l.length-n)) listed (zJ l vs a n) W:=by
  intro f
  induction f with
  | zero =>
    intro listed vs gs W inv hcnt hR hF hL hG hD
    have hall:=zCE n hcnt
    have he:listed=zo n (l.length-n):=by
     exact J10 _
    have h1:=htail vs gs W hR (λj hj=>hF j hj (hall j hj)) (λj hj=>hG j hj (hall j hj)) (λi j hi hj hne=>hD i j hi hj hne (hall i hi) (hall j hj));have hdl:(l.drop n).length=l.length-n:=by simp
    have:=wpAny_of_seq (P:=P) (md:=.any) (ops:=l.toArray) (Q':=Q) (l.drop n) n listed (zJ l vs a n) W (λj=>by simp[kV]) (by rw[hdl,he];exact hseq) h1
    rw[hdl] at this;rw[xA];exact this
  | succ f ih =>
    intro listed vs gs W inv hcnt hR hF hL hG hD
    obtain⟨i0,hi0,hu0,hb0⟩:=zBN n (by omega:zBp listed n≠0)
    have hr0:i0∈Region.ready .any l.toArray listed:=by
     exact J13 _
    rw[show f+1+(l.length-n)=(f+(l.length-n))+1 by omega];refine⟨λh0=>by exact J198 _,λi hi=>?_⟩
    have hin:i<n:=by
     exact J104 _
    have hun:=(uW.1 hi).1;obtain⟨_,o,ho,hafter⟩:=uW.1 hi;have ho':l[i]?=some o:=by simpa using ho
    refine zB0 ho (hstep i o hin ho' vs gs W _ hR (λj hj=>?_) (λv W' hR' hF'=>?_))
    ·exact J11 _
    ·have hd:o.dst=(l[i]?).bind (·.dst):=by rw[ho'];rfl
     show wpAny P .any l.toArray Q (f+(l.length-n)) (listed.setIfInBounds i true) ((zJ l vs a n).put o.dst v) W'
     rw[hd,zBO v n vs hin (hdis n (by omega)) (λm hm=>hdis m (by omega))];have hne0:∀j,j<n->listed.getD j true=true->j≠i:=λj hj hl e=>by subst e;rw[hun] at hl;cases hl
     refine ih _ _ (zGJ gs i (W.heap.size,W'.heap.size)) _ (inv.set hi hin) ?_ (htrans _ _ _ hR hR') (λj hj hl=>?_) (λj hj hl b hb=>?_) (λj hj hl=>?_) (λi1 j1 hi1 hj1 hne hl1 hl2=>?_)
     ·exact J74 _
     ·exact J50 _
     ·by_cases eb:b=i
      ·subst eb
       by_cases hs2:b<listed.size
       ·simp[hs2]
       ·simp[hs2]
      ·rw[uJ true (λh=>eb h.symm)]
       by_cases e:j=i
       ·subst e
        have h1:=xB.1 hDB j (xT.2 hin);simp only[ho',vM,kQ,xB] at h1;have h2:=h1 b hb;simp only[kD,yV,Array.any_eq_true',yS,List.contains_iff_mem] at h2;rcases h2 with h2|⟨e,he,hbe,h3⟩
        ·exact absurd h2 eb
        ·have h4:=hafter e he hbe
         have hle:e.on<j:=by
          have h1:=xB.1 hback j (xT.2 hin);simp only[ho',vM,kQ,uU] at h1;have h2:=h1 e he;simpa only[hbe,Bool.not_true,Bool.false_or,yV] using h2
         exact J113 _
       ·rw[uJ true (λh=>e h.symm)] at hl
        exact hL j hj hl b hb
     ·by_cases e:j=i
      ·subst e;unfold zGJ;rw[if_pos rfl];exact yT _
      ·rw[uJ true (λh=>e h.symm)] at hl
       unfold zGJ;rw[if_neg e];exact yX (hG j hj hl) (hsz _ _ hR')
     ·by_cases e1:i1=i
      ·subst e1
       have e2:¬j1=i1:=λh=>hne h.symm
       rw[uJ true hne] at hl2;unfold zGJ;rw[if_pos rfl,if_neg e2];exact .inr (hG j1 hj1 hl2)
      ·rw[uJ true (λh=>e1 h.symm)] at hl1
       by_cases e2:j1=i
       ·subst e2
        unfold zGJ;rw[if_pos rfl,if_neg e1];exact .inl (hG i1 hi1 hl1)
       ·rw[uJ true (λh=>e2 h.symm)] at hl2
        unfold zGJ;rw[if_neg e1,if_neg e2];exact hD i1 j1 hi1 hj1 hne hl1 hl2
 refine wp_region_any hm ?_
 have inv0:HeadInv .any l.toArray n (Array.replicate l.toArray.size false):=
  ⟨by simp,λj oj _ hl=>(J200 _),λt _ ht=>getD_in (by simpa using ht) (vH _ _)⟩
 have hcn:∀m,m<=l.length->zBp (Array.replicate l.toArray.size false) m=m:=by
  exact J26 _
 have hno:∀j,j<n->(Array.replicate l.toArray.size false).getD j true=true->False:=λj hj hl=>by
  have h1:j<l.length:=by omega
  have:(Array.replicate l.toArray.size false).getD j true=false:=by simp[h1]
  rw[this] at hl;cases hl
 have:=key n (Array.replicate l.toArray.size false) (slotsOf l a) (λ_=>(0,0)) w.drew inv0 (hcn n (by omega)) (hrefl _) (λj hj hl=>(hno j hj hl).elim) (λj hj hl=>(hno j hj hl).elim) (λj hj hl=>(hno j hj hl).elim) (λi j hi hj _ hl _=>(hno i hi hl).elim)
 rw[zBx l a n,show n+(l.length-n)=l.toArray.size by simp;omega] at this;exact this
end
