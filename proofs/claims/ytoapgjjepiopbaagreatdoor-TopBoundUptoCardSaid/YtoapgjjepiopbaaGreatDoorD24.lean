/- Layer D: texts joined. -/
import Derived.Test.YtoapgjjepiopbaaGreatDoorD23
set_option linter.all false
set_option maxHeartbeats 2000000
set_option maxRecDepth 8000
namespace Go.Proofs.YtoapgjjepiopbaaGreatDoor
open Go.RowKit
abbrev kP:=@Keeps.zC2
theorem zJ2{u:Nat}(h:u<10):zAs u=[UInt8.ofNat (48+u)]:=by
 unfold zAs;by_cases h0:u=0
 ·subst h0;rfl
 ·rw[if_neg h0,zBZ (by decide) h0,show u / 10=0 by omega,zAp,show u % 10=u by omega];rfl
theorem zGA(u:Nat):Lib.decDigits u=zAs u:=by
 induction u using Nat.strongRecOn with
 | _ u ih =>
   by_cases h:u<10
   ·rw[Lib.decDigits,dif_pos h,zJ2 h]
   ·rw[Lib.decDigits,dif_neg h,ih (u / 10) (by omega),<-zFe (n:=u) (by omega)]
theorem zMD(u:Nat):Lib.itoa (u:Int)=zAs u:=by
 unfold Lib.itoa;rw[if_neg (by omega),Int.toNat_natCast,zGA]
theorem repeatL_one(x:UInt8)(c:Nat):Lib.repeatL [x] c=List.replicate c x:=by
 induction c with
 | zero=>rfl
 | succ c ih=>rw[Lib.repeatL,ih];rfl
theorem zNs(k r:Nat)(h:r<10 ^ k)(hk:0<k):(zAs r).length<=k:=(zIh k r h hk).2
theorem zJG{B:Nat}{w w':World}(h:Below B w w'):Keeps (λq=>B<=q) w w':=⟨h.os,h.tape,h.output,h.size,λk _ hn=>h.block k (by omega)⟩
theorem zFg{w w':World}(h:Keeps zA w w'):Below w.heap.size w w':=⟨h.os,h.tape,h.output,h.size,λk hk=>h.block k hk (λh=>h)⟩
def zFy (w:World):Prop:=Lib.TabIs Tryz.prog w "internal/strconv.uint64pow10" .u64 Lib.pow10Tab
theorem zFy.keeps{w w':World}(h:zFy w)(hk:Below w.heap.size w w'):zFy w':=by
 unfold zFy Lib.TabIs World.var? at *;cases hg:Tryz.prog.globalNamed "internal/strconv.uint64pow10" with
 | none=>rw[hg] at h;cases h
 | some g =>
   rw[hg] at h;simp only[yO] at h ⊢;cases ho:w.heap[g]? with
   | none=>rw[ho] at h;cases h
   | some o =>
     rw[hk.block g (lt_of_block ho),ho];rw[ho] at h;exact h
theorem zI9{w:World}{k:Nat}{os:Array Obj}:Below w.heap.size w (Go.Sort.grow (w.drewN k) os):=
 ⟨rfl,rfl,rfl,by show w.heap.size<=(w.heap++os).size;rw[Array.size_append];omega,λj hj=>by
  show(w.heap++os)[j]?=w.heap[j]?
  rw[Array.getElem?_append_left hj]⟩
theorem zNc(u:Nat)(hu:u<9000000000000000000)(w:World)(ht:zFy w):Calls Tryz.prog 55 #[u] w λe w'=>e=.returned (.string ⟨(zAs u).toArray⟩)/\Below w.heap.size w w':=by
 refine(Tryz.strconv_Itoa u (by omega) (by omega) w ht).mono ?_
 rintro e w' ⟨rfl,k,os,rfl⟩
 exact⟨by rw[zMD],zI9⟩
theorem zJe(c:Nat)(hc:c<=1000)(w:World):Calls Tryz.prog 56 #[.string ⟨#[48]⟩,c] w λe w'=>e=.returned (.string ⟨(List.replicate c (48:UInt8)).toArray⟩)/\Below w.heap.size w w':=by
 refine(Tryz.strings_Repeat ⟨#[48]⟩ c w (by omega) (by show 1*c<=_;omega)).mono ?_
 rintro e w' ⟨rfl,h⟩
 exact⟨by rw[<-repeatL_one],h⟩
theorem zFL{T e:TypeId}{B b:Nat}{bs:List Value}{w w':World}(h:Lib.IsBuilderF T e B b bs w)(hb:Below w.heap.size w w'):Lib.IsBuilderF T e B b bs w':=by
 have key:∀p,Lib.BuilderAtF T e B b p bs w->Lib.BuilderAtF T e B b p bs w':=by
  rintro p ⟨h0,v,h1,h2,h3⟩
  exact⟨h0,v,(hb.block b (lt_of_block h1)).trans h1,h2.kept (row:=none) ⟨hb.os,hb.tape,hb.output,hb.size,λk hk _=>hb.block k hk⟩ (by cases hv:v.ownBlock <;> simp),h3⟩
 exact h.elim (λx=>.inl (key _ x)) (λx=>.inr (key _ x))
theorem zHO(l m:List UInt8):Lib.byteCells l++Lib.strCells ⟨m.toArray⟩=Lib.byteCells (l++m):=by
 rw[Lib.strCells_eq];simp[Lib.byteCells]
theorem zJ5(n:Nat)(w:World)(F:Nat->Prop)(xa:Option Addr)(xc:Nat)(hx:zAK w F 1000000000 n xa)(hF:∀k,F k->k<w.heap.size)(ht:zFy w)(hl:(dig 1000000000 n).length<=10000000000):
 Calls Tryz.prog 24 #[.slice xa (dig 1000000000 n).length xc] w λe w'=>e=.returned (.string ⟨(zAs n).toArray⟩)/\Keeps zA w w':=by
 by_cases hn:n=0
 ·subst hn
  rw[zAp];clear hx hF ht hl;show Calls _ _ #[.slice xa 0 xc] _ _
  go_enter Tryz.func24,Tryz.ntmps24
  exact J31 _
 have HX:=yA hx;have HFs:=yA hF;have HT:=yA ht;obtain⟨K,hK⟩:=eX ((dig 1000000000 n).length);have HK:=yA hK;have hK1:0<K:=by rw[hK,zi (by decide)];simp;omega
 have hK0:¬(K:Int)=0:=by omega
 have hK0b:((K:Int)==0)=false:=by simpa using hK0
 have HZ:Hid (n / 1000000000 ^ K=0):=by
  have h1:n<1000000000 ^ K:=uH λe=>by have:=(zi (by decide) K n).2 e;omega
  exact vT h1
 have HP:Hid (∀j,j<K->n / 1000000000 ^ j≠0):=λj hj e=>by
  have h1:=(zi (b:=1000000000) (by decide) j n).1 (by omega);have h2:0<n / 1000000000 ^ j:=Nat.div_pos h1 (uX (by decide));omega
 rw[<-hK] at hl ⊢;have HN:=yA hn;clear hx hF ht hK hn;go_enter Tryz.func24,Tryz.ntmps24
 go_upto_region 4 with fail
 obtain⟨b,hb⟩:=eX w.heap.size;have hr:(w.alloc (.cells #[.pointer none,.slice none 0 0] 118)).heap[b]?=some (.cells #[.pointer none,.slice none 0 0] 118 (0,0)):=by rw[hb];exact yG w _
 have hk1:Below b w (w.alloc (.cells #[.pointer none,.slice none 0 0] 118)):=(Below.refl b w).alloc (by omega) _;have hs1:b<(w.alloc (.cells #[.pointer none,.slice none 0 0] 118)).heap.size:=by rw[hb];simp
 have HB:=yA hb;rw[<-hb];generalize w.alloc (.cells #[.pointer none,.slice none 0 0] 118)=w1 at hr hk1 hs1 ⊢;have B1:Hid (Lib.IsBuilderF 118 5 b b (Lib.byteCells []) w1):=.inl ⟨yT _,.slice none 0 0,hr,World.ownsRowF_nil _ _ _ _,by simp[Value.ownBlock]⟩;have K1:=yA hk1;clear hr hk1 hs1 hb;go_upto_region 5 with fail
 go_loopw [4] (λiv wr=>∃(j:Nat)(z:Int)(l:List UInt8),j<=K/\iv=.int .i64 z/\z=(j:Int)-1/\Hid (l=if j=K then [] else zAs (n / 1000000000 ^ j))/\Hid (l.length+9*j<=9*K)/\Hid (Lib.IsBuilderF 118 5 b b (Lib.byteCells l) wr)/\Hid (Below b w wr)) (λiv _=>(intOf iv+1).toNat)
 case atStart=>exact⟨K,_,[],yT _,rfl,rfl,by show _=_;rw[if_pos rfl],by show _<=_;simp,B1,K1⟩
 case round =>
  obtain⟨j,z,l,hj,rfl,hz,HL,HLL,HBW,HKW⟩:=hrel;have hsz:Hid (b<=wr.heap.size):=by have:=HKW.out.size;have:=HB.out;show _<=_;omega
  cases j with
  | zero =>
    obtain rfl:z=-1:=by omega
    clear hz
    have hl0:l=zAs n:=by
     have h:=HL.out;rw[if_neg (by omega),Nat.pow_zero,Nat.div_one] at h;exact h
    subst hl0;clear HL HLL;go_wp2_with (go_at_call 58;refine(Tryz.Builder_String_any_k b b _ wr HBW.out hsz.out).mono ?_;rintro e w2 ⟨rfl,_,g2,_⟩;have G2:=yA g2;clear g2)
    go_ret
    exact⟨rfl,kP (by rw[<-HB.out];exact HKW.out.trans G2.out) _⟩
  | succ m =>
    obtain rfl:z=(m:Int):=by omega
    clear hz;have i0:(0:Int)<=m:=by omega
    have i1:(m:Int)<K:=by omega
    obtain⟨g,o,e1,hg,c1⟩:=(HX.out.keeps (zJG HKW.out) (λk hk hbk=>by have:=HFs.out k hk;have:=HB.out;have h3:b<=k:=hbk;omega)) m (by have:=HK.out;omega);subst e1;have hd:=zCv (b:=1000000000) (by decide) n m
    have HNX:Hid (n / 1000000000 ^ m=n / 1000000000 ^ (m+1)*1000000000+n / 1000000000 ^ m % 1000000000):=by
     show _=_
     have h1:=vZ (n / 1000000000 ^ m) 1000000000;rw[uS,<-xY] at h1;rw[Nat.mul_comm (n / 1000000000 ^ (m+1))];exact h1.symm
    have hn0:=HP.out m (by omega);have HT1:Hid (zFy wr):=HT.out.keeps (by rw[<-HB.out];exact HKW.out);generalize n / 1000000000 ^ m % 1000000000=d at c1 hd HNX;have hdl:=zNs 9 d (by omega) (by decide);obtain⟨ln,hln⟩:=eX ((zAs d).length);rw[<-hln] at hdl;obtain⟨c,hc⟩:=eX (α:=Nat) (9-ln);have hci:(9:Int)-(ln:Int)=(c:Int):=by omega
    have hsl:(⟨(zAs d).toArray⟩:ByteArray).size=ln:=by rw[hln];simp[ByteArray.size]
    obtain⟨s,hs⟩:=eX (α:=ByteArray) (⟨(zAs d).toArray⟩);rw[<-hs] at hsl;have hsl2:s.toList.length=ln:=by rw[<-hsl,ByteArray.toList_eq];exact Array.length_toList
    have hsl3:s.data.size=ln:=hsl;have HIT:Hid (Calls Tryz.prog 55 #[d] wr λe w'=>e=.returned (.string s)/\Below wr.heap.size wr w'):=by rw[hs];exact zNc d (by omega) wr HT1.out
    have HLN:Hid (ln=(zAs d).length/\c=9-ln/\s=⟨(zAs d).toArray⟩):=⟨hln,hc,hs⟩;clear hg hln hs hc;rcases (show m+1=K\/m+1<K by omega) with hm|hm
    ·have i2:¬(m:Int)<(K:Int)-1:=by omega
     have hl0:l=[]:=by have h:=HL.out;rw[if_pos hm] at h;exact h
     subst hl0
     have HNEW:Hid (n / 1000000000 ^ m=d):=by
      have h1:=HNX.out;rw[hm,HZ.out] at h1;show _=_
      omega
     clear HL;have hlt0:=HLL.out;go_upto_region 8 with(go_at_call 55;refine HIT.out.mono ?_;rintro e w2 ⟨rfl,g2⟩;have BW2:=yA (zFL HBW.out g2);have hs2:b<=w2.heap.size:=(by have:=g2.size;have:=hsz.out;omega);have G2:Hid (Below b w w2):=HKW.out.trans (Below.mono g2 hsz.out);clear g2)
     go_wp2_with (go_at_call 57;refine(Tryz.Builder_WriteString_k b b _ s w2 BW2.out (by rw[Lib.byteCells_length,hsl,List.length_nil];omega) hs2).mono ?_;rintro e w3 ⟨rfl,b3,g3,_⟩;have B3:=yA b3;have G3:Hid (Below b w w3):=G2.out.trans g3;clear b3 g3)
     go_roundw
     case rel =>
      refine⟨m,_,zAs d,by omega,rfl,by omega,?_,?_,?_,G3.out⟩
      ·show _=_
       rw[if_neg (by omega),HNEW.out]
      ·show _<=_
       rw[<-HLN.out.1];omega
      ·have h:=B3.out
       rw[HLN.out.2.2,zHO,uG] at h;exact .inr h
     case measure=>(try simp[intOf]) <;> (try omega)
    ·have i2:(m:Int)<(K:Int)-1:=by omega
     have hl0:l=zAs (n / 1000000000 ^ (m+1)):=by have h:=HL.out;rw[if_neg (by omega)] at h;exact h
     have hq0:=HP.out (m+1) hm
     have HNEW:Hid (zAs (n / 1000000000 ^ m)=l++(List.replicate c 48++zAs d)):=by
      show _=_
      have h1:=zMe 9 (n / 1000000000 ^ (m+1)) d hq0 (by omega);have h2:=(zIh 9 d (by omega) (by decide)).1;rw[<-HLN.out.1,<-HLN.out.2.1] at h2;rw[HNX.out,hl0,<-h2,<-h1]
     clear HL hl0 hq0;have hlt0:=HLL.out;have HRE:Hid (∀W,Calls Tryz.prog 56 #[.string ⟨#[48]⟩,c] W λe w'=>e=.returned (.string ⟨(List.replicate c (48:UInt8)).toArray⟩)/\Below W.heap.size W w'):=λW=>zJe c (by have:=HLN.out;omega) W
     go_upto_region 9 with(go_at_call 55;refine HIT.out.mono ?_;rintro e w2 ⟨rfl,g2⟩;have BW2:=yA (zFL HBW.out g2);have hs2:b<=w2.heap.size:=(by have:=g2.size;have:=hsz.out;omega);have G2:Hid (Below b w w2):=HKW.out.trans (Below.mono g2 hsz.out);clear g2)
     go_upto_region 10 with(go_at_call 56;refine(HRE.out w2).mono ?_;rintro e w3 ⟨rfl,g3⟩;have BW3:=yA (zFL BW2.out g3);have hs3:b<=w3.heap.size:=(by have:=g3.size;omega);have G3:Hid (Below b w w3):=G2.out.trans (Below.mono g3 hs2);clear g3)
     obtain⟨s2,hs2'⟩:∃s2:ByteArray,s2=({ data:=Array.replicate c 48 }++s):=⟨_,rfl⟩
     have HS2:Hid (s2=⟨(List.replicate c 48++zAs d).toArray⟩):=by
      show _=_
      rw[hs2',HLN.out.2.2];apply ByteArray.ext
      rw[ByteArray.data_append];simp
     have hz2:s2.size<=9:=by rw[HS2.out];simp only[ByteArray.size,List.size_toArray,xC,uF];rw[<-HLN.out.1,HLN.out.2.1];omega
     rw[<-hs2'];clear hs2' HNX;go_wp2_with (go_at_call 57;refine(Tryz.Builder_WriteString_k b b _ s2 w3 BW3.out (by rw[Lib.byteCells_length];omega) hs3).mono ?_;rintro e w4 ⟨rfl,b4,g4,_⟩;have B4:=yA b4;have G4:Hid (Below b w w4):=G3.out.trans g4;clear b4 g4)
     go_roundw
     case rel =>
      refine⟨m,_,l++(List.replicate c 48++zAs d),by omega,rfl,by omega,?_,?_,?_,G4.out⟩
      ·show _=_
       rw[if_neg (by omega),HNEW.out]
      ·show _<=_
       rw[xC,xC,uF,<-HLN.out.1];have:=HLN.out.2.1;omega
      ·have h:=B4.out
       rw[HS2.out,zHO] at h;exact .inr h
     case measure=>(try simp[intOf]) <;> (try omega)
theorem zOS{n:Nat}{w:World}{F:Nat->Prop}{v:Value}(h:zN w F 1000000000 n v)(ht:zFy w)(hl:(dig 1000000000 n).length<=10000000000):Calls Tryz.prog 24 #[v] w λe w'=>e=.returned (.string ⟨(zAs n).toArray⟩)/\Keeps zA w w':=by
 obtain⟨ad,cap,rfl,h1⟩:=h.lt;exact zJ5 n w _ ad cap h1 (λk hk=>hk) ht hl
theorem zGI(cs:List Int)(mu:Int)(bs:List Bd)(w:World)(F:Nat->Prop)(uca uta:Option Addr)(ucc utc:Nat)(hcs:zAw w F cs uca)(hbd:zBy w F bs uta)(hF:∀k,F k->k<w.heap.size)(hkd:∀b,b∈bs->Ac.zBe b.acts)(hsz:zAj bs<900000000)(hl1:cs.length<1000000000)(hl2:bs.length<1000000000)(ht:zFy w):
 Calls Tryz.prog 8 #[.agg #[.slice uca cs.length ucc,mu,.slice uta bs.length utc]] w λe w'=>e=.returned (.string (tell (zX ⟨cs,mu,bs⟩) (unS bs)))/\Keeps zA w w':=by
 have HTB:=yA ht;clear ht;obtain⟨r,hr⟩:=eX (zX ⟨cs,mu,bs⟩);have HR:=yA hr;rw[<-hr];have HRT:Hid (∀W,Keeps zA w W->Calls Tryz.prog 16 #[.agg #[.slice uca cs.length ucc,mu,.slice uta bs.length utc]] W λe w'=>e=.returned r/\Keeps zA W w'):=λW hk=>hr ▸ zCo cs mu bs W F uca uta ucc utc (hcs.keeps hk (λ_ _ h=>h)) (hbd.keeps hk (λ_ _ h=>h)) (λk h=>yH (hF k h) hk.size) hkd hsz hl1 hl2
 have HBO:Hid (r=true->∀W,Keeps zA w W->Calls Tryz.prog 17 #[.agg #[.slice uca cs.length ucc,mu,.slice uta bs.length utc]] W λe w'=>∃z1 z2,e=.returned (.agg #[z1,z2])/\zN w' (λ_=>True) 1000000000 (unS bs) z1/\zN w' (λ_=>True) 1000000000 (unW bs) z2/\Keeps zA W w'):=λhr1 W hk=>zHG cs mu bs W F uca uta ucc utc (hbd.keeps hk (λ_ _ h=>h)) (λk h=>yH (hF k h) hk.size) (zCD (u:=⟨cs,mu,bs⟩) (hr.symm.trans hr1)) hsz hl2
 have HDL:Hid (r=true->∀m,m<=unW bs+1->(dig 1000000000 m).length<=10000000000):=λhr1 m hm=>yX (zJc (by decide) (zCD (u:=⟨cs,mu,bs⟩) (hr.symm.trans hr1)) hsz (zHQ (u:=⟨cs,mu,bs⟩) (hr.symm.trans hr1)) hm) (by decide)
 have HSW:Hid (unS bs<=unW bs):=zFR bs;clear hcs hbd hF hsz hl1 hl2 hr hkd;go_enter Tryz.func8,Tryz.ntmps8
 go_upto_region 1 with fail
 obtain⟨b1,hb1⟩:=eX w.heap.size;have hr1:zB (w.alloc (.cells #[.slice uca cs.length ucc,mu,.slice uta bs.length utc] 25)) b1 [.slice uca cs.length ucc,.int .i64 mu,.slice uta bs.length utc]:=J169 _;have hk1:Keeps zA w (w.alloc (.cells #[.slice uca cs.length ucc,mu,.slice uta bs.length utc] 25)):=(yB _ _).alloc _;rw[<-hb1];generalize w.alloc (.cells #[.slice uca cs.length ucc,mu,.slice uta bs.length utc] 25)=w1 at hr1 hk1 ⊢;have R1:=yA hr1;have K1:=yA hk1;obtain⟨y0,y1,y2⟩:=hr1.three;clear hr1 hk1 hb1;generalize cs.length=n0 at y0 R1 HRT HBO;generalize bs.length=n2 at y2 R1 HRT HBO;clear HR;cases r
 ·go_wp2_with (go_at_call 16;refine(HRT.out _ K1.out).mono ?_;rintro e w2 ⟨rfl,g2⟩;have c:=(R1.out.keeps g2 (λh=>h)).three;clear y0 y1 y2;obtain⟨y0,y1,y2⟩:=c;have K2:Hid (Keeps zA w w2):=K1.out.zC g2;clear g2)
  go_ret
  exact⟨rfl,K2.out⟩
 ·have HBO2:=yA (HBO.out rfl)
  have HDL2:=yA (HDL.out rfl);clear HBO HDL;go_upto_region 3 with(go_at_call 16;refine(HRT.out _ K1.out).mono ?_;rintro e w2 ⟨rfl,g2⟩;have c:=(R1.out.keeps g2 (λh=>h)).three;clear y0 y1 y2;obtain⟨y0,y1,y2⟩:=c;have K2:Hid (Keeps zA w w2):=K1.out.zC g2;clear g2)
  go_wp2_with (first
   | (go_at_call 17;refine(HBO2.out _ K2.out).mono ?_;rintro e w3 ⟨z1,z2,rfl,n1,n2,g3⟩;have N1:=yA n1;have N2:=yA n2;obtain⟨p1,r1,rfl,_⟩:=n1;generalize (dig 1000000000 (unS bs)).length=q1 at N1 ⊢;obtain⟨p2,r2,rfl,_⟩:=n2;generalize (dig 1000000000 (unW bs)).length=q2 at N2 ⊢;have K3:Hid (Keeps zA w w3):=K2.out.zC g3;have hfl:=zGU p1 p2 q1 r1 q2 r2 w3;have hfm:=zGs p1 p2 q1 r1 q2 r2 w3;clear g3)
   | (go_at_call 24;refine(zOS N1.out (HTB.out.keeps (zFg K3.out)) (HDL2.out _ (by have:=HSW.out;omega))).mono ?_;rintro e w4 ⟨rfl,g4⟩;have K4:Hid (Keeps zA w w4):=K3.out.zC g4;clear g4))
  go_ret
  exact⟨rfl,K4.out⟩
end Go.Proofs.YtoapgjjepiopbaaGreatDoor
namespace Go.Proofs.YtoapgjjepiopbaaGreatDoor
abbrev w64(x:Int):Int:=RowKit.wrap64 x
def zEk(b:Bool):Int:=if b then 1 else 0
def zF0(k a b:Int):Int:=
 if k=5 then w64 (a+b) else if k=6 then w64 (a-b) else if k=7 then w64 (a*b)
 else if k=8 then (if b=0 then 0 else w64 (Int.tdiv a b))
 else if k=9 then (if b=0 then 0 else Int.tmod a b)
 else if k=10 then zEk (decide (a=b)) else if k=11 then zEk (decide (a≠b))
 else if k=12 then zEk (decide (a<b)) else if k=13 then zEk (decide (a<=b))
 else if k=14 then zEk (decide (b<a)) else if k=15 then zEk (decide (b<=a))
 else if k=16 then zEk (decide (a≠0)&&decide (b≠0))
 else zEk (decide (a≠0) || decide (b≠0))
mutual
def Ex.val(regs:List Int):Ex->Int
 | .mk k num _ l =>
   if k=1 then num else if k=2 then regs.getD num.toNat 0
   else if k=3 then w64 (-((Ex.zD4 regs l).getD 0 0)) else if k=4 then zEk (decide ((Ex.zD4 regs l).getD 0 0=0))
   else zF0 k ((Ex.zD4 regs l).getD 0 0) ((Ex.zD4 regs l).getD 1 0)
def Ex.zD4(regs:List Int):List Ex->List Int
 | []=>[]
 | x :: r=>Ex.val regs x :: Ex.zD4 regs r
end
theorem Ex.zDA{regs:Int}{x:Ex}(h:x.may regs=true):zAE x.kind x.num x.nm x.args.length regs=true/\Ex.zAC regs x.args=true:=by
 cases x;simp only[Ex.may,yS] at h;exact h
theorem Ex.zE3{regs:Int}{l:List Ex}(h:Ex.zAC regs l=true){a:Ex}(ha:a∈l):a.may regs=true:=by
 induction l with
 | nil=>cases ha
 | cons x r ih =>
   simp only[Ex.zAC,yS] at h;rcases xU.1 ha with e|e
   ·subst e;exact h.1
   ·exact ih h.2 e
theorem zDV{k num regs:Int}{nm:ByteArray}{n:Nat}(h:zAE k num nm n regs=true):(k=1/\n=0)\/(k=2/\n=0/\0<=num/\num<regs)\/((k=3\/k=4)/\n=1)\/(5<=k/\k<=17/\n=2):=by
 unfold zAE at h;split at h
 ·rename_i e
  simp only[yS,beq_iff_eq,yV] at h;exact .inl ⟨e,h.2⟩
 ·split at h
  ·rename_i e
   simp only[yS,beq_iff_eq,yV] at h;exact .inr (.inl ⟨e,h.2,h.1.1.1,h.1.1.2⟩)
  ·simp only[yS,beq_iff_eq,yV] at h
   obtain⟨⟨⟨⟨h1,h2⟩,h3⟩,h4⟩,h5⟩:=h;split at h5
   ·rename_i e;exact .inr (.inr (.inl ⟨e,h5⟩))
   ·rename_i e;exact .inr (.inr (.inr ⟨by omega,h2,h5⟩))
structure WFr where
 rest:List Ac
 all:List Ac
 left:Nat
structure WTh where
 st:Int
 regs:List Int
 fs:List WFr
structure zy where
 cells:List Int
 owners:List Int
 zP:List WTh
def zA4(regs:List Int)(fs:List WFr):Option (List Int × List WFr):=
 match fs.getLast? with
 | none=>none
 | some f =>
   match f.rest with
   | []=>some (regs,if 1<f.left then fs.dropLast++[⟨f.all,f.all,f.left-1⟩] else fs.dropLast)
   | a :: r =>
     if a.kind=1 then some (regs.set a.reg.toNat (a.ex.val regs),fs.dropLast++[⟨r,f.all,f.left⟩])
     else if a.kind=10 then some (regs,fs.dropLast++[⟨r,f.all,f.left⟩]++[⟨if a.ex.val regs≠0 then a.thn else a.els,if a.ex.val regs≠0 then a.thn else a.els,1⟩])
     else if a.kind=11 then some (regs,if 0<a.count then fs.dropLast++[⟨r,f.all,f.left⟩]++[⟨a.thn,a.thn,a.count.toNat⟩] else fs.dropLast++[⟨r,f.all,f.left⟩])
     else none
mutual
def Ac.lw:Ac->Nat
 | .mk k _ _ _ c t e=>1+(if k=10 then Ac.lwL t+Ac.lwL e+1 else if k=11 then c.toNat*(Ac.lwL t+1) else 0)
def Ac.lwL:List Ac->Nat
 | []=>0
 | x :: r=>Ac.lw x+Ac.lwL r
end
theorem Ac.zRI(x:Ac):x.lw=1+(if x.kind=10 then Ac.lwL x.thn+Ac.lwL x.els+1 else if x.kind=11 then x.count.toNat*(Ac.lwL x.thn+1) else 0):=by
 cases x;rw[Ac.lw];rfl
def WFr.mea(f:WFr):Nat:=Ac.lwL f.rest+(f.left-1)*(Ac.lwL f.all+1)+1
def zBR:List WFr->Nat
 | []=>0
 | f :: r=>f.mea+zBR r
theorem zAr:(a b:List WFr)->zBR (a++b)=zBR a+zBR b
 | [],b=>by simp[zBR]
 | x :: r,b=>by have:=zAr r b;simp only[vU,zBR,this];omega
theorem zAg{α:Type}{l:List α}{x:α}(h:l.getLast?=some x):l=l.dropLast++[x]:=by
 have hn:l ≠ []:=λe=>by subst e;simp at h
 rw[List.getLast?_eq_some_getLast hn] at h;have h2:=List.dropLast_concat_getLast hn;simp only[yN] at h;rw[h] at h2;exact h2.symm
theorem zAd{regs regs':List Int}{fs fs':List WFr}(h:zA4 regs fs=some (regs',fs')):zBR fs'<zBR fs:=by
 unfold zA4 at h;cases hl:fs.getLast? with
 | none=>rw[hl] at h;cases h
 | some f =>
   have hs:=zAg hl
   have hm:zBR fs=zBR fs.dropLast+f.mea:=by
    have:=congrArg zBR hs
    rw[zAr] at this;simpa [zBR] using this
   rw[hl] at h;simp only at h;cases hr:f.rest with
   | nil =>
     rw[hr] at h;simp only[yN,xZ] at h;obtain⟨_,rfl⟩:=h;split
     ·rw[zAr,hm]
      simp only[zBR,WFr.mea,hr,Ac.lwL];obtain⟨q,hq⟩:∃q,f.left-1=q+1:=⟨f.left-2,by omega⟩
      rw[hq,uY];simp only[Nat.add_sub_cancel,Nat.one_mul,xA,uQ,show f.left-1-1=q by omega];generalize q*(Ac.lwL f.all+1)=z;omega
     ·rw[hm];simp[WFr.mea]
   | cons a r =>
     rw[hr] at h;have hf:f.mea=a.lw+Ac.lwL r+(f.left-1)*(Ac.lwL f.all+1)+1:=by simp only[WFr.mea,hr,Ac.lwL]
     have ha:=Ac.zRI a;simp only at h;split at h
     ·simp only[yN,xZ] at h
      obtain⟨_,rfl⟩:=h;rw[zAr,hm,hf];simp only[zBR,WFr.mea];omega
     ·split at h
      ·rename_i h10
       rw[if_pos h10] at ha;simp only[yN,xZ] at h;obtain⟨_,rfl⟩:=h;rw[zAr,zAr,hm,hf];simp only[zBR,WFr.mea];split <;> omega
      ·rename_i h10
       split at h
       ·rename_i h11
        rw[if_neg h10,if_pos h11] at ha;simp only[yN,xZ] at h;obtain⟨_,rfl⟩:=h;split
        ·rename_i hc
         rw[zAr,zAr,hm,hf];simp only[zBR,WFr.mea];obtain⟨q,hq⟩:∃q,a.count.toNat=q+1:=⟨a.count.toNat-1,by omega⟩
         rw[hq] at ha ⊢;rw[uY] at ha;simp only[Nat.add_sub_cancel,Nat.one_mul] at ha ⊢;omega
        ·rw[zAr,hm,hf]
         simp only[zBR,WFr.mea];omega
       ·cases h
def zIX:Nat->List Int->List WFr->List Int × List WFr
 | 0,r,fs=>(r,fs)
 | n+1,r,fs=>match zA4 r fs with
   | none=>(r,fs)
   | some p=>zIX n p.1 p.2
theorem zLW:∀(n m:Nat)(r:List Int)(fs:List WFr),zBR fs<=n->zBR fs<=m->zIX n r fs=zIX m r fs:=by
 intro n
 induction n with
 | zero =>
   intro m r fs h1 _
   cases m with
   | zero=>rfl
   | succ m =>
     simp only[zIX];cases h:zA4 r fs with
     | none=>rfl
     | some p=>have:=zAd (regs':=p.1) (fs':=p.2) h;omega
 | succ n ih =>
   intro m r fs h1 h2
   cases m with
   | zero =>
     simp only[zIX];cases h:zA4 r fs with
     | none=>rfl
     | some p=>have:=zAd (regs':=p.1) (fs':=p.2) h;omega
   | succ m =>
     simp only[zIX];cases h:zA4 r fs with
     | none=>rfl
     | some p =>
       have:=zAd (regs':=p.1) (fs':=p.2) h
       exact ih m p.1 p.2 (by omega) (by omega)
def loc(r:List Int)(fs:List WFr):List Int × List WFr:=zIX (zBR fs) r fs
theorem zEm{r:List Int}{fs:List WFr}(h:zA4 r fs=none):loc r fs=(r,fs):=by
 unfold loc;cases hm:zBR fs with
 | zero=>rfl
 | succ n=>simp only[zIX,h]
theorem zCQ{r r':List Int}{fs fs':List WFr}(h:zA4 r fs=some (r',fs')):loc r fs=loc r' fs':=by
 have hl:=zAd h;unfold loc;obtain⟨n,hn⟩:∃n,zBR fs=n+1:=⟨zBR fs-1,by omega⟩
 rw[hn];simp only[zIX,h];exact zLW n _ _ _ (by omega) (yT _)
theorem zKr{P:List Int->List WFr->Prop}(hs:∀r fs r' fs',P r fs->zA4 r fs=some (r',fs')->P r' fs'){r:List Int}{fs:List WFr}(h:P r fs):P (loc r fs).1 (loc r fs).2/\zA4 (loc r fs).1 (loc r fs).2=none:=by
 suffices H:∀n r fs,zBR fs<=n->P r fs->P (loc r fs).1 (loc r fs).2/\zA4 (loc r fs).1 (loc r fs).2=none from H (zBR fs) r fs (yT _) h
 intro n
 induction n with
 | zero =>
   intro r fs hn hp
   cases h:zA4 r fs with
   | none=>rw[zEm h];exact⟨hp,h⟩
   | some p=>have:=zAd (regs':=p.1) (fs':=p.2) h;omega
 | succ n ih =>
   intro r fs hn hp
   cases h:zA4 r fs with
   | none=>rw[zEm h];exact⟨hp,h⟩
   | some p =>
     have:=zAd (regs':=p.1) (fs':=p.2) h
     rw[zCQ (r':=p.1) (fs':=p.2) h];exact ih p.1 p.2 (by omega) (hs r fs p.1 p.2 hp h)
def WTh.zero:WTh:=⟨0,[],[]⟩
def zy.get(m:zy)(i:Nat):WTh:=m.zP.getD i WTh.zero
def zy.zA0(m:zy)(i:Nat)(t:WTh):zy:={ m with zP:=m.zP.set i t }
def WTh.local(t:WTh):WTh:=⟨t.st,(loc t.regs t.fs).1,(loc t.regs t.fs).2⟩
def WTh.next(t:WTh):Option Ac:=t.fs.getLast?.bind λf=>f.rest.head?
def WTh.on(t:WTh):WTh:=match t.fs.getLast? with
 | none=>t
 | some f=>{ t with fs:=t.fs.dropLast++[⟨f.rest.tail,f.all,f.left⟩] }
def Un.body(u:Un)(i:Nat):Bd:=u.threads.getD i ⟨0,[]⟩
def zFU(b:Bd):WTh:=WTh.local ⟨2,List.replicate b.regs.toNat 0,[⟨b.acts,b.acts,1⟩]⟩
def zGb(u:Un)(m:zy)(i:Nat):zy:=m.zA0 i (zFU (u.body i))
def zBr(u:Un):zy:=zGb u ⟨u.cells,List.replicate u.mutexes.toNat (-1),u.threads.map λ_=>⟨1,[],[]⟩⟩ 0
def zAc(m:zy)(i:Nat):Int × Int:=
 if (m.get i).st≠2 then (0,0) else match (m.get i).next with
  | none=>(9,i)
  | some a=>(a.kind-1,a.obj)
def zBA(m:zy)(i:Nat):Bool:=
 let a:=zAc m i
 if a.1=0 then false else if a.1=4 then decide (m.owners.getD a.2.toNat 0=-1)
 else if a.1=7 then decide ((m.get a.2.toNat).st≠2)&&decide ((m.get a.2.toNat).st≠4) else true
def zA1(m:zy):List Int:=((List.range m.zP.length).filter (zBA m)).map λ(i:Nat)=>(i:Int)
structure Evt where
 thread:Int
 kind:Int
 obj:Int
 value:Int
 bad:Int
def Evt.zero:Evt:=⟨0,0,0,0,0⟩
def zCF(m:zy)(i:Int):Int:=
 if i<0\/(m.zP.length:Int)<=i then 2 else
 let s:=(m.get i.toNat).st
 if s=1 then 80 else if s=3 then 81 else if s=4 then 82 else if zBA m i.toNat then 0 else 83
def doM(u:Un)(m:zy)(i:Nat)(a:Ac):zy × Int × Int:=
 let t:=m.get i
 let c:=m.cells.getD a.obj.toNat 0
 if a.kind=2 then (m.zA0 i { t with regs:=t.regs.set a.reg.toNat c },c,0)
 else if a.kind=3 then ({ m with cells:=m.cells.set a.obj.toNat (a.ex.val t.regs) },a.ex.val t.regs,0)
 else if a.kind=4 then ({ m with cells:=m.cells.set a.obj.toNat (w64 (c+a.ex.val t.regs)) }.zA0 i { t with regs:=t.regs.set a.reg.toNat c },c,0)
 else if a.kind=5 then ({ m with owners:=m.owners.set a.obj.toNat i },0,0)
 else if a.kind=6 then (if m.owners.getD a.obj.toNat 0=i then ({ m with owners:=m.owners.set a.obj.toNat (-1) },0,0) else (m,0,2))
 else if a.kind=7 then (if (m.get a.obj.toNat).st=1 then (zGb u m a.obj.toNat,0,0) else (m,0,4))
 else if a.kind=8 then (if (m.get a.obj.toNat).st=1 then (m,0,3) else (m,0,0))
 else (m,a.ex.val t.regs,if a.ex.val t.regs=0 then 1 else 0)
def zAJ(u:Un)(m:zy)(i:Nat):zy × Evt:=
 match (m.get i).next with
 | none=>(m.zA0 i { m.get i with st:=3 },⟨i,(zAc m i).1,(zAc m i).2,0,0⟩)
 | some a =>
   let r:=doM u m i a
   if r.2.2≠0 then (r.1.zA0 i { r.1.get i with st:=4 },⟨i,(zAc m i).1,(zAc m i).2,r.2.1,r.2.2⟩)
   else (r.1.zA0 i (r.1.get i).on.local,⟨i,(zAc m i).1,(zAc m i).2,r.2.1,0⟩)
def stepM(u:Un)(m:zy)(i:Int):zy × Evt × Int:=
 if zCF m i=0 then ((zAJ u m i.toNat).1,(zAJ u m i.toNat).2,0) else (m,Evt.zero,zCF m i)
