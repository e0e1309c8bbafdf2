/- Layer N: texts joined. -/
import Derived.Test.YtoapgjjepiopbaaGreatDoorN03
set_option linter.all false
namespace Go.Proofs.YtoapgjjepiopbaaGreatDoor
open Go.RowKit
theorem J8 (P:Prop) (h:P:=by
 have hl2:i < l.length:=by rw [<- HNL.out];exact hlt
 have hd:=HN.out;rw [Ex.zCc hl2] at hd;obtain ⟨g,o,a,c,e1,hg,d0,d1,d2,d3,hx⟩:=(HL.out.keeps (K1.out.zB HK.out) (fun _ _ h=>h)).at hl2;subst e1;have HC:Hid (∀ W,Keeps zA wr W -> Calls Tryz.prog 148 #[.agg #[.int .i64 l[i].kind, .int .i64 l[i].num, .string l[i].nm, .slice a l[i].args.length c], .int .i64 regs] W fun e w'=>e=.returned (.bool (l[i].may regs)) /\ Keeps zA W w'):=fun W hk=>IH.out _ (List.getElem_mem hl2) regs W F a c (hx.keeps hk (fun _ _ h=>h)) (by have:=Ex.zBx (List.getElem_mem hl2);have:=HB.out;omega)
 obtain ⟨m,hm⟩:=eX (l[i].may regs);rw [<- hm] at HC hd;have HD:=Lib.hid hd;clear hx hm hd;generalize l[i].kind=x0 at d0 HC;generalize l[i].num=x1 at d1 HC;generalize l[i].nm=x2 at d2 HC;generalize l[i].args.length=x3 at d3 HC;cases m
 ·go_wp2_with (go_at_call 148;refine (HC.out _ (Keeps.refl _ _)).mono ?_;rintro e w2 ⟨rfl,g1⟩;have G1:=Lib.hid g1;clear g1)
  go_ret
  exact ⟨by rw [<- HD.out];rfl,(K1.out.zB HK.out).zB G1.out⟩
 ·go_wp2_with (go_at_call 148;refine (HC.out _ (Keeps.refl _ _)).mono ?_;rintro e w2 ⟨rfl,g1⟩;have G1:=Lib.hid g1;clear g1)
  go_roundw
  case rel=>exact ⟨i+1,by omega,by go_num,by show _=_;rw [<- HD.out];rfl,HK.out.zB G1.out⟩
  case measure=>simp [intOf];omega):P:=h
theorem J116 (P:Prop) (h:P:=by
 have c1:=hr1.cell (k:=1) (v:=.int .i64 0) rfl;have c2:=hr1.cell (k:=2) (v:=.string nm) rfl;have c3:=hr1.cell (k:=3) (v:=.slice ad 1 cap) rfl;clear hr1 hk1 hb1;go_upto_region 13 with fail
 clear c0 c1 c2;go_loopw [6,7] (fun iv bv wr=>∃ i:Nat,i <= 1 /\ iv=.int .i64 i /\ Hid (Ex.zq regs (l.drop i)=res) /\ Hid (Keeps zA w1 wr)) (fun iv _ _=>1 - (intOf iv).toNat)
 case atStart=>exact ⟨0,Nat.zero_le _,rfl,by show _=_;rw [List.drop_zero,HR.out],Keeps.refl _ _⟩
 case round =>
  obtain ⟨i,hi,rfl,HN,HK⟩:=hrel;have c3':=(R1.out.keeps HK.out (fun h=>h)).cell (k:=3) (v:=.slice ad 1 cap) rfl;clear c3;by_cases hlt:i < 1
  ·have i1:(0:Int) <= i:=by omega
   have i2:(i:Int) < 1:=by omega
   exact J8 _
  ·obtain rfl:i=1:=by omega
   have hd:=HN.out;rw [HNL.out,List.drop_length] at hd;exact J39 _):P:=h
theorem Ex.zCc {regs:Int} {l:List Ex} {i:Nat} (h:i < l.length):Ex.zq regs (l.drop i)=(l[i].may regs&&Ex.zq regs (l.drop (i+1))):=by
 rw [drop_at h];rfl
theorem zHY:∀ (x:Ex) (regs:Int) (w:World) (F:Nat -> Prop) (ad:Option Addr) (cap:Nat),zR w F x.args ad -> x.cnt < 1000000000 →
 Calls Tryz.prog 148 #[exV x ad cap, .int .i64 regs] w fun e w'=>e=.returned (.bool (x.may regs)) /\ Keeps zA w w':=by
 refine Ex.ind (fun k num nm l ih regs w F ad cap h hb=>?_)
 have HL:Hid (zR w F l ad):=h;have IH:=Lib.hid ih;have hl:=Ex.zAY l;have hcn:Ex.cnt (.mk k num nm l)=1+Ex.zM l:=by simp [Ex.cnt]
 rw [hcn] at hb;have hmay:Ex.may regs (.mk k num nm l)=(zx k num nm l.length regs&&Ex.zq regs l):=by simp [Ex.may]
 rw [hmay];clear h ih hcn hmay;show Calls _ _ #[.agg #[.int .i64 k, .int .i64 num, .string nm, .slice ad l.length cap],_] _ _
 by_cases k1:k=1
 ·subst k1
  have e:(zx 1 num nm l.length regs&&Ex.zq regs l)=zx 1 num nm l.length regs:=by
   cases l with
   | nil=>simp [Ex.zq]
   | cons x r=>simp [zx]
  rw [e];exact zHE num nm _ regs w ad cap
 by_cases k2:k=2
 ·subst k2
  have e:(zx 2 num nm l.length regs&&Ex.zq regs l)=zx 2 num nm l.length regs:=by
   cases l with
   | nil=>simp [Ex.zq]
   | cons x r=>simp [zx]
  rw [e];exact zHI num nm _ regs w ad cap
 cases hlf:zx k num nm l.length regs
 ·exact zGy k num nm _ regs w ad cap k1 k2 hlf
 rw [zEr k1 k2] at hlf;simp only [Bool.and_eq_true,decide_eq_true_eq,beq_iff_eq] at hlf;obtain ⟨⟨⟨⟨p1,p2⟩,p3⟩,p4⟩,p5⟩:=hlf;have s1:=zAm p4;have p6:¬ k < 1:=by omega
 have p7:¬ 17 < k:=by omega
 subst p3;have p8:(l.length:Int)=if k=3 \/ k=4 then 1 else 2:=by split <;> simp_all
 obtain ⟨nl,hnl⟩:=eX l.length;have HNL:=Lib.hid hnl;rw [<- hnl] at hl p8 ⊢;simp only [Bool.true_and];obtain ⟨res,hres⟩:=eX (Ex.zq regs l);have HR:=Lib.hid hres;rw [<- hres];have hnb:nl < 3:=by split at p8 <;> omega
 clear p5 hres hnl p4;rcases zCl k with h3 | h3 | ⟨k3,k4⟩
 ·subst h3
  obtain rfl:nl=1:=by (have p9:(nl:Int)=1:=(by simpa using p8));omega
  have hb2:Ex.zM l < 1000000000:=by omega
  have HB:=Lib.hid hb2;clear p8 hb hb2 hl hnb;go_enter Tryz.func148,Tryz.ntmps148
  go_upto_region 1 with fail
  obtain ⟨b1,hb1⟩:=eX w.heap.size;have hr1:zC (w.alloc (.cells #[.int .i64 3, .int .i64 0, .string nm, .slice ad 1 cap] 144)) b1 [.int .i64 3, .int .i64 0, .string nm, .slice ad 1 cap]:=J150 _;have hk1:Keeps zA w (w.alloc (.cells #[.int .i64 3, .int .i64 0, .string nm, .slice ad 1 cap] 144)):=(Keeps.refl _ _).alloc _;rw [<- hb1];generalize w.alloc (.cells #[.int .i64 3, .int .i64 0, .string nm, .slice ad 1 cap] 144)=w1 at hr1 hk1 ⊢;have R1:=Lib.hid hr1;have K1:=Lib.hid hk1;have c0:=hr1.cell (k:=0) (v:=.int .i64 3) rfl;exact J116 _
 ·subst h3
  obtain rfl:nl=1:=by (have p9:(nl:Int)=1:=(by simpa using p8));omega
  have hb2:Ex.zM l < 1000000000:=by omega
  have HB:=Lib.hid hb2;clear p8 hb hb2 hl hnb;go_enter Tryz.func148,Tryz.ntmps148
  go_upto_region 1 with fail
  obtain ⟨b1,hb1⟩:=eX w.heap.size;have hr1:zC (w.alloc (.cells #[.int .i64 4, .int .i64 0, .string nm, .slice ad 1 cap] 144)) b1 [.int .i64 4, .int .i64 0, .string nm, .slice ad 1 cap]:=J150 _;have hk1:Keeps zA w (w.alloc (.cells #[.int .i64 4, .int .i64 0, .string nm, .slice ad 1 cap] 144)):=(Keeps.refl _ _).alloc _;rw [<- hb1];generalize w.alloc (.cells #[.int .i64 4, .int .i64 0, .string nm, .slice ad 1 cap] 144)=w1 at hr1 hk1 ⊢;have R1:=Lib.hid hr1;have K1:=Lib.hid hk1;have c0:=hr1.cell (k:=0) (v:=.int .i64 4) rfl;exact J116 _
 ·skip
  obtain rfl:nl=2:=by rw [if_neg (by omega)] at p8;omega
  have hb2:Ex.zM l < 1000000000:=by omega
  have HB:=Lib.hid hb2;clear p8 hb hb2 hl hnb;go_enter Tryz.func148,Tryz.ntmps148
  go_upto_region 1 with fail
  obtain ⟨b1,hb1⟩:=eX w.heap.size;have hr1:zC (w.alloc (.cells #[.int .i64 k, .int .i64 0, .string nm, .slice ad 2 cap] 144)) b1 [.int .i64 k, .int .i64 0, .string nm, .slice ad 2 cap]:=J150 _;have hk1:Keeps zA w (w.alloc (.cells #[.int .i64 k, .int .i64 0, .string nm, .slice ad 2 cap] 144)):=(Keeps.refl _ _).alloc _;rw [<- hb1];generalize w.alloc (.cells #[.int .i64 k, .int .i64 0, .string nm, .slice ad 2 cap] 144)=w1 at hr1 hk1 ⊢;have R1:=Lib.hid hr1;have K1:=Lib.hid hk1;have c0:=hr1.cell (k:=0) (v:=.int .i64 k) rfl;have c1:=hr1.cell (k:=1) (v:=.int .i64 0) rfl;have c2:=hr1.cell (k:=2) (v:=.string nm) rfl;have c3:=hr1.cell (k:=3) (v:=.slice ad 2 cap) rfl;clear hr1 hk1 hb1;go_upto_region 13 with fail
  clear c0 c1 c2;go_loopw [6,7] (fun iv bv wr=>∃ i:Nat,i <= 2 /\ iv=.int .i64 i /\ Hid (Ex.zq regs (l.drop i)=res) /\ Hid (Keeps zA w1 wr)) (fun iv _ _=>2 - (intOf iv).toNat)
  case atStart=>exact ⟨0,Nat.zero_le _,rfl,by show _=_;rw [List.drop_zero,HR.out],Keeps.refl _ _⟩
  case round =>
   obtain ⟨i,hi,rfl,HN,HK⟩:=hrel;have c3':=(R1.out.keeps HK.out (fun h=>h)).cell (k:=3) (v:=.slice ad 2 cap) rfl;clear c3;by_cases hlt:i < 2
   ·have i1:(0:Int) <= i:=by omega
    have i2:(i:Int) < 2:=by omega
    exact J8 _
   ·obtain rfl:i=2:=by omega
    have hd:=HN.out;rw [HNL.out,List.drop_length] at hd;exact J39 _
namespace Ac
def kind:Ac -> Int | .mk k _ _ _ _ _ _=>k
def reg:Ac -> Int | .mk _ r _ _ _ _ _=>r
def obj:Ac -> Int | .mk _ _ o _ _ _ _=>o
def ex:Ac -> Ex | .mk _ _ _ x _ _ _=>x
def count:Ac -> Int | .mk _ _ _ _ c _ _=>c
def thn:Ac -> List Ac | .mk _ _ _ _ _ t _=>t
def els:Ac -> List Ac | .mk _ _ _ _ _ _ e=>e
end Ac
namespace St
def kind:St -> Int | .mk k _ _ _ _ _ _=>k
def reg:St -> ByteArray | .mk _ r _ _ _ _ _=>r
def name:St -> ByteArray | .mk _ _ o _ _ _ _=>o
def ex:St -> Ex | .mk _ _ _ x _ _ _=>x
def count:St -> Int | .mk _ _ _ _ c _ _=>c
def thn:St -> List St | .mk _ _ _ _ _ t _=>t
def els:St -> List St | .mk _ _ _ _ _ _ e=>e
end St
theorem Ac.ind {P:Ac -> Prop} (h:∀ k r o x c t e,(∀ y,y ∈ t -> P y) -> (∀ y,y ∈ e -> P y) -> P (.mk k r o x c t e)):(x:Ac) -> P x
 | .mk k r o x c t e=>h k r o x c t e (fun y hy=>Ac.ind h y) (fun y hy=>Ac.ind h y)
termination_by x=>SizeOf.sizeOf x
decreasing_by
 all_goals (
  have:=List.sizeOf_lt_of_mem hy
  simp only [Ac.mk.sizeOf_spec];omega)
mutual
def Ac.sz:Ac -> Nat
 | .mk _ _ _ x _ t e=>1+x.cnt+Ac.szL t+Ac.szL e
def Ac.szL:List Ac -> Nat
 | []=>0
 | x :: r=>Ac.sz x+Ac.szL r
end
theorem Ac.zB1 (x:Ac):x.sz=1+x.ex.cnt+Ac.szL x.thn+Ac.szL x.els:=by cases x;simp only [Ac.sz,Ac.ex,Ac.thn,Ac.els]
theorem Ac.zAY (l:List Ac):l.length <= Ac.szL l:=by
 induction l with
 | nil=>simp
 | cons x r ih=>have:=Ac.zB1 x;simp only [List.length_cons,Ac.szL];omega
theorem Ac.zBk {l:List Ac} {y:Ac} (h:y ∈ l):y.sz <= Ac.szL l:=by
 induction l with
 | nil=>cases h
 | cons x r ih =>
   simp only [Ac.szL];rcases List.mem_cons.1 h with e | e
   ·subst e;omega
   ·have:=ih e;omega
def zAG (w:World) (F:Nat -> Prop) (l:List Ac) (ad:Option Addr):Prop:=∃ css,zAx w F 10 l.length ad css /\ ∀ i y,l[i]?=some y -> zCM w F y (css i)
theorem zAG.keeps {S F:Nat -> Prop} {w w':World} {l:List Ac} {ad:Option Addr} (h:zAG w F l ad) (hk:Keeps S w w') (hS:∀ k,F k -> ¬ S k):zAG w' F l ad:=by
 exact J73 _
theorem zCM.cells {w:World} {F:Nat -> Prop} {x:Ac} {cs:List Value} (h:zCM w F x cs):∃ xa xc ta tc ea ec,cs=[.int .i64 x.kind, .int .i64 x.reg, .int .i64 x.obj, .int .i64 x.ex.kind, .int .i64 x.ex.num, .string x.ex.nm, .slice xa x.ex.args.length xc, .int .i64 x.count, .slice ta x.thn.length tc, .slice ea x.els.length ec] ∧
 zR w F x.ex.args xa /\ zAG w F x.thn ta /\ zAG w F x.els ea:=by
 cases h with
 | mk k r o ex c t e xs ta ea tc ec tss ess hx t0 t1 e0 e1 =>
   obtain ⟨xa,xc,rfl,hxs⟩:=hx.exs;exact ⟨xa,xc,ta,tc,ea,ec,rfl,hxs,⟨tss,t0,t1⟩,ess,e0,e1⟩
theorem zCM.zE1 {w:World} {F:Nat -> Prop} (x:Ac) {xa ta ea:Option Addr} {xc tc ec:Nat} (hx:zR w F x.ex.args xa) (ht:zAG w F x.thn ta) (he:zAG w F x.els ea) :
 zCM w F x [.int .i64 x.kind, .int .i64 x.reg, .int .i64 x.obj, .int .i64 x.ex.kind, .int .i64 x.ex.num, .string x.ex.nm, .slice xa x.ex.args.length xc, .int .i64 x.count, .slice ta x.thn.length tc, .slice ea x.els.length ec]:=by
 obtain ⟨tss,t0,t1⟩:=ht;obtain ⟨ess,e0,e1⟩:=he;cases x with
 | mk k r o ex c t e=>exact .mk k r o ex c t e _ ta ea tc ec tss ess (zA5.zI4 hx) t0 t1 e0 e1
theorem zAG.at {w:World} {F:Nat -> Prop} {l:List Ac} {ad:Option Addr} (h:zAG w F l ad) {i:Nat} (hi:i < l.length) :
 ∃ g o xa xc ta tc ea ec,ad=some ⟨g,o,none⟩ /\ F g /\ w.cell? ⟨g,o+i*10,none⟩=some (.int .i64 l[i].kind) /\ w.cell? ⟨g,o+i*10+1,none⟩=some (.int .i64 l[i].reg) /\ w.cell? ⟨g,o+i*10+2,none⟩=some (.int .i64 l[i].obj) ∧
   w.cell? ⟨g,o+i*10+3,none⟩=some (.int .i64 l[i].ex.kind) /\ w.cell? ⟨g,o+i*10+4,none⟩=some (.int .i64 l[i].ex.num) /\ w.cell? ⟨g,o+i*10+5,none⟩=some (.string l[i].ex.nm) ∧
   w.cell? ⟨g,o+i*10+6,none⟩=some (.slice xa l[i].ex.args.length xc) /\ w.cell? ⟨g,o+i*10+7,none⟩=some (.int .i64 l[i].count) /\ w.cell? ⟨g,o+i*10+8,none⟩=some (.slice ta l[i].thn.length tc) ∧
   w.cell? ⟨g,o+i*10+9,none⟩=some (.slice ea l[i].els.length ec) /\ zR w F l[i].ex.args xa /\ zAG w F l[i].thn ta /\ zAG w F l[i].els ea:=by
 obtain ⟨css,h0,h1⟩:=h;obtain ⟨xa,xc,ta,tc,ea,ec,e,h2,h3,h4⟩:=(h1 i l[i] (List.getElem?_eq_getElem hi)).cells;obtain ⟨g,o,e1,hg,hl,hs⟩:=h0 i hi;rw [e] at hs;exact ⟨g,o,xa,xc,ta,tc,ea,ec,e1,hg,hs 0 _ rfl,hs 1 _ rfl,hs 2 _ rfl,hs 3 _ rfl,hs 4 _ rfl,hs 5 _ rfl,hs 6 _ rfl,hs 7 _ rfl,hs 8 _ rfl,hs 9 _ rfl,h2,h3,h4⟩
def acV (x:Ac) (xa:Option Addr) (xc:Nat) (ta:Option Addr) (tc:Nat) (ea:Option Addr) (ec:Nat):Value :=
 .agg #[.int .i64 x.kind, .int .i64 x.reg, .int .i64 x.obj, .int .i64 x.ex.kind, .int .i64 x.ex.num, .string x.ex.nm, .slice xa x.ex.args.length xc, .int .i64 x.count, .slice ta x.thn.length tc, .slice ea x.els.length ec]
theorem St.ind {P:St -> Prop} (h:∀ k r o x c t e,(∀ y,y ∈ t -> P y) -> (∀ y,y ∈ e -> P y) -> P (.mk k r o x c t e)):(x:St) -> P x
 | .mk k r o x c t e=>h k r o x c t e (fun y hy=>St.ind h y) (fun y hy=>St.ind h y)
termination_by x=>SizeOf.sizeOf x
decreasing_by
 all_goals (
  have:=List.sizeOf_lt_of_mem hy
  simp only [St.mk.sizeOf_spec];omega)
mutual
def St.sz:St -> Nat
 | .mk _ _ _ x _ t e=>1+x.cnt+St.szL t+St.szL e
def St.szL:List St -> Nat
 | []=>0
 | x :: r=>St.sz x+St.szL r
end
theorem St.zB1 (x:St):x.sz=1+x.ex.cnt+St.szL x.thn+St.szL x.els:=by cases x;simp only [St.sz,St.ex,St.thn,St.els]
theorem St.zAY (l:List St):l.length <= St.szL l:=by
 induction l with
 | nil=>simp
 | cons x r ih=>have:=St.zB1 x;simp only [List.length_cons,St.szL];omega
theorem St.zBk {l:List St} {y:St} (h:y ∈ l):y.sz <= St.szL l:=by
 induction l with
 | nil=>cases h
 | cons x r ih =>
   simp only [St.szL];rcases List.mem_cons.1 h with e | e
   ·subst e;omega
   ·have:=ih e;omega
def zm (w:World) (F:Nat -> Prop) (l:List St) (ad:Option Addr):Prop:=∃ css,zAx w F 10 l.length ad css /\ ∀ i y,l[i]?=some y -> zBN w F y (css i)
theorem zm.keeps {S F:Nat -> Prop} {w w':World} {l:List St} {ad:Option Addr} (h:zm w F l ad) (hk:Keeps S w w') (hS:∀ k,F k -> ¬ S k):zm w' F l ad:=by
 exact J73 _
theorem zBN.cells {w:World} {F:Nat -> Prop} {x:St} {cs:List Value} (h:zBN w F x cs):∃ xa xc ta tc ea ec,cs=[.int .i64 x.kind, .string x.reg, .string x.name, .int .i64 x.ex.kind, .int .i64 x.ex.num, .string x.ex.nm, .slice xa x.ex.args.length xc, .int .i64 x.count, .slice ta x.thn.length tc, .slice ea x.els.length ec] ∧
 zR w F x.ex.args xa /\ zm w F x.thn ta /\ zm w F x.els ea:=by
 cases h with
 | mk k r o ex c t e xs ta ea tc ec tss ess hx t0 t1 e0 e1 =>
   obtain ⟨xa,xc,rfl,hxs⟩:=hx.exs;exact ⟨xa,xc,ta,tc,ea,ec,rfl,hxs,⟨tss,t0,t1⟩,ess,e0,e1⟩
theorem zBN.zE1 {w:World} {F:Nat -> Prop} (x:St) {xa ta ea:Option Addr} {xc tc ec:Nat} (hx:zR w F x.ex.args xa) (ht:zm w F x.thn ta) (he:zm w F x.els ea) :
 zBN w F x [.int .i64 x.kind, .string x.reg, .string x.name, .int .i64 x.ex.kind, .int .i64 x.ex.num, .string x.ex.nm, .slice xa x.ex.args.length xc, .int .i64 x.count, .slice ta x.thn.length tc, .slice ea x.els.length ec]:=by
 obtain ⟨tss,t0,t1⟩:=ht;obtain ⟨ess,e0,e1⟩:=he;cases x with
 | mk k r o ex c t e=>exact .mk k r o ex c t e _ ta ea tc ec tss ess (zA5.zI4 hx) t0 t1 e0 e1
theorem zm.at {w:World} {F:Nat -> Prop} {l:List St} {ad:Option Addr} (h:zm w F l ad) {i:Nat} (hi:i < l.length) :
 ∃ g o xa xc ta tc ea ec,ad=some ⟨g,o,none⟩ /\ F g /\ w.cell? ⟨g,o+i*10,none⟩=some (.int .i64 l[i].kind) /\ w.cell? ⟨g,o+i*10+1,none⟩=some (.string l[i].reg) /\ w.cell? ⟨g,o+i*10+2,none⟩=some (.string l[i].name) ∧
   w.cell? ⟨g,o+i*10+3,none⟩=some (.int .i64 l[i].ex.kind) /\ w.cell? ⟨g,o+i*10+4,none⟩=some (.int .i64 l[i].ex.num) /\ w.cell? ⟨g,o+i*10+5,none⟩=some (.string l[i].ex.nm) ∧
   w.cell? ⟨g,o+i*10+6,none⟩=some (.slice xa l[i].ex.args.length xc) /\ w.cell? ⟨g,o+i*10+7,none⟩=some (.int .i64 l[i].count) /\ w.cell? ⟨g,o+i*10+8,none⟩=some (.slice ta l[i].thn.length tc) ∧
   w.cell? ⟨g,o+i*10+9,none⟩=some (.slice ea l[i].els.length ec) /\ zR w F l[i].ex.args xa /\ zm w F l[i].thn ta /\ zm w F l[i].els ea:=by
 obtain ⟨css,h0,h1⟩:=h;obtain ⟨xa,xc,ta,tc,ea,ec,e,h2,h3,h4⟩:=(h1 i l[i] (List.getElem?_eq_getElem hi)).cells;obtain ⟨g,o,e1,hg,hl,hs⟩:=h0 i hi;rw [e] at hs;exact ⟨g,o,xa,xc,ta,tc,ea,ec,e1,hg,hs 0 _ rfl,hs 1 _ rfl,hs 2 _ rfl,hs 3 _ rfl,hs 4 _ rfl,hs 5 _ rfl,hs 6 _ rfl,hs 7 _ rfl,hs 8 _ rfl,hs 9 _ rfl,h2,h3,h4⟩
def stV (x:St) (xa:Option Addr) (xc:Nat) (ta:Option Addr) (tc:Nat) (ea:Option Addr) (ec:Nat):Value :=
 .agg #[.int .i64 x.kind, .string x.reg, .string x.name, .int .i64 x.ex.kind, .int .i64 x.ex.num, .string x.ex.nm, .slice xa x.ex.args.length xc, .int .i64 x.count, .slice ta x.thn.length tc, .slice ea x.els.length ec]
end Go.Proofs.YtoapgjjepiopbaaGreatDoor
