/- Layer K: texts joined. -/
import Derived.Test.YtfokdllgnblamaaGreatDoorK01
set_option linter.all false
set_option maxRecDepth 8000
namespace Go.Proofs.YtfokdllgnblamaaGreatDoor
open Go.RowKit
abbrev yu:=@Go.Proofs.Tryz.ntmps121
abbrev vK:=@Classical.byContradiction
abbrev vB:=@Nat.eq_zero_or_pos
abbrev uS:=@List.mem_cons_of_mem
abbrev uR:=@List.mem_cons_self
abbrev uP:=@Classical.em
abbrev uB:=@decide_eq_true
abbrev xX:=@List.mem_cons
abbrev xO:=@List.drop_length
abbrev xK:=@decide_eq_false
abbrev xA:=@Go.bodyPost_ret
abbrev yU:=@decide_eq_true_eq
abbrev yT:=@Bool.and_eq_true
abbrev yR:=@List.drop_zero
abbrev yN:=@zC.zF
abbrev yM:=@List.getElem_mem
abbrev yC:=@Keeps.refl
abbrev yB:=@Go.Lib.hid
theorem J7 (P:Prop) (h:P:=by
 have hl2:i < l.length:=by rw [<- HNL.out];exact hlt
 have hd:=HN.out;rw [Ex.zDC hl2] at hd;obtain ⟨g,o,a,c,e1,hg,d0,d1,d2,d3,hx⟩:=(HL.out.keeps (K1.out.zB HK.out) (fun _ _ h=>h)).at hl2;subst e1;have HC:Hid (∀ W,Keeps zA wr W -> Calls Tryz.prog 121 #[.agg #[.int .i64 l[i].kind, .int .i64 l[i].num, .string l[i].nm, .slice a l[i].args.length c], .int .i64 regs] W fun e w'=>e=.returned (.bool (l[i].may regs)) /\ Keeps zA W w'):=fun W hk=>IH.out _ (yM hl2) regs W F a c (hx.keeps hk (fun _ _ h=>h)) (by have:=Ex.zB1 (yM hl2);have:=HB.out;omega)
 obtain ⟨m,hm⟩:=eX (l[i].may regs);rw [<- hm] at HC hd;have HD:=yB hd;clear hx hm hd;generalize l[i].kind=x0 at d0 HC;generalize l[i].num=x1 at d1 HC;generalize l[i].nm=x2 at d2 HC;generalize l[i].args.length=x3 at d3 HC;cases m
 ·go_wp2_with (go_at_call 121;refine (HC.out _ (yC _ _)).mono ?_;rintro e w2 ⟨rfl,g1⟩;have G1:=yB g1;clear g1)
  go_ret
  exact ⟨by rw [<- HD.out];rfl,(K1.out.zB HK.out).zB G1.out⟩
 ·go_wp2_with (go_at_call 121;refine (HC.out _ (yC _ _)).mono ?_;rintro e w2 ⟨rfl,g1⟩;have G1:=yB g1;clear g1)
  go_roundw
  case rel=>exact ⟨i+1,by omega,by go_num,by show _=_;rw [<- HD.out];rfl,HK.out.zB G1.out⟩
  case measure=>simp [intOf];omega):P:=h
theorem J25 (P:Prop) (h:P:=by
 go_enter Tryz.func121,yu
 go_wp2_with fail
 go_ret
 exact ⟨by first | rfl | simp,(yC _ _).alloc _⟩):P:=h
theorem J37 (P:Prop) (h:P:=by
 go_wp2_with fail
 go_ret
 exact ⟨rfl,yC _ _⟩):P:=h
theorem J40 (P:Prop) (h:P:=by
 clear hb;go_enter Tryz.func121,yu
 go_wp2_with fail
 go_ret
 exact ⟨rfl,(yC _ _).alloc _⟩):P:=h
theorem J47 (P:Prop) (h:P:=by
 go_wp2_with fail
 go_ret
 exact ⟨by rw [<- hd];rfl,K1.out.zB HK.out⟩):P:=h
theorem J84 (P:Prop) (h:P:=by
 obtain ⟨css,h0,h1⟩:=h;exact ⟨css,h0.keeps hk hS,fun i y e=>(h1 i y e).keeps hk hS⟩):P:=h
theorem J86 (P:Prop) (h:P:=by
 have H3:=yB h3;rw [e0];clear hx e0;go_enter Tryz.func121,yu
 go_wp2_with fail
 go_ret
 exact ⟨by have:=H3.out;first | rfl | (simp;omega),(yC _ _).alloc _⟩):P:=h
theorem J87 (P:Prop) (h:P:=by
 clear hb;rcases zDW k with rfl | rfl | ⟨k3,k4⟩
 all_goals (
  go_enter Tryz.func121,yu
  go_wp2_with fail
  go_ret
  exact ⟨rfl,(yC _ _).alloc _⟩)):P:=h
theorem J94 (P:Prop) (h:P:=by
 obtain ⟨css,h0,h1⟩:=h;exact ⟨css,h0.mono hF,fun i y e=>(h1 i y e).mono hF⟩):P:=h
theorem J107 (P:Prop) (h:P:=by
 go_roundw
 case rel=>exact ⟨i+1,n+m,by omega,by go_num,by go_num,by show _=_;have:=HD.out;omega,HK.out.zB G1.out⟩
 case measure=>simp [intOf];omega):P:=h
theorem J108 (P:Prop) (h:P:=by
 go_wp2_with fail
 go_ret
 exact ⟨by simp [hk],(yC _ _).alloc _⟩):P:=h
theorem J152 (P:Prop) (h:P:=by
 have c1:=hr1.cell (k:=1) (v:=.int .i64 0) rfl;have c2:=hr1.cell (k:=2) (v:=.string nm) rfl;have c3:=hr1.cell (k:=3) (v:=.slice ad 1 cap) rfl;clear hr1 hk1 hb1;go_upto_region 13 with fail
 clear c0 c1 c2;go_loopw [6,7] (fun iv bv wr=>∃ i:Nat,i <= 1 /\ iv=.int .i64 i /\ Hid (Ex.zAM regs (l.drop i)=res) /\ Hid (Keeps zA w1 wr)) (fun iv _ _=>1 - (intOf iv).toNat)
 case atStart=>exact ⟨0,yJ _,rfl,by show _=_;rw [yR,HR.out],yC _ _⟩
 case round =>
  obtain ⟨i,hi,rfl,HN,HK⟩:=hrel;have c3':=(R1.out.keeps HK.out (fun h=>h)).cell (k:=3) (v:=.slice ad 1 cap) rfl;clear c3;by_cases hlt:i < 1
  ·have i1:(0:Int) <= i:=by omega
   have i2:(i:Int) < 1:=by omega
   exact J7 _
  ·obtain rfl:i=1:=by omega
   have hd:=HN.out;rw [HNL.out,xO] at hd;exact J47 _):P:=h
theorem J174 (P:Prop) (h:P:=by
 rw [e0];clear hx e0;exact J25 _):P:=h
theorem J186 (P:Prop) (h:P:=by rw [hb1];exact yN (yK w _)):P:=h
theorem Ex.ind {P:Ex -> Prop} (h:∀ k n s l,(∀ y,y ∈ l -> P y) -> P (.mk k n s l)):(x:Ex) -> P x
 | .mk k n s l=>h k n s l (fun y hy=>Ex.ind h y)
termination_by x=>SizeOf.sizeOf x
decreasing_by
 have:=List.sizeOf_lt_of_mem hy
 simp only [Ex.mk.sizeOf_spec];omega
theorem Ex.zAp (l:List Ex):l.length <= Ex.zW l:=by
 induction l with
 | nil=>simp
 | cons x r ih=>cases x;simp only [xZ,Ex.zW,Ex.cnt];omega
theorem Ex.zB1 {l:List Ex} {y:Ex} (h:y ∈ l):y.cnt <= Ex.zW l:=by
 induction l with
 | nil=>cases h
 | cons x r ih =>
   simp only [Ex.zW];rcases xX.1 h with e | e
   ·subst e;omega
   ·have:=ih e;omega
theorem Ex.zHi:(x:Ex) -> x.dep <= x.cnt:=by
 refine Ex.ind (fun k n s l ih=>?_)
 simp only [Ex.dep,Ex.cnt]
 have:Ex.zCa l <= Ex.zW l:=by
  induction l with
  | nil=>simp [Ex.zCa]
  | cons x r ih2 =>
    have h1:=ih x (uR ..);have h2:=ih2 (fun y hy=>ih y (uS _ hy));simp only [Ex.zCa,Ex.zW];omega
 omega
theorem drop_at {α:Type} {l:List α} {i:Nat} (h:i < l.length):l.drop i=l[i] :: l.drop (i+1):=List.drop_eq_getElem_cons h
theorem zBN.four {w:World} {F:Nat -> Prop} {n i:Nat} {ad:Option Addr} {css:Nat -> List Value} {a b c d:Value} (h:zBN w F 4 n ad css) (hi:i < n) (hc:css i=[a,b,c,d]) :
 ∃ g o,ad=some ⟨g,o,none⟩ /\ F g /\ w.cell? ⟨g,o+i*4,none⟩=some a /\ w.cell? ⟨g,o+i*4+1,none⟩=some b /\ w.cell? ⟨g,o+i*4+2,none⟩=some c /\ w.cell? ⟨g,o+i*4+3,none⟩=some d:=by
 obtain ⟨g,o,e,hg,hl,hs⟩:=h i hi;rw [hc] at hs;exact ⟨g,o,e,hg,hs 0 _ rfl,hs 1 _ rfl,hs 2 _ rfl,hs 3 _ rfl⟩
def zN (w:World) (F:Nat -> Prop) (l:List Ex) (ad:Option Addr):Prop:=∃ css,zBN w F 4 l.length ad css /\ ∀ i y,l[i]?=some y -> zA9 w F y (css i)
theorem zN.keeps {S F:Nat -> Prop} {w w':World} {l:List Ex} {ad:Option Addr} (h:zN w F l ad) (hk:Keeps S w w') (hS:∀ k,F k -> ¬ S k):zN w' F l ad:=by
 exact J84 _
theorem zN.mono {F F':Nat -> Prop} {w:World} {l:List Ex} {ad:Option Addr} (h:zN w F l ad) (hF:∀ k,F k -> F' k):zN w F' l ad:=by
 exact J94 _
theorem zN.at {w:World} {F:Nat -> Prop} {l:List Ex} {ad:Option Addr} (h:zN w F l ad) {i:Nat} (hi:i < l.length) :
 ∃ g o a c,ad=some ⟨g,o,none⟩ /\ F g /\ w.cell? ⟨g,o+i*4,none⟩=some (.int .i64 l[i].kind) /\ w.cell? ⟨g,o+i*4+1,none⟩=some (.int .i64 l[i].num) /\ w.cell? ⟨g,o+i*4+2,none⟩=some (.string l[i].nm) ∧
   w.cell? ⟨g,o+i*4+3,none⟩=some (.slice a l[i].args.length c) /\ zN w F l[i].args a:=by
 obtain ⟨css,h0,h1⟩:=h;obtain ⟨a,c,css',e,h2,h3⟩:=(h1 i l[i] (yQ hi)).show
 obtain ⟨g,o,e1,hg,c0,c1,c2,c3⟩:=h0.four hi e;exact ⟨g,o,a,c,e1,hg,c0,c1,c2,c3,css',h2,h3⟩
def exV (x:Ex) (ad:Option Addr) (cap:Nat):Value:=.agg #[.int .i64 x.kind, .int .i64 x.num, .string x.nm, .slice ad x.args.length cap]
theorem zA9.exs {w:World} {F:Nat -> Prop} {x:Ex} {cs:List Value} (h:zA9 w F x cs):∃ ad cap,cs=[.int .i64 x.kind, .int .i64 x.num, .string x.nm, .slice ad x.args.length cap] /\ zN w F x.args ad:=by
 obtain ⟨ad,cap,css,e,h1,h2⟩:=h.show
 exact ⟨ad,cap,e,css,h1,h2⟩
theorem zA9.zFu {w:World} {F:Nat -> Prop} {x:Ex} {ad:Option Addr} {cap:Nat} (h:zN w F x.args ad):zA9 w F x [.int .i64 x.kind, .int .i64 x.num, .string x.nm, .slice ad x.args.length cap]:=by
 obtain ⟨css,h1,h2⟩:=h;cases x;exact .mk _ _ _ _ ad cap css h1 h2
theorem zD9:∀ (x:Ex) (w:World) (F:Nat -> Prop) (ad:Option Addr) (cap:Nat),zN w F x.args ad -> x.cnt < 1000000000 →
 Calls Tryz.prog 108 #[exV x ad cap] w fun e w'=>e=.returned (.int .i64 x.cnt) /\ Keeps zA w w':=by
 refine Ex.ind (fun k num nm l ih w F ad cap h hb=>?_)
 have HL:Hid (zN w F l ad):=h;have IH:=yB ih;have hl:=Ex.zAp l;have hcn:Ex.cnt (.mk k num nm l)=1+Ex.zW l:=by simp [Ex.cnt]
 rw [hcn] at hb ⊢;clear h ih hcn;obtain ⟨tot,ht⟩:=eX (Ex.zW l);have HT:=yB ht;rw [<- ht] at hb hl ⊢;clear ht;show Calls _ _ #[.agg #[.int .i64 k, .int .i64 num, .string nm, .slice ad l.length cap]] _ _
 go_enter Tryz.func108,Tryz.ntmps108
 go_upto_region 1 with fail
 obtain ⟨b1,hb1⟩:=eX w.heap.size;have hr1:zC (w.alloc (.cells #[.int .i64 k, .int .i64 num, .string nm, .slice ad l.length cap] 65)) b1 [.int .i64 k, .int .i64 num, .string nm, .slice ad l.length cap]:=J186 _;have hk1:Keeps zA w (w.alloc (.cells #[.int .i64 k, .int .i64 num, .string nm, .slice ad l.length cap] 65)):=(yC _ _).alloc _;rw [<- hb1];generalize w.alloc (.cells #[.int .i64 k, .int .i64 num, .string nm, .slice ad l.length cap] 65)=w1 at hr1 hk1 ⊢;have R1:=yB hr1;have K1:=yB hk1;have c3:=hr1.cell (k:=3) (v:=.slice ad l.length cap) rfl;clear hr1 hk1 hb1;go_wp2_with fail
 go_loopw [3,4] (fun nv iv wr=>∃ i n:Nat,i <= l.length /\ nv=.int .i64 n /\ iv=.int .i64 i /\ Hid (n+Ex.zW (l.drop i)=1+tot) /\ Hid (Keeps zA w1 wr)) (fun _ iv _=>l.length - (intOf iv).toNat)
 case atStart=>exact ⟨0,1,yJ _,rfl,rfl,by show _=_;rw [yR,HT.out],yC _ _⟩
 case round =>
  obtain ⟨i,n,hi,rfl,rfl,HN,HK⟩:=hrel;have c3':=(R1.out.keeps HK.out (fun h=>h)).cell (k:=3) (v:=.slice ad l.length cap) rfl;clear c3;by_cases hlt:i < l.length
  ·have i1:(0:Int) <= i:=by omega
   have i2:(i:Int) < l.length:=by omega
   have hd:=HN.out;rw [drop_at hlt,Ex.zW] at hd;obtain ⟨g,o,a,c,e1,hg,d0,d1,d2,d3,hx⟩:=(HL.out.keeps (K1.out.zB HK.out) (fun _ _ h=>h)).at hlt;subst e1;have HC:Hid (∀ W,Keeps zA wr W -> Calls Tryz.prog 108 #[.agg #[.int .i64 l[i].kind, .int .i64 l[i].num, .string l[i].nm, .slice a l[i].args.length c]] W fun e w'=>e=.returned (.int .i64 l[i].cnt) /\ Keeps zA W w'):=fun W hk=>IH.out _ (yM hlt) W F a c (hx.keeps hk (fun _ _ h=>h)) (by omega)
   obtain ⟨m,hm⟩:=eX (l[i].cnt);rw [<- hm] at HC hd;have HD:=yB hd;have b1:n+m < 1000000001:=by omega
   clear hx hm hd;generalize l[i].kind=x0 at d0 HC;generalize l[i].num=x1 at d1 HC;generalize l[i].nm=x2 at d2 HC;generalize l[i].args.length=x3 at d3 HC;go_wp2_with (go_at_call 108;refine (HC.out _ (yC _ _)).mono ?_;rintro e w2 ⟨rfl,g1⟩;have G1:=yB g1;clear g1)
   exact J107 _
  ·obtain rfl:i=l.length:=by omega
   have hd:=HN.out;rw [xO] at hd;simp only [Ex.zW] at hd;exact J47 _
end Go.Proofs.YtfokdllgnblamaaGreatDoor
namespace Go.Proofs.YtfokdllgnblamaaGreatDoor
def xNm:ByteArray:=⟨#[120]⟩
def zq:ByteArray:=⟨#[]⟩
def zGN (s:ByteArray):Bool:=s.data.toList==[120]
def nameAt (n i:Int):ByteArray:=if 0 <= i /\ i < n then xNm else zq
theorem zFM (n i:Int):zGN (nameAt n i)=(decide (0 <= i)&&decide (i < n)):=by
 unfold nameAt;split
 ·rename_i h;simp [zGN,xNm,h.1,h.2]
 ·rename_i h
  by_cases h0:0 <= i
  ·have:¬ i < n:=fun e=>h ⟨h0,e⟩
   simp [zGN,zq,this]
  ·simp [zGN,zq,h0]
theorem zG3:zZ zq=true:=rfl
theorem zNd:zGN zq=false:=rfl
mutual
def Ex.named (regs:Int):Ex -> Ex
 | .mk k num nm l=>.mk k (if k=2 then 0 else num) (if k=2 then (if zZ nm then nameAt regs num else zq) else nm) (Ex.zT regs l)
def Ex.zT (regs:Int):List Ex -> List Ex
 | []=>[]
 | x :: r=>Ex.named regs x :: Ex.zT regs r
end
theorem Ex.zAo (regs:Int) (l:List Ex):Ex.zT regs l=l.map (Ex.named regs):=by
 induction l with
 | nil=>rfl
 | cons x r ih=>simp [Ex.zT,ih]
def zA7 (k num:Int) (nm:ByteArray) (n:Nat):Bool :=
 if k=1 then decide (0 <= num)&&decide (num <= 2147483647)&&zZ nm&&n==0
 else if k=2 then zGN nm&&num==0&&n==0
 else decide (3 <= k)&&decide (k <= 17)&&n==(if k=3 \/ k=4 then 1 else 2)&&num==0&&zZ nm
mutual
def Ex.zC5:Ex -> Bool
 | .mk k num nm l=>zA7 k num nm l.length&&Ex.zDS l
def Ex.zDS:List Ex -> Bool
 | []=>true
 | x :: r=>Ex.zC5 x&&Ex.zDS r
end
theorem zJE (k num regs:Int) (nm:ByteArray) (n:Nat) :
 zA7 k (if k=2 then 0 else num) (if k=2 then (if zZ nm then nameAt regs num else zq) else nm) n=zAK k num nm n regs:=by
 unfold zA7 zAK;by_cases h1:k=1
 ·subst h1;simp
 ·by_cases h2:k=2
  ·subst h2
   by_cases h3:zZ nm=true
   ·simp [h3,zFM]
   ·simp [h3,zNd]
  ·simp only [h1,h2,if_false]
   cases decide (3 <= k) <;> cases decide (k <= 17) <;> cases (num==0) <;> cases zZ nm <;> simp
mutual
theorem Ex.zFV (regs:Int):(x:Ex) -> Ex.zC5 (x.named regs)=x.may regs
 | .mk k num nm l=>by
   have h:=Ex.zEs regs l;have hl:(Ex.zT regs l).length=l.length:=by rw [Ex.zAo];simp
   simp only [Ex.named,Ex.zC5,Ex.may,hl,h,zJE]
theorem Ex.zEs (regs:Int):(l:List Ex) -> Ex.zDS (Ex.zT regs l)=Ex.zAM regs l
 | []=>rfl
 | x :: r=>by
   have h1:=Ex.zFV regs x;have h2:=Ex.zEs regs r;simp only [Ex.zT,Ex.zDS,Ex.zAM,h1,h2]
end
mutual
theorem Ex.zDB (regs:Int):(x:Ex) -> (x.named regs).cnt=x.cnt
 | .mk k num nm l=>by
   have h:=Ex.zBm regs l;simp only [Ex.named,Ex.cnt,h]
theorem Ex.zBm (regs:Int):(l:List Ex) -> Ex.zW (Ex.zT regs l)=Ex.zW l
 | []=>rfl
 | x :: r=>by
   have h1:=Ex.zDB regs x;have h2:=Ex.zBm regs r;simp only [Ex.zT,Ex.zW,h1,h2]
end
mutual
theorem Ex.zGl (regs:Int):(x:Ex) -> (x.named regs).dep=x.dep
 | .mk k num nm l=>by
   have h:=Ex.zF7 regs l;simp only [Ex.named,Ex.dep,h]
theorem Ex.zF7 (regs:Int):(l:List Ex) -> Ex.zCa (Ex.zT regs l)=Ex.zCa l
 | []=>rfl
 | x :: r=>by
   have h1:=Ex.zGl regs x;have h2:=Ex.zF7 regs r;simp only [Ex.zT,Ex.zCa,h1,h2]
end
theorem Ex.zDf (regs:Int) (x:Ex):(x.named regs).there=x.there:=by
 cases x with
 | mk k num nm l =>
   simp only [Ex.named,Ex.there,Ex.zAo];cases l <;> rfl
theorem Ex.zIt (regs:Int) (x:Ex):(x.named regs).none=x.none:=by
 cases x with
 | mk k num nm l =>
   simp only [Ex.named,Ex.none,Ex.zAo];by_cases h:k=0
   ·subst h;cases l <;> simp
   ·have:(k==0)=false:=by simpa using h
    simp [this]
theorem Ex.zI3 (regs:Int) (x:Ex):(x.named regs).kind=x.kind:=by cases x;rfl
def zCM (k reg obj:Int):Int:=if ((fields k).reg=false /\ reg ≠ 0) \/ ((fields k).name=false /\ obj ≠ 0) then 0 else k
def stName (u:Un) (k obj:Int):ByteArray :=
 if (fields k).name then nameAt (zBM u k) obj else zq
mutual
def Ac.named (u:Un) (regs:Int):Ac -> St
 | .mk k reg obj ex count t e=>.mk (zCM k reg obj) (if (fields k).reg then nameAt regs reg else zq) (stName u k obj) (ex.named regs) count (Ac.zT u regs t) (Ac.zT u regs e)
def Ac.zT (u:Un) (regs:Int):List Ac -> List St
 | []=>[]
 | x :: r=>Ac.named u regs x :: Ac.zT u regs r
end
theorem Ac.zAo (u:Un) (regs:Int) (l:List Ac):Ac.zT u regs l=l.map (Ac.named u regs):=by
 induction l with
 | nil=>rfl
 | cons x r ih=>simp [Ac.zT,ih]
def zCO (s:ByteArray) (must:Bool):Bool:=must&&zGN s || !must&&zZ s
def zGS (k:Int) (reg name:ByteArray) (ex:Ex) (count:Int) (nt ne:Nat):Bool :=
 decide (1 <= k /\ k <= 11)&&zCO reg (fields k).reg&&zCO name (fields k).name&&((fields k).ex&&ex.kind != 0 || !(fields k).ex&&ex.none) &&
 (count==0 || (fields k).count&&decide (0 < count)&&decide (count <= 1000))&&((fields k).thn || nt==0)&&((fields k).els || ne==0)
mutual
def St.form:St -> Bool
 | .mk k reg name ex count t e=>zGS k reg name ex count t.length e.length&&(!ex.there || ex.zC5)&&St.zBL t&&St.zBL e
def St.zBL:List St -> Bool
 | []=>true
 | x :: r=>St.form x&&St.zBL r
end
mutual
def St.cnt:St -> Nat
 | .mk _ _ _ ex _ t e=>1+(if ex.there then ex.cnt else 0)+St.zW t+St.zW e
def St.zW:List St -> Nat
 | []=>0
 | x :: r=>St.cnt x+St.zW r
end
mutual
def St.deep (d:Nat):St -> Nat
 | .mk _ _ _ ex _ t e=>max (max d (if ex.there then ex.dep else 0)) (max (St.zw (d+1) t) (St.zw (d+1) e))
def St.zw (d:Nat):List St -> Nat
 | []=>0
 | x :: r=>max (St.deep d x) (St.zw d r)
end
theorem zEc {regs:Int} {x:Ex} (h:x.may regs=true):x.kind ≠ 0:=by
 cases x with
 | mk k num nm l =>
   intro e
   have e':k=0:=e;subst e';simp [Ex.may,zAK] at h
theorem zDy {k:Int} (h:¬ (1 <= k /\ k <= 11)):fields k=⟨false,false,false,false,false,false⟩:=by
 unfold fields;repeat' (first | rw [if_neg (by omega)])
theorem zIn (u:Un) (regs k reg obj:Int) (ex:Ex) (count:Int) (nt ne:Nat) :
 (zGS (zCM k reg obj) (if (fields k).reg then nameAt regs reg else zq) (stName u k obj) (ex.named regs) count nt ne&&(!ex.there || ex.may regs))=zBS u regs k reg obj ex count nt ne:=by
 by_cases hk:1 <= k /\ k <= 11
 ·by_cases hz:((fields k).reg=false /\ reg ≠ 0) \/ ((fields k).name=false /\ obj ≠ 0)
  ·have e1:zCM k reg obj=0:=if_pos hz
   have e2:zBS u regs k reg obj ex count nt ne=false:=by
    unfold zBS;rcases hz with ⟨h1,h2⟩ | ⟨h1,h2⟩
    ·have:(reg==0)=false:=by simpa using h2
     simp [h1,this]
    ·have:(obj==0)=false:=by simpa using h2
     simp [h1,this]
   rw [e1,e2];simp [zGS]
  ·have e1:zCM k reg obj=k:=if_neg hz
   rw [e1]
   have hr:zCO (if (fields k).reg then nameAt regs reg else zq) (fields k).reg=(if (fields k).reg then decide (0 <= reg)&&decide (reg < regs) else reg==0):=by
    cases h:(fields k).reg
    ·have:reg=0:=vK fun e=>hz (.inl ⟨h,e⟩)
     simp [zCO,zG3,this]
    ·simp [zCO,zFM]
   have hn:zCO (stName u k obj) (fields k).name=(if (fields k).name then decide (0 <= obj)&&decide (obj < zBM u k) else obj==0):=by
    unfold stName;cases h:(fields k).name
    ·have:obj=0:=vK fun e=>hz (.inr ⟨h,e⟩)
     simp [zCO,zG3,this]
    ·simp [zCO,zFM]
   have hc:(count==0 || (fields k).count&&decide (0 < count)&&decide (count <= 1000))=(if (fields k).count then decide (0 <= count)&&decide (count <= 1000) else count==0):=by
    cases (fields k).count
    ·simp
    ·by_cases h0:count=0
     ·subst h0;simp
     ·have h1:(count==0)=false:=by simpa using h0
      have h2:decide (0 < count)=decide (0 <= count):=by rw [decide_eq_decide];omega
      simp [h1,h2]
   have hx:(((fields k).ex&&(ex.named regs).kind != 0 || !(fields k).ex&&(ex.named regs).none)&&(!ex.there || ex.may regs))=(if (fields k).ex then ex.may regs else ex.none):=by
    rw [Ex.zI3,Ex.zIt];cases (fields k).ex
    ·cases hn:ex.none
     ·simp
     ·have:ex.there=false:=by
       cases ex with
       | mk a b c l =>
         simp only [Ex.none,yT,beq_iff_eq,List.isEmpty_iff] at hn;simp [Ex.there,hn.1.1.1,hn.2]
      simp [this]
    ·cases hm:ex.may regs
     ·cases ht:ex.there
      ·have:ex.kind=0:=by
        cases ex with
        | mk a b c l=>simp [Ex.there] at ht;exact ht.1
       simp [this]
      ·simp
     ·have:=zEc hm
      have h1:(ex.kind != 0)=true:=by simpa using this
      simp [h1]
   unfold zGS zBS;rw [hr,hn,hc,<- hx];have hk1:decide (1 <= k /\ k <= 11)=true:=uB hk;simp only [hk1,uB hk.1,uB hk.2,Bool.true_and];generalize (if (fields k).reg then decide (0 <= reg)&&decide (reg < regs) else reg==0)=A;generalize (if (fields k).name then decide (0 <= obj)&&decide (obj < zBM u k) else obj==0)=B;generalize ((fields k).ex&&(ex.named regs).kind != 0 || !(fields k).ex&&(ex.named regs).none)=C;generalize (if (fields k).count then decide (0 <= count)&&decide (count <= 1000) else count==0)=D;generalize ((fields k).thn || nt==0)=E;generalize ((fields k).els || ne==0)=F;generalize (!ex.there || ex.may regs)=G;cases A <;> cases B <;> cases C <;> cases D <;> cases E <;> cases F <;> cases G <;> rfl
 ·have e2:zBS u regs k reg obj ex count nt ne=false:=by
   unfold zBS
   have:(decide (1 <= k)&&decide (k <= 11))=false:=by
    by_cases h1:1 <= k
    ·have:¬ k <= 11:=fun e=>hk ⟨h1,e⟩
     simp [this]
    ·simp [h1]
   rw [this];simp
  have e1:¬ (1 <= zCM k reg obj /\ zCM k reg obj <= 11):=by
   unfold zCM;split
   ·omega
   ·exact hk
  rw [e2];unfold zGS;rw [xK e1];simp
mutual
theorem Ac.zJQ (u:Un) (regs:Int):(x:Ac) -> (x.named u regs).form=x.may u regs
 | .mk k reg obj ex count t e=>by
   have h1:=Ac.zCo u regs t;have h2:=Ac.zCo u regs e;have hl1:(Ac.zT u regs t).length=t.length:=by rw [Ac.zAo];simp
   have hl2:(Ac.zT u regs e).length=e.length:=by rw [Ac.zAo];simp
   simp only [Ac.named,St.form,Ac.may,hl1,hl2,h1,h2,Ex.zDf,Ex.zFV,zIn]
theorem Ac.zCo (u:Un) (regs:Int):(l:List Ac) -> St.zBL (Ac.zT u regs l)=Ac.zAM u regs l
 | []=>rfl
 | x :: r=>by
   have h1:=Ac.zJQ u regs x;have h2:=Ac.zCo u regs r;simp only [Ac.zT,St.zBL,Ac.zAM,h1,h2]
end
mutual
theorem Ac.zDB (u:Un) (regs:Int):(x:Ac) -> (x.named u regs).cnt=x.cnt
 | .mk k reg obj ex count t e=>by
   have h1:=Ac.zBm u regs t;have h2:=Ac.zBm u regs e;simp only [Ac.named,St.cnt,Ac.cnt,h1,h2,Ex.zDf,Ex.zDB]
theorem Ac.zBm (u:Un) (regs:Int):(l:List Ac) -> St.zW (Ac.zT u regs l)=Ac.zW l
 | []=>rfl
 | x :: r=>by
   have h1:=Ac.zDB u regs x;have h2:=Ac.zBm u regs r;simp only [Ac.zT,St.zW,Ac.zW,h1,h2]
end
mutual
theorem Ac.zIp (u:Un) (regs:Int) (d:Nat):(x:Ac) -> (x.named u regs).deep d=x.deep d
 | .mk k reg obj ex count t e=>by
   have h1:=Ac.zCr u regs (d+1) t;have h2:=Ac.zCr u regs (d+1) e;simp only [Ac.named,St.deep,Ac.deep,h1,h2,Ex.zDf,Ex.zGl]
theorem Ac.zCr (u:Un) (regs:Int) (d:Nat):(l:List Ac) -> St.zw d (Ac.zT u regs l)=Ac.zw d l
 | []=>rfl
 | x :: r=>by
   have h1:=Ac.zIp u regs d x;have h2:=Ac.zCr u regs d r;simp only [Ac.zT,St.zw,Ac.zw,h1,h2]
end
end Go.Proofs.YtfokdllgnblamaaGreatDoor
namespace Go.Proofs.YtfokdllgnblamaaGreatDoor
open Go.RowKit
theorem zJS (s:ByteArray):zZ s=true ↔ s=zq:=by
 constructor
 ·intro h
  obtain ⟨a⟩:=s;have h1:a.size=0:=by simpa [zZ,ByteArray.size] using h
  have:a=#[]:=Array.eq_empty_of_size_eq_zero h1
  subst this;rfl
 ·rintro rfl;rfl
theorem zBK {s:ByteArray} (h:zZ s=true):s.toList=[]:=by
 rw [(zJS s).1 h,ByteArray.toList_eq];rfl
theorem zBI {s:ByteArray} (h:zZ s=false):¬ s.toList=[]:=by
 intro e
 have:s=zq:=by
  obtain ⟨a⟩:=s;rw [ByteArray.toList_eq] at e;have:a=#[]:=by simpa using e
  rw [this];rfl
 rw [this,zG3] at h;cases h
theorem zBB {s:ByteArray} (h:zZ s=false):s.toList.isEmpty=false:=by
 have:=zBI h
 simpa using this
theorem zI7 (x:Ex) (w:World) (ad:Option Addr) (cap:Nat) :
 Calls Tryz.prog 122 #[exV x ad cap] w fun e w'=>e=.returned (.bool x.none) /\ Keeps zA w w':=by
 obtain ⟨k,num,nm,l⟩:=x;show Calls _ _ #[.agg #[.int .i64 k, .int .i64 num, .string nm, .slice ad l.length cap]] _ _
 have hx:Ex.none (.mk k num nm l)=(k==0&&num==0&&zZ nm&&l.isEmpty):=rfl;rw [hx];clear hx;rcases uP (k=0) with hk | hk
 ·rcases uP (num=0) with hn | hn
  ·cases hs:zZ nm
   ·have h1:=zBI hs
    have h2:=zBB hs;go_enter Tryz.func122,Tryz.ntmps122
    go_wp2_with fail
    go_ret
    exact ⟨by simp,(yC _ _).alloc _⟩
   ·have h1:=zBK hs
    rcases vB l.length with hl | hl
    ·have e0:l.isEmpty=true:=by cases l <;> simp_all
     rw [hl,e0];go_enter Tryz.func122,Tryz.ntmps122
     go_wp2_with fail
     go_ret
     exact ⟨by simp [hk,hn],(yC _ _).alloc _⟩
    ·have e0:l.isEmpty=false:=by cases l <;> simp_all
     have e1:¬ ((l.length:Nat):Int)=0:=by omega
     have e2:¬ l=[]:=by intro e;subst e;simp at hl
     rw [e0];go_enter Tryz.func122,Tryz.ntmps122
     go_wp2_with fail
     go_ret
     exact ⟨by simp [e2],(yC _ _).alloc _⟩
  ·have e1:(num==0)=false:=by simpa using hn
   go_enter Tryz.func122,Tryz.ntmps122
   go_wp2_with fail
   go_ret
   exact ⟨by simp [hn],(yC _ _).alloc _⟩
 ·have e1:(k==0)=false:=by simpa using hk
  go_enter Tryz.func122,Tryz.ntmps122
  exact J108 _
theorem zFS (x:Ex) (w:World) (ad:Option Addr) (cap:Nat) :
 Calls Tryz.prog 124 #[exV x ad cap] w fun e w'=>e=.returned (.bool x.there) /\ Keeps zA w w':=by
 obtain ⟨k,num,nm,l⟩:=x;show Calls _ _ #[.agg #[.int .i64 k, .int .i64 num, .string nm, .slice ad l.length cap]] _ _
 have hx:Ex.there (.mk k num nm l)=(k != 0 || !l.isEmpty):=rfl;rw [hx];clear hx;rcases uP (k=0) with hk | hk
 ·rcases vB l.length with hl | hl
  ·have e0:l.isEmpty=true:=by cases l <;> simp_all
   rw [hl,e0];go_enter Tryz.func124,Tryz.ntmps124
   exact J108 _
  ·have e0:l.isEmpty=false:=by cases l <;> simp_all
   have e1:(0:Int) < l.length:=by omega
   have e2:¬ l=[]:=by intro e;subst e;simp at hl
   rw [e0];go_enter Tryz.func124,Tryz.ntmps124
   go_wp2_with fail
   go_ret
   exact ⟨by simp,(yC _ _).alloc _⟩
 ·have e1:(k==0)=false:=by simpa using hk
  go_enter Tryz.func124,Tryz.ntmps124
  exact J108 _
def flV (f:Fl):Value:=.tuple #[.bool f.reg, .bool f.name, .bool f.ex, .bool f.count, .bool f.thn, .bool f.els]
theorem zHg {fn:Func} {t u v x y z:Tmp} (h:fn.results=#[.tmp t, .tmp u, .tmp v, .tmp x, .tmp y, .tmp z]) (tmps:Array Value) (P:Program) (w:World) :
 (results fn tmps).run P w=.ok (.tuple #[tmps.getD t undef,tmps.getD u undef,tmps.getD v undef,tmps.getD x undef,tmps.getD y undef,tmps.getD z undef]) w:=by
 simp [results,h]
theorem zET (k:Int):k=1 \/ k=2 \/ k=3 \/ k=4 \/ k=5 \/ k=6 \/ k=7 \/ k=8 \/ k=9 \/ k=10 \/ k=11 \/ ¬ (1 <= k /\ k <= 11):=by omega
theorem zAv (k:Int) (w:World) :
 Calls Tryz.prog 120 #[.int .i64 k] w fun e w'=>e=.returned (flV (fields k)) /\ Keeps zA w w':=by
 rcases zET k with rfl | rfl | rfl | rfl | rfl | rfl | rfl | rfl | rfl | rfl | rfl | h
 case' inr.inr.inr.inr.inr.inr.inr.inr.inr.inr.inr =>
  rw [zDy h];have n1:¬ k=1:=by omega
  have n2:¬ k=2:=by omega
  have n3:¬ k=3:=by omega
  have n4:¬ k=4:=by omega
  have n5:¬ k=5:=by omega
  have n6:¬ k=6:=by omega
  have n7:¬ k=7:=by omega
  have n8:¬ k=8:=by omega
  have n9:¬ k=9:=by omega
  have n10:¬ k=10:=by omega
  have n11:¬ k=11:=by omega
  clear h
 all_goals (
  go_enter Tryz.func120,Tryz.ntmps120
  go_wp2_with fail
  refine xA (zHg rfl _ _ _) rfl ?_
  exact ⟨rfl,yC _ _⟩)
def zCR (k:Int):Bool:=k==1 || k==2 || k==4
def zBx (k:Int):Int:=if 2 <= k /\ k <= 4 then 1 else if k=5 \/ k=6 then 2 else if k=7 \/ k=8 then 3 else 0
theorem zIz (k:Int) (w:World) :
 Calls Tryz.prog 137 #[.int .i64 k] w fun e w'=>e=.returned (.bool (zCR k)) /\ Keeps zA w w':=by
 rcases (show k=1 \/ k=2 \/ k=4 \/ (¬ k=1 /\ ¬ k=2 /\ ¬ k=4) by omega) with rfl | rfl | rfl | ⟨h1,h2,h4⟩
 all_goals (
  go_enter Tryz.func137,Tryz.ntmps137
  go_wp2_with fail
  go_ret
  exact ⟨by simp [zCR, *],yC _ _⟩)
theorem zKD (k:Int) (w:World) :
 Calls Tryz.prog 139 #[.int .i64 k] w fun e w'=>e=.returned (.int .i64 (zBx k)) /\ Keeps zA w w':=by
 rcases (show k=2 \/ k=3 \/ k=4 \/ k=5 \/ k=6 \/ k=7 \/ k=8 \/ (¬ k=2 /\ ¬ k=3 /\ ¬ k=4 /\ ¬ k=5 /\ ¬ k=6 /\ ¬ k=7 /\ ¬ k=8) by omega) with rfl | rfl | rfl | rfl | rfl | rfl | rfl | ⟨h2,h3,h4,h5,h6,h7,h8⟩;case' inr.inr.inr.inr.inr.inr.inr=>have e:zBx k=0:=by unfold zBx;repeat' (first | rw [if_neg (by omega)])
 case' inr.inr.inr.inr.inr.inr.inr=>rw [e]
 all_goals (
  go_enter Tryz.func139,Tryz.ntmps139
  go_wp2_with fail
  go_ret
  exact ⟨rfl,yC _ _⟩)
def zh (w:World) (F:Nat -> Prop) (v:Value) (n:Nat):Prop:=∃ ad cap,v=.slice ad n cap /\ ∀ i,i < n -> ∃ g o,ad=some ⟨g,o,none⟩ /\ F g /\ w.cell? ⟨g,o+i,none⟩=some (.string xNm)
theorem zh.keeps {S F:Nat -> Prop} {w w':World} {v:Value} {n:Nat} (h:zh w F v n) (hk:Keeps S w w') (hS:∀ k,F k -> ¬ S k):zh w' F v n:=by
 obtain ⟨ad,cap,e,h1⟩:=h;refine ⟨ad,cap,e,fun i hi=>?_⟩
 obtain ⟨g,o,e1,hg,hc⟩:=h1 i hi;exact ⟨g,o,e1,hg,hk.cell (p:=⟨g,o+i,none⟩) (hS g hg) hc⟩
theorem zF0 {F:Nat -> Prop} (v:Value) (n:Nat) (i:Int) (w:World) (h:zh w F v n) :
 Calls Tryz.prog 138 #[v, .int .i64 i] w fun e w'=>e=.returned (.string (nameAt n i)) /\ Keeps zA w w':=by
 obtain ⟨ad,cap,rfl,h1⟩:=h;rcases (show i < 0 \/ 0 <= i by omega) with h0 | h0
 ·have e:nameAt n i=zq:=by unfold nameAt;rw [if_neg (by omega)]
  rw [e];go_enter Tryz.func138,Tryz.ntmps138
  exact J37 _
 ·obtain ⟨k,rfl⟩:∃ k:Nat,i=k:=⟨i.toNat,by omega⟩
  rcases xR k n with hk | hk
  ·have e:nameAt n k=xNm:=by unfold nameAt;rw [if_pos (by omega)]
   rw [e];obtain ⟨g,o,e1,_,hc⟩:=h1 k hk;subst e1;have i2:(k:Int) < n:=by omega
   have i3:¬ (n:Int) <= k:=by omega
   clear h1;go_enter Tryz.func138,Tryz.ntmps138
   exact J37 _
  ·have e:nameAt n k=zq:=by unfold nameAt;rw [if_neg (by omega)]
   rw [e];have i3:(n:Int) <= k:=by omega
   clear h1;go_enter Tryz.func138,Tryz.ntmps138
   exact J37 _
theorem zJH (u:Un) (k:Int) (w:World) (ca ta:Option Addr) (cc tc:Nat) :
 Calls Tryz.prog 123 #[.int .i64 k, .agg #[.slice ca u.cells.length cc, .int .i64 u.mutexes, .slice ta u.threads.length tc]] w fun e w'=>e=.returned (.int .i64 (zBM u k)) /\ Keeps zA w w':=by
 rcases (show k=2 \/ k=3 \/ k=4 \/ k=5 \/ k=6 \/ (¬ k=2 /\ ¬ k=3 /\ ¬ k=4 /\ ¬ k=5 /\ ¬ k=6) by omega) with rfl | rfl | rfl | rfl | rfl | ⟨h2,h3,h4,h5,h6⟩
 case' inr.inr.inr.inr.inr =>
  have e:zBM u k=u.threads.length:=by unfold zBM;rw [if_neg (by omega),if_neg (by omega)]
  rw [e]
 all_goals (
  go_enter Tryz.func123,Tryz.ntmps123
  go_wp2_with fail
  go_ret
  exact ⟨by first | rfl | simp [zBM],(yC _ _).alloc _⟩)
theorem zHr (num:Int) (nm:ByteArray) (n:Nat) (regs:Int) (w:World) (ad:Option Addr) (cap:Nat) :
 Calls Tryz.prog 121 #[.agg #[.int .i64 1, .int .i64 num, .string nm, .slice ad n cap], .int .i64 regs] w fun e w'=>e=.returned (.bool (zAK 1 num nm n regs)) /\ Keeps zA w w':=by
 have hx:zAK 1 num nm n regs=(decide (0 <= num)&&decide (num <= 2147483647)&&zZ nm&&n==0):=rfl;rcases uP (0 <= num) with h1 | h1
 ·rcases uP (num <= 2147483647) with h2 | h2
  ·cases hs:zZ nm
   ·have s1:=zBI hs
    have s2:=zBB hs;have e0:zAK 1 num nm n regs=false:=by rw [hx];simp [hs]
    exact J174 _
   ·have s1:=zBK hs
    rcases uP (n=0) with h3 | h3
    ·have e0:zAK 1 num nm n regs=true:=by rw [hx];simp [h1,h2,hs,h3]
     rw [e0];clear hx e0;subst h3;exact J25 _
    ·have h4:¬ (n:Int)=0:=by omega
     have e0:zAK 1 num nm n regs=false:=by rw [hx];simp [h3]
     exact J86 _
  ·have e0:zAK 1 num nm n regs=false:=by rw [hx];simp [h2]
   exact J174 _
 ·have e0:zAK 1 num nm n regs=false:=by rw [hx];simp [h1]
  exact J174 _
theorem zIS (num:Int) (nm:ByteArray) (n:Nat) (regs:Int) (w:World) (ad:Option Addr) (cap:Nat) :
 Calls Tryz.prog 121 #[.agg #[.int .i64 2, .int .i64 num, .string nm, .slice ad n cap], .int .i64 regs] w fun e w'=>e=.returned (.bool (zAK 2 num nm n regs)) /\ Keeps zA w w':=by
 have hx:zAK 2 num nm n regs=(decide (0 <= num)&&decide (num < regs)&&zZ nm&&n==0):=rfl;rcases uP (0 <= num) with h1 | h1
 ·rcases uP (num < regs) with h2 | h2
  ·cases hs:zZ nm
   ·have s1:=zBI hs
    have s2:=zBB hs;have e0:zAK 2 num nm n regs=false:=by rw [hx];simp [hs]
    exact J174 _
   ·have s1:=zBK hs
    rcases uP (n=0) with h3 | h3
    ·have e0:zAK 2 num nm n regs=true:=by rw [hx];simp [h1,h2,hs,h3]
     rw [e0];clear hx e0;subst h3;exact J25 _
    ·have h4:¬ (n:Int)=0:=by omega
     have e0:zAK 2 num nm n regs=false:=by rw [hx];simp [h3]
     exact J86 _
  ·have e0:zAK 2 num nm n regs=false:=by rw [hx];simp [h2]
   exact J174 _
 ·have e0:zAK 2 num nm n regs=false:=by rw [hx];simp [h1]
  exact J174 _
theorem zDW (k:Int):(k=3) \/ (k=4) \/ (¬ k=3 /\ ¬ k=4):=by omega
theorem zFb {k num:Int} {nm:ByteArray} {n:Nat} {regs:Int} (h1:¬ k=1) (h2:¬ k=2) :
 zAK k num nm n regs=(decide (3 <= k)&&decide (k <= 17)&&num==0&&zZ nm&&n==(if k=3 \/ k=4 then 1 else 2)):=by
 unfold zAK;rw [if_neg h1,if_neg h2]
theorem zHk (k num:Int) (nm:ByteArray) (n:Nat) (regs:Int) (w:World) (ad:Option Addr) (cap:Nat) (k1:¬ k=1) (k2:¬ k=2) (hb:zAK k num nm n regs=false) :
 Calls Tryz.prog 121 #[.agg #[.int .i64 k, .int .i64 num, .string nm, .slice ad n cap], .int .i64 regs] w fun e w'=>e=.returned (.bool false) /\ Keeps zA w w':=by
 rw [zFb k1 k2] at hb;rcases uP (k < 1) with h1 | h1
 ·have k3:¬ k=3:=by omega
  have k4:¬ k=4:=by omega
  exact J40 _
 ·have h1':3 <= k:=by omega
  rw [uB h1'] at hb;rcases uP (17 < k) with h2 | h2
  ·have k3:¬ k=3:=by omega
   have k4:¬ k=4:=by omega
   exact J40 _
  ·have h2':k <= 17:=by omega
   rw [uB h2'] at hb;rcases uP (num=0) with h3 | h3
   ·subst h3
    cases hs:zZ nm
    ·have s1:=zBI hs
     have s2:=zBB hs;exact J87 _
    ·have s1:=zBK hs
     rw [hs] at hb;rcases zDW k with rfl | rfl | ⟨k3,k4⟩
     ·have h5:¬ n=1:=by simpa using hb
      have h6:¬ (n:Int)=1:=by omega
      exact J40 _
     ·have h5:¬ n=1:=by simpa using hb
      have h6:¬ (n:Int)=1:=by omega
      exact J40 _
     ·have h5:¬ n=2:=by simpa [k3,k4] using hb
      have h6:¬ (n:Int)=2:=by omega
      exact J40 _
   ·exact J87 _
theorem Ex.zDC {regs:Int} {l:List Ex} {i:Nat} (h:i < l.length):Ex.zAM regs (l.drop i)=(l[i].may regs&&Ex.zAM regs (l.drop (i+1))):=by
 rw [drop_at h];rfl
theorem zH9:∀ (x:Ex) (regs:Int) (w:World) (F:Nat -> Prop) (ad:Option Addr) (cap:Nat),zN w F x.args ad -> x.cnt < 1000000000 →
 Calls Tryz.prog 121 #[exV x ad cap, .int .i64 regs] w fun e w'=>e=.returned (.bool (x.may regs)) /\ Keeps zA w w':=by
 refine Ex.ind (fun k num nm l ih regs w F ad cap h hb=>?_)
 have HL:Hid (zN w F l ad):=h;have IH:=yB ih;have hl:=Ex.zAp l;have hcn:Ex.cnt (.mk k num nm l)=1+Ex.zW l:=by simp [Ex.cnt]
 rw [hcn] at hb;have hmay:Ex.may regs (.mk k num nm l)=(zAK k num nm l.length regs&&Ex.zAM regs l):=by simp [Ex.may]
 rw [hmay];clear h ih hcn hmay;show Calls _ _ #[.agg #[.int .i64 k, .int .i64 num, .string nm, .slice ad l.length cap],_] _ _
 by_cases k1:k=1
 ·subst k1
  have e:(zAK 1 num nm l.length regs&&Ex.zAM regs l)=zAK 1 num nm l.length regs:=by
   cases l with
   | nil=>simp [Ex.zAM]
   | cons x r=>simp [zAK]
  rw [e];exact zHr num nm _ regs w ad cap
 by_cases k2:k=2
 ·subst k2
  have e:(zAK 2 num nm l.length regs&&Ex.zAM regs l)=zAK 2 num nm l.length regs:=by
   cases l with
   | nil=>simp [Ex.zAM]
   | cons x r=>simp [zAK]
  rw [e];exact zIS num nm _ regs w ad cap
 cases hlf:zAK k num nm l.length regs
 ·exact zHk k num nm _ regs w ad cap k1 k2 hlf
 rw [zFb k1 k2] at hlf;simp only [yT,yU,beq_iff_eq] at hlf;obtain ⟨⟨⟨⟨p1,p2⟩,p3⟩,p4⟩,p5⟩:=hlf;have s1:=zBK p4;have p6:¬ k < 1:=by omega
 have p7:¬ 17 < k:=by omega
 subst p3;have p8:(l.length:Int)=if k=3 \/ k=4 then 1 else 2:=by split <;> simp_all
 obtain ⟨nl,hnl⟩:=eX l.length;have HNL:=yB hnl;rw [<- hnl] at hl p8 ⊢;simp only [Bool.true_and];obtain ⟨res,hres⟩:=eX (Ex.zAM regs l);have HR:=yB hres;rw [<- hres];have hnb:nl < 3:=by split at p8 <;> omega
 clear p5 hres hnl p4;rcases zDW k with h3 | h3 | ⟨k3,k4⟩
 ·subst h3
  obtain rfl:nl=1:=by (have p9:(nl:Int)=1:=(by simpa using p8));omega
  have hb2:Ex.zW l < 1000000000:=by omega
  have HB:=yB hb2;clear p8 hb hb2 hl hnb;go_enter Tryz.func121,yu
  go_upto_region 1 with fail
  obtain ⟨b1,hb1⟩:=eX w.heap.size;have hr1:zC (w.alloc (.cells #[.int .i64 3, .int .i64 0, .string nm, .slice ad 1 cap] 65)) b1 [.int .i64 3, .int .i64 0, .string nm, .slice ad 1 cap]:=J186 _;have hk1:Keeps zA w (w.alloc (.cells #[.int .i64 3, .int .i64 0, .string nm, .slice ad 1 cap] 65)):=(yC _ _).alloc _;rw [<- hb1];generalize w.alloc (.cells #[.int .i64 3, .int .i64 0, .string nm, .slice ad 1 cap] 65)=w1 at hr1 hk1 ⊢;have R1:=yB hr1;have K1:=yB hk1;have c0:=hr1.cell (k:=0) (v:=.int .i64 3) rfl;exact J152 _
 ·subst h3
  obtain rfl:nl=1:=by (have p9:(nl:Int)=1:=(by simpa using p8));omega
  have hb2:Ex.zW l < 1000000000:=by omega
  have HB:=yB hb2;clear p8 hb hb2 hl hnb;go_enter Tryz.func121,yu
  go_upto_region 1 with fail
  obtain ⟨b1,hb1⟩:=eX w.heap.size;have hr1:zC (w.alloc (.cells #[.int .i64 4, .int .i64 0, .string nm, .slice ad 1 cap] 65)) b1 [.int .i64 4, .int .i64 0, .string nm, .slice ad 1 cap]:=J186 _;have hk1:Keeps zA w (w.alloc (.cells #[.int .i64 4, .int .i64 0, .string nm, .slice ad 1 cap] 65)):=(yC _ _).alloc _;rw [<- hb1];generalize w.alloc (.cells #[.int .i64 4, .int .i64 0, .string nm, .slice ad 1 cap] 65)=w1 at hr1 hk1 ⊢;have R1:=yB hr1;have K1:=yB hk1;have c0:=hr1.cell (k:=0) (v:=.int .i64 4) rfl;exact J152 _
 ·skip
  obtain rfl:nl=2:=by rw [if_neg (by omega)] at p8;omega
  have hb2:Ex.zW l < 1000000000:=by omega
  have HB:=yB hb2;clear p8 hb hb2 hl hnb;go_enter Tryz.func121,yu
  go_upto_region 1 with fail
  obtain ⟨b1,hb1⟩:=eX w.heap.size;have hr1:zC (w.alloc (.cells #[.int .i64 k, .int .i64 0, .string nm, .slice ad 2 cap] 65)) b1 [.int .i64 k, .int .i64 0, .string nm, .slice ad 2 cap]:=J186 _;have hk1:Keeps zA w (w.alloc (.cells #[.int .i64 k, .int .i64 0, .string nm, .slice ad 2 cap] 65)):=(yC _ _).alloc _;rw [<- hb1];generalize w.alloc (.cells #[.int .i64 k, .int .i64 0, .string nm, .slice ad 2 cap] 65)=w1 at hr1 hk1 ⊢;have R1:=yB hr1;have K1:=yB hk1;have c0:=hr1.cell (k:=0) (v:=.int .i64 k) rfl;have c1:=hr1.cell (k:=1) (v:=.int .i64 0) rfl;have c2:=hr1.cell (k:=2) (v:=.string nm) rfl;have c3:=hr1.cell (k:=3) (v:=.slice ad 2 cap) rfl;clear hr1 hk1 hb1;go_upto_region 13 with fail
  clear c0 c1 c2;go_loopw [6,7] (fun iv bv wr=>∃ i:Nat,i <= 2 /\ iv=.int .i64 i /\ Hid (Ex.zAM regs (l.drop i)=res) /\ Hid (Keeps zA w1 wr)) (fun iv _ _=>2 - (intOf iv).toNat)
  case atStart=>exact ⟨0,yJ _,rfl,by show _=_;rw [yR,HR.out],yC _ _⟩
  case round =>
   obtain ⟨i,hi,rfl,HN,HK⟩:=hrel;have c3':=(R1.out.keeps HK.out (fun h=>h)).cell (k:=3) (v:=.slice ad 2 cap) rfl;clear c3;by_cases hlt:i < 2
   ·have i1:(0:Int) <= i:=by omega
    have i2:(i:Int) < 2:=by omega
    exact J7 _
   ·obtain rfl:i=2:=by omega
    have hd:=HN.out;rw [HNL.out,xO] at hd;exact J47 _
end Go.Proofs.YtfokdllgnblamaaGreatDoor
