/- Layer K: texts joined. -/
import Derived.Test.YtfokdllgnblamaaGreatDoorK02
set_option linter.all false
namespace Go.Proofs.YtfokdllgnblamaaGreatDoor
open Go.RowKit
abbrev kU:=@List.flatten_cons
abbrev kJ:=@congrArg
abbrev vY:=@Nat.pow_pos
abbrev vW:=@Nat.div_div_eq_div_mul
abbrev vF:=@Nat.add_zero
abbrev uV:=@Nat.pow_succ
abbrev uO:=@Nat.lt_of_not_le
abbrev uN:=@Prod.mk.injEq
abbrev uC:=@zC.zAj
abbrev xV:=@zAB.keeps
abbrev xJ:=@Go.World.ownsRow_nil
theorem J115 (P:Prop) (h:P:=by rw [this,Nat.add_mul_div_left _ _ hp];omega):P:=h
theorem J130 (P:Prop) (h:P:=by
 rcases hf with hf | ⟨hf,h6,h7⟩
 ·exact .inl hf
 ·exact .inr ⟨hf,yI h6 hk.size,h7⟩):P:=h
namespace Ac
def kind:Ac -> Int | .mk k _ _ _ _ _ _=>k
def reg:Ac -> Int | .mk _ r _ _ _ _ _=>r
def obj:Ac -> Int | .mk _ _ o _ _ _ _=>o
def ex:Ac -> Ex | .mk _ _ _ x _ _ _=>x
def count:Ac -> Int | .mk _ _ _ _ c _ _=>c
def thn:Ac -> List Ac | .mk _ _ _ _ _ t _=>t
def els:Ac -> List Ac | .mk _ _ _ _ _ _ e=>e
end Ac
namespace St
def kind:St -> Int | .mk k _ _ _ _ _ _=>k
def reg:St -> ByteArray | .mk _ r _ _ _ _ _=>r
def name:St -> ByteArray | .mk _ _ o _ _ _ _=>o
def ex:St -> Ex | .mk _ _ _ x _ _ _=>x
def count:St -> Int | .mk _ _ _ _ c _ _=>c
def thn:St -> List St | .mk _ _ _ _ _ t _=>t
def els:St -> List St | .mk _ _ _ _ _ _ e=>e
end St
theorem Ac.ind {P:Ac -> Prop} (h:∀ k r o x c t e,(∀ y,y ∈ t -> P y) -> (∀ y,y ∈ e -> P y) -> P (.mk k r o x c t e)):(x:Ac) -> P x
 | .mk k r o x c t e=>h k r o x c t e (fun y hy=>Ac.ind h y) (fun y hy=>Ac.ind h y)
termination_by x=>SizeOf.sizeOf x
decreasing_by
 all_goals (
  have:=List.sizeOf_lt_of_mem hy
  simp only [Ac.mk.sizeOf_spec];omega)
mutual
def Ac.sz:Ac -> Nat
 | .mk _ _ _ x _ t e=>1+x.cnt+Ac.szL t+Ac.szL e
def Ac.szL:List Ac -> Nat
 | []=>0
 | x :: r=>Ac.sz x+Ac.szL r
end
theorem Ac.zCI (x:Ac):x.sz=1+x.ex.cnt+Ac.szL x.thn+Ac.szL x.els:=by cases x;simp only [Ac.sz,Ac.ex,Ac.thn,Ac.els]
theorem Ac.zAp (l:List Ac):l.length <= Ac.szL l:=by
 induction l with
 | nil=>simp
 | cons x r ih=>have:=Ac.zCI x;simp only [xZ,Ac.szL];omega
theorem Ac.zBy {l:List Ac} {y:Ac} (h:y ∈ l):y.sz <= Ac.szL l:=by
 induction l with
 | nil=>cases h
 | cons x r ih =>
   simp only [Ac.szL];rcases xX.1 h with e | e
   ·subst e;omega
   ·have:=ih e;omega
def zAQ (w:World) (F:Nat -> Prop) (l:List Ac) (ad:Option Addr):Prop:=∃ css,zBN w F 10 l.length ad css /\ ∀ i y,l[i]?=some y -> zB6 w F y (css i)
theorem zAQ.keeps {S F:Nat -> Prop} {w w':World} {l:List Ac} {ad:Option Addr} (h:zAQ w F l ad) (hk:Keeps S w w') (hS:∀ k,F k -> ¬ S k):zAQ w' F l ad:=by
 exact J84 _
theorem zB6.cells {w:World} {F:Nat -> Prop} {x:Ac} {cs:List Value} (h:zB6 w F x cs):∃ xa xc ta tc ea ec,cs=[.int .i64 x.kind, .int .i64 x.reg, .int .i64 x.obj, .int .i64 x.ex.kind, .int .i64 x.ex.num, .string x.ex.nm, .slice xa x.ex.args.length xc, .int .i64 x.count, .slice ta x.thn.length tc, .slice ea x.els.length ec] ∧
 zN w F x.ex.args xa /\ zAQ w F x.thn ta /\ zAQ w F x.els ea:=by
 cases h with
 | mk k r o ex c t e xs ta ea tc ec tss ess hx t0 t1 e0 e1 =>
   obtain ⟨xa,xc,rfl,hxs⟩:=hx.exs;exact ⟨xa,xc,ta,tc,ea,ec,rfl,hxs,⟨tss,t0,t1⟩,ess,e0,e1⟩
theorem zB6.zCv {w:World} {F:Nat -> Prop} (x:Ac) {xa ta ea:Option Addr} {xc tc ec:Nat} (hx:zN w F x.ex.args xa) (ht:zAQ w F x.thn ta) (he:zAQ w F x.els ea) :
 zB6 w F x [.int .i64 x.kind, .int .i64 x.reg, .int .i64 x.obj, .int .i64 x.ex.kind, .int .i64 x.ex.num, .string x.ex.nm, .slice xa x.ex.args.length xc, .int .i64 x.count, .slice ta x.thn.length tc, .slice ea x.els.length ec]:=by
 obtain ⟨tss,t0,t1⟩:=ht;obtain ⟨ess,e0,e1⟩:=he;cases x with
 | mk k r o ex c t e=>exact .mk k r o ex c t e _ ta ea tc ec tss ess (zA9.zFu hx) t0 t1 e0 e1
theorem zAQ.at {w:World} {F:Nat -> Prop} {l:List Ac} {ad:Option Addr} (h:zAQ w F l ad) {i:Nat} (hi:i < l.length) :
 ∃ g o xa xc ta tc ea ec,ad=some ⟨g,o,none⟩ /\ F g /\ w.cell? ⟨g,o+i*10,none⟩=some (.int .i64 l[i].kind) /\ w.cell? ⟨g,o+i*10+1,none⟩=some (.int .i64 l[i].reg) /\ w.cell? ⟨g,o+i*10+2,none⟩=some (.int .i64 l[i].obj) ∧
   w.cell? ⟨g,o+i*10+3,none⟩=some (.int .i64 l[i].ex.kind) /\ w.cell? ⟨g,o+i*10+4,none⟩=some (.int .i64 l[i].ex.num) /\ w.cell? ⟨g,o+i*10+5,none⟩=some (.string l[i].ex.nm) ∧
   w.cell? ⟨g,o+i*10+6,none⟩=some (.slice xa l[i].ex.args.length xc) /\ w.cell? ⟨g,o+i*10+7,none⟩=some (.int .i64 l[i].count) /\ w.cell? ⟨g,o+i*10+8,none⟩=some (.slice ta l[i].thn.length tc) ∧
   w.cell? ⟨g,o+i*10+9,none⟩=some (.slice ea l[i].els.length ec) /\ zN w F l[i].ex.args xa /\ zAQ w F l[i].thn ta /\ zAQ w F l[i].els ea:=by
 obtain ⟨css,h0,h1⟩:=h;obtain ⟨xa,xc,ta,tc,ea,ec,e,h2,h3,h4⟩:=(h1 i l[i] (yQ hi)).cells;obtain ⟨g,o,e1,hg,hl,hs⟩:=h0 i hi;rw [e] at hs;exact ⟨g,o,xa,xc,ta,tc,ea,ec,e1,hg,hs 0 _ rfl,hs 1 _ rfl,hs 2 _ rfl,hs 3 _ rfl,hs 4 _ rfl,hs 5 _ rfl,hs 6 _ rfl,hs 7 _ rfl,hs 8 _ rfl,hs 9 _ rfl,h2,h3,h4⟩
def acV (x:Ac) (xa:Option Addr) (xc:Nat) (ta:Option Addr) (tc:Nat) (ea:Option Addr) (ec:Nat):Value :=
 .agg #[.int .i64 x.kind, .int .i64 x.reg, .int .i64 x.obj, .int .i64 x.ex.kind, .int .i64 x.ex.num, .string x.ex.nm, .slice xa x.ex.args.length xc, .int .i64 x.count, .slice ta x.thn.length tc, .slice ea x.els.length ec]
theorem St.ind {P:St -> Prop} (h:∀ k r o x c t e,(∀ y,y ∈ t -> P y) -> (∀ y,y ∈ e -> P y) -> P (.mk k r o x c t e)):(x:St) -> P x
 | .mk k r o x c t e=>h k r o x c t e (fun y hy=>St.ind h y) (fun y hy=>St.ind h y)
termination_by x=>SizeOf.sizeOf x
decreasing_by
 all_goals (
  have:=List.sizeOf_lt_of_mem hy
  simp only [St.mk.sizeOf_spec];omega)
mutual
def St.sz:St -> Nat
 | .mk _ _ _ x _ t e=>1+x.cnt+St.szL t+St.szL e
def St.szL:List St -> Nat
 | []=>0
 | x :: r=>St.sz x+St.szL r
end
theorem St.zCI (x:St):x.sz=1+x.ex.cnt+St.szL x.thn+St.szL x.els:=by cases x;simp only [St.sz,St.ex,St.thn,St.els]
theorem St.zAp (l:List St):l.length <= St.szL l:=by
 induction l with
 | nil=>simp
 | cons x r ih=>have:=St.zCI x;simp only [xZ,St.szL];omega
theorem St.zBy {l:List St} {y:St} (h:y ∈ l):y.sz <= St.szL l:=by
 induction l with
 | nil=>cases h
 | cons x r ih =>
   simp only [St.szL];rcases xX.1 h with e | e
   ·subst e;omega
   ·have:=ih e;omega
def zy (w:World) (F:Nat -> Prop) (l:List St) (ad:Option Addr):Prop:=∃ css,zBN w F 10 l.length ad css /\ ∀ i y,l[i]?=some y -> zB4 w F y (css i)
theorem zy.keeps {S F:Nat -> Prop} {w w':World} {l:List St} {ad:Option Addr} (h:zy w F l ad) (hk:Keeps S w w') (hS:∀ k,F k -> ¬ S k):zy w' F l ad:=by
 exact J84 _
theorem zB4.cells {w:World} {F:Nat -> Prop} {x:St} {cs:List Value} (h:zB4 w F x cs):∃ xa xc ta tc ea ec,cs=[.int .i64 x.kind, .string x.reg, .string x.name, .int .i64 x.ex.kind, .int .i64 x.ex.num, .string x.ex.nm, .slice xa x.ex.args.length xc, .int .i64 x.count, .slice ta x.thn.length tc, .slice ea x.els.length ec] ∧
 zN w F x.ex.args xa /\ zy w F x.thn ta /\ zy w F x.els ea:=by
 cases h with
 | mk k r o ex c t e xs ta ea tc ec tss ess hx t0 t1 e0 e1 =>
   obtain ⟨xa,xc,rfl,hxs⟩:=hx.exs;exact ⟨xa,xc,ta,tc,ea,ec,rfl,hxs,⟨tss,t0,t1⟩,ess,e0,e1⟩
theorem zB4.zCv {w:World} {F:Nat -> Prop} (x:St) {xa ta ea:Option Addr} {xc tc ec:Nat} (hx:zN w F x.ex.args xa) (ht:zy w F x.thn ta) (he:zy w F x.els ea) :
 zB4 w F x [.int .i64 x.kind, .string x.reg, .string x.name, .int .i64 x.ex.kind, .int .i64 x.ex.num, .string x.ex.nm, .slice xa x.ex.args.length xc, .int .i64 x.count, .slice ta x.thn.length tc, .slice ea x.els.length ec]:=by
 obtain ⟨tss,t0,t1⟩:=ht;obtain ⟨ess,e0,e1⟩:=he;cases x with
 | mk k r o ex c t e=>exact .mk k r o ex c t e _ ta ea tc ec tss ess (zA9.zFu hx) t0 t1 e0 e1
theorem zy.at {w:World} {F:Nat -> Prop} {l:List St} {ad:Option Addr} (h:zy w F l ad) {i:Nat} (hi:i < l.length) :
 ∃ g o xa xc ta tc ea ec,ad=some ⟨g,o,none⟩ /\ F g /\ w.cell? ⟨g,o+i*10,none⟩=some (.int .i64 l[i].kind) /\ w.cell? ⟨g,o+i*10+1,none⟩=some (.string l[i].reg) /\ w.cell? ⟨g,o+i*10+2,none⟩=some (.string l[i].name) ∧
   w.cell? ⟨g,o+i*10+3,none⟩=some (.int .i64 l[i].ex.kind) /\ w.cell? ⟨g,o+i*10+4,none⟩=some (.int .i64 l[i].ex.num) /\ w.cell? ⟨g,o+i*10+5,none⟩=some (.string l[i].ex.nm) ∧
   w.cell? ⟨g,o+i*10+6,none⟩=some (.slice xa l[i].ex.args.length xc) /\ w.cell? ⟨g,o+i*10+7,none⟩=some (.int .i64 l[i].count) /\ w.cell? ⟨g,o+i*10+8,none⟩=some (.slice ta l[i].thn.length tc) ∧
   w.cell? ⟨g,o+i*10+9,none⟩=some (.slice ea l[i].els.length ec) /\ zN w F l[i].ex.args xa /\ zy w F l[i].thn ta /\ zy w F l[i].els ea:=by
 obtain ⟨css,h0,h1⟩:=h;obtain ⟨xa,xc,ta,tc,ea,ec,e,h2,h3,h4⟩:=(h1 i l[i] (yQ hi)).cells;obtain ⟨g,o,e1,hg,hl,hs⟩:=h0 i hi;rw [e] at hs;exact ⟨g,o,xa,xc,ta,tc,ea,ec,e1,hg,hs 0 _ rfl,hs 1 _ rfl,hs 2 _ rfl,hs 3 _ rfl,hs 4 _ rfl,hs 5 _ rfl,hs 6 _ rfl,hs 7 _ rfl,hs 8 _ rfl,hs 9 _ rfl,h2,h3,h4⟩
def stV (x:St) (xa:Option Addr) (xc:Nat) (ta:Option Addr) (tc:Nat) (ea:Option Addr) (ec:Nat):Value :=
 .agg #[.int .i64 x.kind, .string x.reg, .string x.name, .int .i64 x.ex.kind, .int .i64 x.ex.num, .string x.ex.nm, .slice xa x.ex.args.length xc, .int .i64 x.count, .slice ta x.thn.length tc, .slice ea x.els.length ec]
end Go.Proofs.YtfokdllgnblamaaGreatDoor
namespace Go.Proofs.YtfokdllgnblamaaGreatDoor
abbrev w64 (x:Int):Int:=RowKit.wrap64 x
def zD7 (b:Bool):Int:=if b then 1 else 0
def zDA (k a b:Int):Int :=
 if k=5 then w64 (a+b) else if k=6 then w64 (a - b) else if k=7 then w64 (a*b)
 else if k=8 then (if b=0 then 0 else w64 (Int.tdiv a b))
 else if k=9 then (if b=0 then 0 else Int.tmod a b)
 else if k=10 then zD7 (decide (a=b)) else if k=11 then zD7 (decide (a ≠ b))
 else if k=12 then zD7 (decide (a < b)) else if k=13 then zD7 (decide (a <= b))
 else if k=14 then zD7 (decide (b < a)) else if k=15 then zD7 (decide (b <= a))
 else if k=16 then zD7 (decide (a ≠ 0)&&decide (b ≠ 0))
 else zD7 (decide (a ≠ 0) || decide (b ≠ 0))
mutual
def Ex.val (regs:List Int):Ex -> Int
 | .mk k num _ l =>
   if k=1 then num else if k=2 then regs.getD num.toNat 0
   else if k=3 then w64 (-((Ex.zCg regs l).getD 0 0)) else if k=4 then zD7 (decide ((Ex.zCg regs l).getD 0 0=0))
   else zDA k ((Ex.zCg regs l).getD 0 0) ((Ex.zCg regs l).getD 1 0)
def Ex.zCg (regs:List Int):List Ex -> List Int
 | []=>[]
 | x :: r=>Ex.val regs x :: Ex.zCg regs r
end
theorem Ex.zDI {regs:Int} {x:Ex} (h:x.may regs=true):zAK x.kind x.num x.nm x.args.length regs=true /\ Ex.zAM regs x.args=true:=by
 cases x;simp only [Ex.may,yT] at h;exact h
theorem Ex.zId {regs:Int} {l:List Ex} (h:Ex.zAM regs l=true) {a:Ex} (ha:a ∈ l):a.may regs=true:=by
 induction l with
 | nil=>cases ha
 | cons x r ih =>
   simp only [Ex.zAM,yT] at h;rcases xX.1 ha with e | e
   ·subst e;exact h.1
   ·exact ih h.2 e
theorem zEi {k num regs:Int} {nm:ByteArray} {n:Nat} (h:zAK k num nm n regs=true):(k=1 /\ n=0) \/ (k=2 /\ n=0 /\ 0 <= num /\ num < regs) \/ ((k=3 \/ k=4) /\ n=1) \/ (5 <= k /\ k <= 17 /\ n=2):=by
 unfold zAK at h;split at h
 ·rename_i e
  simp only [yT,beq_iff_eq,yU] at h;exact .inl ⟨e,h.2⟩
 ·split at h
  ·rename_i e
   simp only [yT,beq_iff_eq,yU] at h;exact .inr (.inl ⟨e,h.2,h.1.1.1,h.1.1.2⟩)
  ·simp only [yT,beq_iff_eq,yU] at h
   obtain ⟨⟨⟨⟨h1,h2⟩,h3⟩,h4⟩,h5⟩:=h;split at h5
   ·rename_i e;exact .inr (.inr (.inl ⟨e,h5⟩))
   ·rename_i e;exact .inr (.inr (.inr ⟨by omega,h2,h5⟩))
structure WFr where
 rest:List Ac
 all:List Ac
 left:Nat
structure WTh where
 st:Int
 regs:List Int
 fs:List WFr
structure zm where
 cells:List Int
 owners:List Int
 zM:List WTh
def zBG (regs:List Int) (fs:List WFr):Option (List Int × List WFr) :=
 match fs.getLast? with
 | none=>none
 | some f =>
   match f.rest with
   | []=>some (regs,if 1 < f.left then fs.dropLast++[⟨f.all,f.all,f.left - 1⟩] else fs.dropLast)
   | a :: r =>
     if a.kind=1 then some (regs.set a.reg.toNat (a.ex.val regs),fs.dropLast++[⟨r,f.all,f.left⟩])
     else if a.kind=10 then some (regs,fs.dropLast++[⟨r,f.all,f.left⟩]++[⟨if a.ex.val regs ≠ 0 then a.thn else a.els,if a.ex.val regs ≠ 0 then a.thn else a.els,1⟩])
     else if a.kind=11 then some (regs,if 0 < a.count then fs.dropLast++[⟨r,f.all,f.left⟩]++[⟨a.thn,a.thn,a.count.toNat⟩] else fs.dropLast++[⟨r,f.all,f.left⟩])
     else none
mutual
def Ac.lw:Ac -> Nat
 | .mk k _ _ _ c t e=>1+(if k=10 then Ac.lwL t+Ac.lwL e+1 else if k=11 then c.toNat*(Ac.lwL t+1) else 0)
def Ac.lwL:List Ac -> Nat
 | []=>0
 | x :: r=>Ac.lw x+Ac.lwL r
end
theorem Ac.zO3 (x:Ac):x.lw=1+(if x.kind=10 then Ac.lwL x.thn+Ac.lwL x.els+1 else if x.kind=11 then x.count.toNat*(Ac.lwL x.thn+1) else 0):=by
 cases x;rw [Ac.lw];rfl
def WFr.mea (f:WFr):Nat:=Ac.lwL f.rest+(f.left - 1)*(Ac.lwL f.all+1)+1
def zA2:List WFr -> Nat
 | []=>0
 | f :: r=>f.mea+zA2 r
theorem zA5:(a b:List WFr) -> zA2 (a++b)=zA2 a+zA2 b
 | [],b=>by simp [zA2]
 | x :: r,b=>by have:=zA5 r b;simp only [List.cons_append,zA2,this];omega
theorem zAr {α:Type} {l:List α} {x:α} (h:l.getLast?=some x):l=l.dropLast++[x]:=by
 have hn:l ≠ []:=fun e=>by subst e;simp at h
 rw [List.getLast?_eq_some_getLast hn] at h;have h2:=List.dropLast_concat_getLast hn;simp only [yO] at h;rw [h] at h2;exact h2.symm
theorem zAL {regs regs':List Int} {fs fs':List WFr} (h:zBG regs fs=some (regs',fs')):zA2 fs' < zA2 fs:=by
 unfold zBG at h;cases hl:fs.getLast? with
 | none=>rw [hl] at h;cases h
 | some f =>
   have hs:=zAr hl
   have hm:zA2 fs=zA2 fs.dropLast+f.mea:=by
    have:=kJ zA2 hs
    rw [zA5] at this;simpa [zA2] using this
   rw [hl] at h;simp only at h;cases hr:f.rest with
   | nil =>
     rw [hr] at h;simp only [yO,uN] at h;obtain ⟨_,rfl⟩:=h;split
     ·rw [zA5,hm]
      simp only [zA2,WFr.mea,hr,Ac.lwL];obtain ⟨q,hq⟩:∃ q,f.left - 1=q+1:=⟨f.left - 2,by omega⟩
      rw [hq,uY];simp only [Nat.add_sub_cancel,Nat.one_mul,yZ,vF,show f.left - 1 - 1=q by omega];generalize q*(Ac.lwL f.all+1)=z;omega
     ·rw [hm];simp [WFr.mea]
   | cons a r =>
     rw [hr] at h;have hf:f.mea=a.lw+Ac.lwL r+(f.left - 1)*(Ac.lwL f.all+1)+1:=by simp only [WFr.mea,hr,Ac.lwL]
     have ha:=Ac.zO3 a;simp only at h;split at h
     ·simp only [yO,uN] at h
      obtain ⟨_,rfl⟩:=h;rw [zA5,hm,hf];simp only [zA2,WFr.mea];omega
     ·split at h
      ·rename_i h10
       rw [if_pos h10] at ha;simp only [yO,uN] at h;obtain ⟨_,rfl⟩:=h;rw [zA5,zA5,hm,hf];simp only [zA2,WFr.mea];split <;> omega
      ·rename_i h10
       split at h
       ·rename_i h11
        rw [if_neg h10,if_pos h11] at ha;simp only [yO,uN] at h;obtain ⟨_,rfl⟩:=h;split
        ·rename_i hc
         rw [zA5,zA5,hm,hf];simp only [zA2,WFr.mea];obtain ⟨q,hq⟩:∃ q,a.count.toNat=q+1:=⟨a.count.toNat - 1,by omega⟩
         rw [hq] at ha ⊢;rw [uY] at ha;simp only [Nat.add_sub_cancel,Nat.one_mul] at ha ⊢;omega
        ·rw [zA5,hm,hf]
         simp only [zA2,WFr.mea];omega
       ·cases h
def zHT:Nat -> List Int -> List WFr -> List Int × List WFr
 | 0,r,fs=>(r,fs)
 | n+1,r,fs=>match zBG r fs with
   | none=>(r,fs)
   | some p=>zHT n p.1 p.2
theorem zKt:∀ (n m:Nat) (r:List Int) (fs:List WFr),zA2 fs <= n -> zA2 fs <= m -> zHT n r fs=zHT m r fs:=by
 intro n
 induction n with
 | zero =>
   intro m r fs h1 _
   cases m with
   | zero=>rfl
   | succ m =>
     simp only [zHT];cases h:zBG r fs with
     | none=>rfl
     | some p=>have:=zAL (regs':=p.1) (fs':=p.2) h;omega
 | succ n ih =>
   intro m r fs h1 h2
   cases m with
   | zero =>
     simp only [zHT];cases h:zBG r fs with
     | none=>rfl
     | some p=>have:=zAL (regs':=p.1) (fs':=p.2) h;omega
   | succ m =>
     simp only [zHT];cases h:zBG r fs with
     | none=>rfl
     | some p =>
       have:=zAL (regs':=p.1) (fs':=p.2) h
       exact ih m p.1 p.2 (by omega) (by omega)
def loc (r:List Int) (fs:List WFr):List Int × List WFr:=zHT (zA2 fs) r fs
theorem zC4 {r:List Int} {fs:List WFr} (h:zBG r fs=none):loc r fs=(r,fs):=by
 unfold loc;cases hm:zA2 fs with
 | zero=>rfl
 | succ n=>simp only [zHT,h]
theorem zAx {r r':List Int} {fs fs':List WFr} (h:zBG r fs=some (r',fs')):loc r fs=loc r' fs':=by
 have hl:=zAL h;unfold loc;obtain ⟨n,hn⟩:∃ n,zA2 fs=n+1:=⟨zA2 fs - 1,by omega⟩
 rw [hn];simp only [zHT,h];exact zKt n _ _ _ (by omega) (yV _)
theorem zMq {P:List Int -> List WFr -> Prop} (hs:∀ r fs r' fs',P r fs -> zBG r fs=some (r',fs') -> P r' fs') {r:List Int} {fs:List WFr} (h:P r fs):P (loc r fs).1 (loc r fs).2 /\ zBG (loc r fs).1 (loc r fs).2=none:=by
 suffices H:∀ n r fs,zA2 fs <= n -> P r fs -> P (loc r fs).1 (loc r fs).2 /\ zBG (loc r fs).1 (loc r fs).2=none from H (zA2 fs) r fs (yV _) h
 intro n
 induction n with
 | zero =>
   intro r fs hn hp
   cases h:zBG r fs with
   | none=>rw [zC4 h];exact ⟨hp,h⟩
   | some p=>have:=zAL (regs':=p.1) (fs':=p.2) h;omega
 | succ n ih =>
   intro r fs hn hp
   cases h:zBG r fs with
   | none=>rw [zC4 h];exact ⟨hp,h⟩
   | some p =>
     have:=zAL (regs':=p.1) (fs':=p.2) h
     rw [zAx (r':=p.1) (fs':=p.2) h];exact ih p.1 p.2 (by omega) (hs r fs p.1 p.2 hp h)
def WTh.zero:WTh:=⟨0,[],[]⟩
def zm.get (m:zm) (i:Nat):WTh:=m.zM.getD i WTh.zero
def zm.zAT (m:zm) (i:Nat) (t:WTh):zm:={ m with zM:=m.zM.set i t }
def WTh.local (t:WTh):WTh:=⟨t.st,(loc t.regs t.fs).1,(loc t.regs t.fs).2⟩
def WTh.next (t:WTh):Option Ac:=t.fs.getLast?.bind fun f=>f.rest.head?
def WTh.on (t:WTh):WTh:=match t.fs.getLast? with
 | none=>t
 | some f=>{ t with fs:=t.fs.dropLast++[⟨f.rest.tail,f.all,f.left⟩] }
def Un.body (u:Un) (i:Nat):Bd:=u.threads.getD i ⟨0,[]⟩
def zHU (b:Bd):WTh:=WTh.local ⟨2,List.replicate b.regs.toNat 0,[⟨b.acts,b.acts,1⟩]⟩
def zEP (u:Un) (m:zm) (i:Nat):zm:=m.zAT i (zHU (u.body i))
def zCY (u:Un):zm:=zEP u ⟨u.cells,List.replicate u.mutexes.toNat (-1),u.threads.map fun _=>⟨1,[],[]⟩⟩ 0
def zAS (m:zm) (i:Nat):Int × Int :=
 if (m.get i).st ≠ 2 then (0,0) else match (m.get i).next with
  | none=>(9,i)
  | some a=>(a.kind - 1,a.obj)
def zAa (m:zm) (i:Nat):Bool :=
 let a:=zAS m i
 if a.1=0 then false else if a.1=4 then decide (m.owners.getD a.2.toNat 0=-1)
 else if a.1=7 then decide ((m.get a.2.toNat).st ≠ 2)&&decide ((m.get a.2.toNat).st ≠ 4) else true
def zBu (m:zm):List Int:=((List.range m.zM.length).filter (zAa m)).map fun (i:Nat)=>(i:Int)
structure Evt where
 thread:Int
 kind:Int
 obj:Int
 value:Int
 bad:Int
def Evt.zero:Evt:=⟨0,0,0,0,0⟩
def zBh (m:zm) (i:Int):Int :=
 if i < 0 \/ (m.zM.length:Int) <= i then 2 else
 let s:=(m.get i.toNat).st
 if s=1 then 80 else if s=3 then 81 else if s=4 then 82 else if zAa m i.toNat then 0 else 83
def doM (u:Un) (m:zm) (i:Nat) (a:Ac):zm × Int × Int :=
 let t:=m.get i
 let c:=m.cells.getD a.obj.toNat 0
 if a.kind=2 then (m.zAT i { t with regs:=t.regs.set a.reg.toNat c },c,0)
 else if a.kind=3 then ({ m with cells:=m.cells.set a.obj.toNat (a.ex.val t.regs) },a.ex.val t.regs,0)
 else if a.kind=4 then ({ m with cells:=m.cells.set a.obj.toNat (w64 (c+a.ex.val t.regs)) }.zAT i { t with regs:=t.regs.set a.reg.toNat c },c,0)
 else if a.kind=5 then ({ m with owners:=m.owners.set a.obj.toNat i },0,0)
 else if a.kind=6 then (if m.owners.getD a.obj.toNat 0=i then ({ m with owners:=m.owners.set a.obj.toNat (-1) },0,0) else (m,0,2))
 else if a.kind=7 then (if (m.get a.obj.toNat).st=1 then (zEP u m a.obj.toNat,0,0) else (m,0,4))
 else if a.kind=8 then (if (m.get a.obj.toNat).st=1 then (m,0,3) else (m,0,0))
 else (m,a.ex.val t.regs,if a.ex.val t.regs=0 then 1 else 0)
def zAs (u:Un) (m:zm) (i:Nat):zm × Evt :=
 match (m.get i).next with
 | none=>(m.zAT i { m.get i with st:=3 },⟨i,(zAS m i).1,(zAS m i).2,0,0⟩)
 | some a =>
   let r:=doM u m i a
   if r.2.2 ≠ 0 then (r.1.zAT i { r.1.get i with st:=4 },⟨i,(zAS m i).1,(zAS m i).2,r.2.1,r.2.2⟩)
   else (r.1.zAT i (r.1.get i).on.local,⟨i,(zAS m i).1,(zAS m i).2,r.2.1,0⟩)
def stepM (u:Un) (m:zm) (i:Int):zm × Evt × Int :=
 if zBh m i=0 then ((zAs u m i.toNat).1,(zAs u m i.toNat).2,0) else (m,Evt.zero,zBh m i)
def dig (b n:Nat):List Nat :=
 if h:n=0 \/ b < 2 then [] else n % b :: dig b (n / b)
termination_by n
decreasing_by
 have h1:n ≠ 0:=fun e=>h (.inl e)
 have h2:¬ b < 2:=fun e=>h (.inr e)
 exact Nat.div_lt_self (by omega) (by omega)
theorem zCJ (b:Nat):dig b 0=[]:=by rw [dig];simp
theorem zG2 {b n:Nat} (hb:2 <= b) (hn:n ≠ 0):dig b n=n % b :: dig b (n / b):=by
 rw [dig,dif_neg (by omega)]
theorem zl {b:Nat} (hb:2 <= b) (i:Nat):∀ n,i < (dig b n).length ↔ b ^ i <= n:=by
 induction i with
 | zero =>
   intro n
   by_cases hn:n=0
   ·subst hn;simp [zCJ]
   ·rw [zG2 hb hn];simp;omega
 | succ i ih =>
   intro n
   by_cases hn:n=0
   ·subst hn
    have:0 < b ^ (i+1):=vY (by omega)
    simp [zCJ];omega
   ·rw [zG2 hb hn]
    simp only [xZ,Nat.add_lt_add_iff_right];rw [ih,Nat.le_div_iff_mul_le (by omega),uV]
theorem zGw {b:Nat} (hb:2 <= b) (x y i:Nat) :
 (x / b ^ i % b+y / b ^ i % b+(x % b ^ i+y % b ^ i) / b ^ i) % b=(x+y) / b ^ i % b ∧
 (x / b ^ i % b+y / b ^ i % b+(x % b ^ i+y % b ^ i) / b ^ i) / b=(x % b ^ (i+1)+y % b ^ (i+1)) / b ^ (i+1):=by
 have hp:0 < b ^ i:=vY (by omega)
 have e1:(x+y) / b ^ i=x / b ^ i+y / b ^ i+(x % b ^ i+y % b ^ i) / b ^ i:=by
  have hx:=Nat.div_add_mod x (b ^ i);have hy:=Nat.div_add_mod y (b ^ i)
  have:x+y=x % b ^ i+y % b ^ i+b ^ i*(x / b ^ i+y / b ^ i):=by
   rw [Nat.mul_add];omega
  exact J115 _
 constructor
 ·rw [e1]
  simp [Nat.add_mod]
 ·have hx:x % b ^ (i+1)=x % b ^ i+b ^ i*(x / b ^ i % b):=Nat.mod_pow_succ
  have hy:y % b ^ (i+1)=y % b ^ i+b ^ i*(y / b ^ i % b):=Nat.mod_pow_succ;rw [hx,hy,uV,<- vW];congr 1
  have:x % b ^ i+b ^ i*(x / b ^ i % b)+(y % b ^ i+b ^ i*(y / b ^ i % b))=x % b ^ i+y % b ^ i+b ^ i*(x / b ^ i % b+y / b ^ i % b):=by rw [Nat.mul_add];omega
  exact J115 _
theorem zGo {b:Nat} (hb:2 <= b) (x k i:Nat) :
 (x / b ^ i % b*k+x % b ^ i*k / b ^ i) % b=x*k / b ^ i % b /\ (x / b ^ i % b*k+x % b ^ i*k / b ^ i) / b=x % b ^ (i+1)*k / b ^ (i+1):=by
 have hp:0 < b ^ i:=vY (by omega)
 have e1:x*k / b ^ i=x / b ^ i*k+x % b ^ i*k / b ^ i:=by
  have hx:=Nat.div_add_mod x (b ^ i)
  have:x*k=x % b ^ i*k+b ^ i*(x / b ^ i*k):=by
   rw [<- Nat.mul_assoc,<- uY];congr 1;omega
  exact J115 _
 constructor
 ·rw [e1]
  simp [Nat.add_mod,Nat.mul_mod]
 ·have hx:x % b ^ (i+1)=x % b ^ i+b ^ i*(x / b ^ i % b):=Nat.mod_pow_succ
  rw [hx,uV,<- vW];congr 1
  have:(x % b ^ i+b ^ i*(x / b ^ i % b))*k=x % b ^ i*k+b ^ i*(x / b ^ i % b*k):=by rw [uY,Nat.mul_assoc]
  exact J115 _
theorem zD2 {b:Nat} (hb:2 <= b) {x y i:Nat} (h:x / b ^ (i+1)=y / b ^ (i+1)) :
 (x / b ^ i % b=y / b ^ i % b -> x / b ^ i=y / b ^ i) /\ (x / b ^ i % b < y / b ^ i % b -> x < y):=by
 have hp:0 < b ^ i:=vY (by omega);have ex:=Nat.div_add_mod (x / b ^ i) b;have ey:=Nat.div_add_mod (y / b ^ i) b;rw [vW,<- uV] at ex ey;rw [h] at ex;refine ⟨fun e=>by rw [<- ex,<- ey,e],fun e=>?_⟩
 have h1:x / b ^ i < y / b ^ i:=by
  generalize b*(y / b ^ (i+1))=z at ex ey;omega
 exact uO fun hle=>by
  have:=Nat.div_le_div_right (c:=b ^ i) hle
  omega
end Go.Proofs.YtfokdllgnblamaaGreatDoor
namespace Go.Proofs.YtfokdllgnblamaaGreatDoor
open Go.RowKit
theorem zO {w:World} {base e size n:Nat} {v:Value} {xs:List Value} (h:w.ownsRow base e size v n xs) {kb:Nat} (hv:v.ownBlock=some kb):kb < w.heap.size:=by
 rcases h.2 with ⟨rfl,_⟩ | ⟨g,cap,cur,rfl,_,hg,_⟩
 ·simp [Value.ownBlock] at hv
 ·simp [Value.ownBlock] at hv
  subst hv;exact lt_of_block hg
abbrev zBA (α:Type):=World -> (Nat -> Prop) -> α -> List Value -> Prop
structure zAX {α:Type} (R:zBA α) (sz:Nat):Prop where
 keeps:∀ {S F:Nat -> Prop} {w w':World} {x:α} {cs:List Value},R w F x cs -> Keeps S w w' -> (∀ k,F k -> ¬ S k) -> R w' F x cs
 mono:∀ {F F':Nat -> Prop} {w:World} {x:α} {cs:List Value},R w F x cs -> (∀ k,F k -> F' k) -> R w F' x cs
 len:∀ {F:Nat -> Prop} {w:World} {x:α} {cs:List Value},R w F x cs -> cs.length=sz
def zBU (G:Nat -> Prop) (B:Nat) (w:World) (v:Value) (k:Nat):Prop:=G k \/ (B <= k /\ k < w.heap.size /\ v.ownBlock ≠ some k)
def Acc {α:Type} (R:zBA α) (G:Nat -> Prop) (B sz:Nat) (ty:TypeId) (w:World) (v:Value) (xs:List α) (css:List (List Value)):Prop :=
 css.length=xs.length /\ w.ownsRow 0 ty sz v xs.length css.flatten /\ (∀ kb,v.ownBlock=some kb -> B <= kb) /\ (∃ ad cap,v=.slice ad xs.length cap) /\ ∀ (i:Nat) (x:α) (cs:List Value),xs[i]?=some x -> css[i]?=some cs -> R w (zBU G B w v) x cs
section
variable {α:Type} {R:zBA α} {G:Nat -> Prop} {B sz:Nat} {ty:TypeId} {w w':World} {v:Value} {xs:List α} {css:List (List Value)}
theorem Acc.nil (w:World):Acc R G B sz ty w (.slice none 0 0) [] [] :=
 ⟨rfl,xJ _ _ _ _,fun kb e=>by exact J190 _,⟨none,0,rfl⟩,fun i x cs e=>by simp at e⟩
theorem Acc.keeps (L:zAX R sz) (h:Acc R G B sz ty w v xs css) {S:Nat -> Prop} (hk:Keeps S w w') (hS:∀ k,S k -> k < B /\ ¬ G k):Acc R G B sz ty w' v xs css:=by
 obtain ⟨h1,h2,h3,h4,h5⟩:=h;refine ⟨h1,zG h2 hk (fun k e hs=>?_),h3,h4,fun i x cs e1 e2=>?_⟩
 ·have:=h3 k e;have:=(hS k hs).1;omega
 ·refine L.mono (L.keeps (h5 i x cs e1 e2) hk (fun k hf hs=>?_)) (fun k hf=>?_)
  ·rcases hf with hf | ⟨hf,_,_⟩
   ·exact (hS k hs).2 hf
   ·have:=(hS k hs).1;omega
  ·exact J130 _
theorem Acc.zD (L:zAX R sz) (h:Acc R G B sz ty w v xs css) (hk:Keeps zA w w'):Acc R G B sz ty w' v xs css:=h.keeps L hk (fun k h=>h.elim)
theorem Acc.push (L:zAX R sz) (h:Acc R G B sz ty w v xs css) (hG:∀ k,G k -> k < B) (hB:B <= w.heap.size) {x:α} {cs:List Value} {ad:Option Addr} {cap:Nat} (hx:R w (zBU G B w v) x cs) (hsz:0 < sz)
 (ha:zAB w 0 ty sz v (xs.length+1) (css.flatten++cs) ad cap w'):Acc R G B sz ty w' (.slice ad (xs.length+1) cap) (xs++[x]) (css++[cs]):=by
 obtain ⟨h1,h2,h3,h4,h5⟩:=h;obtain ⟨a1,a2,a3⟩:=ha;have hk:Keeps (fun q=>v.ownBlock=some q) w w':=xV ⟨a1,a2,a3⟩ (yC _ _) (fun q e _=>e);have hnew:∀ kb,(Value.slice ad (xs.length+1) cap).ownBlock=some kb -> v.ownBlock=some kb \/ kb=w.heap.size:=a3
 have key:∀ y ds,R w (zBU G B w v) y ds -> R w' (zBU G B w' (.slice ad (xs.length+1) cap)) y ds:=fun y ds hy=>by
  refine L.mono (L.keeps hy hk (fun k hf hs=>?_)) (fun k hf=>?_)
  ·rcases hf with hf | ⟨_,_,h7⟩
   ·have:=h3 k hs;have:=hG k hf;omega
   ·exact h7 hs
  ·rcases hf with hf | ⟨hf,h6,h7⟩
   ·exact .inl hf
   ·refine .inr ⟨hf,yI h6 hk.size,fun e=>?_⟩
    rcases hnew k e with h8 | h8
    ·exact h7 h8
    ·omega
 refine ⟨by simp [h1],?_,fun kb e=>?_,⟨ad,cap,by simp⟩,fun i y ds e1 e2=>?_⟩
 ·have e:(css++[cs]).flatten=css.flatten++cs:=by simp
  rw [e,xU,List.length_singleton];exact a1
 ·rcases hnew kb e with h8 | h8
  ·exact h3 kb h8
  ·omega
 ·rcases xR i xs.length with hi | hi
  ·rw [xS hi] at e1
   rw [xS (by omega)] at e2;exact key y ds (h5 i y ds e1 e2)
  ·have hi2:i=xs.length:=by
    have:=(yP.1 e1).1
    simp at this
    omega
   subst hi2;have e1':x=y:=by rw [xH (yV _),Nat.sub_self] at e1;simpa using e1
   have e2':cs=ds:=by rw [xH (by omega)] at e2;simpa [h1] using e2
   subst e1' e2';exact key x cs hx
theorem Acc.elems (L:zAX R sz) (h:Acc R G B sz ty w v xs css) {ad:Option Addr} {n cap:Nat} (hv:v=.slice ad n cap) :
 zBN w (fun k=>G k \/ (B <= k /\ k < w.heap.size)) sz xs.length ad (fun i=>css.getD i []) /\ ∀ (i:Nat) (x:α),xs[i]?=some x -> R w (fun k=>G k \/ (B <= k /\ k < w.heap.size)) x (css.getD i []):=by
 obtain ⟨h1,h2,h3,h4,h5⟩:=h
 have hc:∀ i,i < xs.length -> css[i]?=some (css.getD i []):=fun i hi=>by
  rw [yQ (by omega)];simp [List.getD,show i < css.length by omega]
 have hR:∀ (i:Nat) (x:α),xs[i]?=some x -> R w (zBU G B w v) x (css.getD i []):=fun i x e=>h5 i x _ e (hc i (yP.1 e).1)
 refine ⟨fun i hi=>?_,fun i x e=>L.mono (hR i x e) (fun k hf=>?_)⟩
 ·rcases h2.2 with ⟨_,hn⟩ | ⟨g,cap',cur,hv',hr⟩
  ·omega
  ·have hv2:v=.slice (some ⟨g,0,none⟩) xs.length cap':=hv'
   rw [hv] at hv2;obtain ⟨rfl,_,_⟩:ad=some ⟨g,0,none⟩ /\ n=xs.length /\ cap=cap':=by simpa using hv2
   have hlen:(css.getD i []).length=sz:=L.len (hR i xs[i] (yQ hi))
   have hall:∀ ds,ds ∈ css -> ds.length=sz:=fun ds hds=>by
    obtain ⟨j,hj,e⟩:=List.mem_iff_getElem.1 hds;have hj2:j < xs.length:=by omega
    have:=L.len (h5 j xs[j] ds (yQ hj2) (by rw [yQ hj,e]))
    exact this
   have hg:g < w.heap.size:=zO h2 (by rw [hv'];rfl);refine ⟨g,0,rfl, .inr ⟨h3 g (by rw [hv'];rfl),hg⟩,hlen,fun j u hj=>?_⟩
   rw [hv'] at h2;have hr:=uC h2;have hj2:j < sz:=by rw [<- hlen];exact (yP.1 hj).1
   rw [yZ];refine hr.cell ?_
   have hfm:css.flatten=css.flatMap id:=by simp [List.flatMap_id]
   have key:∀ (l:List (List Value)) (i j:Nat),(∀ ds,ds ∈ l -> ds.length=sz) -> j < sz -> l.flatten[i*sz+j]?=(l[i]?).bind fun ds=>ds[j]?:=by
    intro l
    induction l with
    | nil=>intro i j _ _;simp
    | cons x r ih =>
      intro i j hl hj
      rw [kU];have hx:=hl x (uR ..);cases i with
      | zero=>rw [Nat.zero_mul,yZ,xS (by omega)];simp
      | succ i =>
        have e:(i+1)*sz+j=x.length+(i*sz+j):=by rw [hx,uY];omega
        rw [e,xH (by omega),uI,ih i j (fun ds h=>hl ds (uS _ h)) hj];simp
   rw [key css i j hall hj2,hc i hi];exact hj
 ·rcases hf with hf | ⟨hf,h6,_⟩
  ·exact .inl hf
  ·exact .inr ⟨hf,h6⟩
end
theorem zFJ:zAX zA9 4:=⟨fun h=>h.keeps,fun h=>h.mono,fun h=>h.len⟩
theorem zIF:zAX zB4 10:=⟨fun h=>h.keeps,fun h=>h.mono,fun h=>h.len⟩
def zAH (L:List (Option Value)) (Sp:Nat -> Value -> World -> Prop) (j:Nat) (v:Value) (W:World):Prop :=
 match L[j]? with
 | some (some u)=>v=u
 | _=>Sp j v W
theorem zAH.st {L:List (Option Value)} {Sp:Nat -> Value -> World -> Prop} (hs:∀ j v W W',Sp j v W -> Keeps zA W W' -> Sp j v W') (j:Nat) (v:Value) (W W':World) (h:zAH L Sp j v W) (hk:Keeps zA W W'):zAH L Sp j v W':=by
 unfold zAH at *;split at h
 ·exact h
 ·exact hs _ _ _ _ h hk
theorem take_at {α:Type} {l:List α} {i:Nat} (h:i < l.length):l.take (i+1)=l.take i++[l[i]]:=by rw [List.take_add_one,yQ h];rfl
end Go.Proofs.YtfokdllgnblamaaGreatDoor
