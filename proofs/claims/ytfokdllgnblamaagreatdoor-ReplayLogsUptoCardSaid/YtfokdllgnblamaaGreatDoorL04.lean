/- Layer L: texts joined. -/
import Derived.Test.YtfokdllgnblamaaGreatDoorL03
set_option linter.all false
namespace Go.Proofs.YtfokdllgnblamaaGreatDoor
open Go.RowKit
abbrev kK:=@congrArg
abbrev kE:=@Nat.sub_self
abbrev vU:=@List.cons_append
abbrev xW:=@Prod.mk.injEq
abbrev xS:=@zy.keeps
abbrev xB:=@Go.World.ownsRow_nil
theorem J102 (P:Prop) (h:P:=by
 rcases hf with hf | ⟨hf,h6,h7⟩
 ·exact .inl hf
 ·exact .inr ⟨hf,yI h6 hk.size,h7⟩):P:=h
namespace Ac
def kind:Ac -> Int | .mk k _ _ _ _ _ _=>k
def reg:Ac -> Int | .mk _ r _ _ _ _ _=>r
def obj:Ac -> Int | .mk _ _ o _ _ _ _=>o
def ex:Ac -> Ex | .mk _ _ _ x _ _ _=>x
def count:Ac -> Int | .mk _ _ _ _ c _ _=>c
def thn:Ac -> List Ac | .mk _ _ _ _ _ t _=>t
def els:Ac -> List Ac | .mk _ _ _ _ _ _ e=>e
end Ac
namespace St
def kind:St -> Int | .mk k _ _ _ _ _ _=>k
def reg:St -> ByteArray | .mk _ r _ _ _ _ _=>r
def name:St -> ByteArray | .mk _ _ o _ _ _ _=>o
def ex:St -> Ex | .mk _ _ _ x _ _ _=>x
def count:St -> Int | .mk _ _ _ _ c _ _=>c
def thn:St -> List St | .mk _ _ _ _ _ t _=>t
def els:St -> List St | .mk _ _ _ _ _ _ e=>e
end St
theorem Ac.ind {P:Ac -> Prop} (h:∀ k r o x c t e,(∀ y,y ∈ t -> P y) -> (∀ y,y ∈ e -> P y) -> P (.mk k r o x c t e)):(x:Ac) -> P x
 | .mk k r o x c t e=>h k r o x c t e (fun y hy=>Ac.ind h y) (fun y hy=>Ac.ind h y)
termination_by x=>SizeOf.sizeOf x
decreasing_by
 all_goals (
  have:=List.sizeOf_lt_of_mem hy
  simp only [Ac.mk.sizeOf_spec];omega)
mutual
def Ac.sz:Ac -> Nat
 | .mk _ _ _ x _ t e=>1+x.cnt+Ac.szL t+Ac.szL e
def Ac.szL:List Ac -> Nat
 | []=>0
 | x :: r=>Ac.sz x+Ac.szL r
end
theorem Ac.zCI (x:Ac):x.sz=1+x.ex.cnt+Ac.szL x.thn+Ac.szL x.els:=by cases x;simp only [Ac.sz,Ac.ex,Ac.thn,Ac.els]
theorem Ac.zAg (l:List Ac):l.length <= Ac.szL l:=by
 induction l with
 | nil=>simp
 | cons x r ih=>have:=Ac.zCI x;simp only [xQ,Ac.szL];omega
theorem Ac.zBz {l:List Ac} {y:Ac} (h:y ∈ l):y.sz <= Ac.szL l:=by
 induction l with
 | nil=>cases h
 | cons x r ih =>
   simp only [Ac.szL];rcases xU.1 h with e | e
   ·subst e;omega
   ·have:=ih e;omega
def zAR (w:World) (F:Nat -> Prop) (l:List Ac) (ad:Option Addr):Prop:=∃ css,zBQ w F 10 l.length ad css /\ ∀ i y,l[i]?=some y -> zCm w F y (css i)
theorem zAR.keeps {S F:Nat -> Prop} {w w':World} {l:List Ac} {ad:Option Addr} (h:zAR w F l ad) (hk:Keeps S w w') (hS:∀ k,F k -> ¬ S k):zAR w' F l ad:=by
 exact J65 _
theorem zCm.cells {w:World} {F:Nat -> Prop} {x:Ac} {cs:List Value} (h:zCm w F x cs):∃ xa xc ta tc ea ec,cs=[.int .i64 x.kind, .int .i64 x.reg, .int .i64 x.obj, .int .i64 x.ex.kind, .int .i64 x.ex.num, .string x.ex.nm, .slice xa x.ex.args.length xc, .int .i64 x.count, .slice ta x.thn.length tc, .slice ea x.els.length ec] ∧
 zQ w F x.ex.args xa /\ zAR w F x.thn ta /\ zAR w F x.els ea:=by
 cases h with
 | mk k r o ex c t e xs ta ea tc ec tss ess hx t0 t1 e0 e1 =>
   obtain ⟨xa,xc,rfl,hxs⟩:=hx.exs;exact ⟨xa,xc,ta,tc,ea,ec,rfl,hxs,⟨tss,t0,t1⟩,ess,e0,e1⟩
theorem zCm.zEc {w:World} {F:Nat -> Prop} (x:Ac) {xa ta ea:Option Addr} {xc tc ec:Nat} (hx:zQ w F x.ex.args xa) (ht:zAR w F x.thn ta) (he:zAR w F x.els ea) :
 zCm w F x [.int .i64 x.kind, .int .i64 x.reg, .int .i64 x.obj, .int .i64 x.ex.kind, .int .i64 x.ex.num, .string x.ex.nm, .slice xa x.ex.args.length xc, .int .i64 x.count, .slice ta x.thn.length tc, .slice ea x.els.length ec]:=by
 obtain ⟨tss,t0,t1⟩:=ht;obtain ⟨ess,e0,e1⟩:=he;cases x with
 | mk k r o ex c t e=>exact .mk k r o ex c t e _ ta ea tc ec tss ess (zBC.zHd hx) t0 t1 e0 e1
theorem zAR.at {w:World} {F:Nat -> Prop} {l:List Ac} {ad:Option Addr} (h:zAR w F l ad) {i:Nat} (hi:i < l.length) :
 ∃ g o xa xc ta tc ea ec,ad=some ⟨g,o,none⟩ /\ F g /\ w.cell? ⟨g,o+i*10,none⟩=some (.int .i64 l[i].kind) /\ w.cell? ⟨g,o+i*10+1,none⟩=some (.int .i64 l[i].reg) /\ w.cell? ⟨g,o+i*10+2,none⟩=some (.int .i64 l[i].obj) ∧
   w.cell? ⟨g,o+i*10+3,none⟩=some (.int .i64 l[i].ex.kind) /\ w.cell? ⟨g,o+i*10+4,none⟩=some (.int .i64 l[i].ex.num) /\ w.cell? ⟨g,o+i*10+5,none⟩=some (.string l[i].ex.nm) ∧
   w.cell? ⟨g,o+i*10+6,none⟩=some (.slice xa l[i].ex.args.length xc) /\ w.cell? ⟨g,o+i*10+7,none⟩=some (.int .i64 l[i].count) /\ w.cell? ⟨g,o+i*10+8,none⟩=some (.slice ta l[i].thn.length tc) ∧
   w.cell? ⟨g,o+i*10+9,none⟩=some (.slice ea l[i].els.length ec) /\ zQ w F l[i].ex.args xa /\ zAR w F l[i].thn ta /\ zAR w F l[i].els ea:=by
 obtain ⟨css,h0,h1⟩:=h;obtain ⟨xa,xc,ta,tc,ea,ec,e,h2,h3,h4⟩:=(h1 i l[i] (yJ hi)).cells;obtain ⟨g,o,e1,hg,hl,hs⟩:=h0 i hi;rw [e] at hs;exact ⟨g,o,xa,xc,ta,tc,ea,ec,e1,hg,hs 0 _ rfl,hs 1 _ rfl,hs 2 _ rfl,hs 3 _ rfl,hs 4 _ rfl,hs 5 _ rfl,hs 6 _ rfl,hs 7 _ rfl,hs 8 _ rfl,hs 9 _ rfl,h2,h3,h4⟩
def acV (x:Ac) (xa:Option Addr) (xc:Nat) (ta:Option Addr) (tc:Nat) (ea:Option Addr) (ec:Nat):Value :=
 .agg #[.int .i64 x.kind, .int .i64 x.reg, .int .i64 x.obj, .int .i64 x.ex.kind, .int .i64 x.ex.num, .string x.ex.nm, .slice xa x.ex.args.length xc, .int .i64 x.count, .slice ta x.thn.length tc, .slice ea x.els.length ec]
theorem St.ind {P:St -> Prop} (h:∀ k r o x c t e,(∀ y,y ∈ t -> P y) -> (∀ y,y ∈ e -> P y) -> P (.mk k r o x c t e)):(x:St) -> P x
 | .mk k r o x c t e=>h k r o x c t e (fun y hy=>St.ind h y) (fun y hy=>St.ind h y)
termination_by x=>SizeOf.sizeOf x
decreasing_by
 all_goals (
  have:=List.sizeOf_lt_of_mem hy
  simp only [St.mk.sizeOf_spec];omega)
mutual
def St.sz:St -> Nat
 | .mk _ _ _ x _ t e=>1+x.cnt+St.szL t+St.szL e
def St.szL:List St -> Nat
 | []=>0
 | x :: r=>St.sz x+St.szL r
end
theorem St.zCI (x:St):x.sz=1+x.ex.cnt+St.szL x.thn+St.szL x.els:=by cases x;simp only [St.sz,St.ex,St.thn,St.els]
theorem St.zAg (l:List St):l.length <= St.szL l:=by
 induction l with
 | nil=>simp
 | cons x r ih=>have:=St.zCI x;simp only [xQ,St.szL];omega
theorem St.zBz {l:List St} {y:St} (h:y ∈ l):y.sz <= St.szL l:=by
 induction l with
 | nil=>cases h
 | cons x r ih =>
   simp only [St.szL];rcases xU.1 h with e | e
   ·subst e;omega
   ·have:=ih e;omega
def zq (w:World) (F:Nat -> Prop) (l:List St) (ad:Option Addr):Prop:=∃ css,zBQ w F 10 l.length ad css /\ ∀ i y,l[i]?=some y -> zBw w F y (css i)
theorem zq.keeps {S F:Nat -> Prop} {w w':World} {l:List St} {ad:Option Addr} (h:zq w F l ad) (hk:Keeps S w w') (hS:∀ k,F k -> ¬ S k):zq w' F l ad:=by
 exact J65 _
theorem zBw.cells {w:World} {F:Nat -> Prop} {x:St} {cs:List Value} (h:zBw w F x cs):∃ xa xc ta tc ea ec,cs=[.int .i64 x.kind, .string x.reg, .string x.name, .int .i64 x.ex.kind, .int .i64 x.ex.num, .string x.ex.nm, .slice xa x.ex.args.length xc, .int .i64 x.count, .slice ta x.thn.length tc, .slice ea x.els.length ec] ∧
 zQ w F x.ex.args xa /\ zq w F x.thn ta /\ zq w F x.els ea:=by
 cases h with
 | mk k r o ex c t e xs ta ea tc ec tss ess hx t0 t1 e0 e1 =>
   obtain ⟨xa,xc,rfl,hxs⟩:=hx.exs;exact ⟨xa,xc,ta,tc,ea,ec,rfl,hxs,⟨tss,t0,t1⟩,ess,e0,e1⟩
theorem zBw.zEc {w:World} {F:Nat -> Prop} (x:St) {xa ta ea:Option Addr} {xc tc ec:Nat} (hx:zQ w F x.ex.args xa) (ht:zq w F x.thn ta) (he:zq w F x.els ea) :
 zBw w F x [.int .i64 x.kind, .string x.reg, .string x.name, .int .i64 x.ex.kind, .int .i64 x.ex.num, .string x.ex.nm, .slice xa x.ex.args.length xc, .int .i64 x.count, .slice ta x.thn.length tc, .slice ea x.els.length ec]:=by
 obtain ⟨tss,t0,t1⟩:=ht;obtain ⟨ess,e0,e1⟩:=he;cases x with
 | mk k r o ex c t e=>exact .mk k r o ex c t e _ ta ea tc ec tss ess (zBC.zHd hx) t0 t1 e0 e1
theorem zq.at {w:World} {F:Nat -> Prop} {l:List St} {ad:Option Addr} (h:zq w F l ad) {i:Nat} (hi:i < l.length) :
 ∃ g o xa xc ta tc ea ec,ad=some ⟨g,o,none⟩ /\ F g /\ w.cell? ⟨g,o+i*10,none⟩=some (.int .i64 l[i].kind) /\ w.cell? ⟨g,o+i*10+1,none⟩=some (.string l[i].reg) /\ w.cell? ⟨g,o+i*10+2,none⟩=some (.string l[i].name) ∧
   w.cell? ⟨g,o+i*10+3,none⟩=some (.int .i64 l[i].ex.kind) /\ w.cell? ⟨g,o+i*10+4,none⟩=some (.int .i64 l[i].ex.num) /\ w.cell? ⟨g,o+i*10+5,none⟩=some (.string l[i].ex.nm) ∧
   w.cell? ⟨g,o+i*10+6,none⟩=some (.slice xa l[i].ex.args.length xc) /\ w.cell? ⟨g,o+i*10+7,none⟩=some (.int .i64 l[i].count) /\ w.cell? ⟨g,o+i*10+8,none⟩=some (.slice ta l[i].thn.length tc) ∧
   w.cell? ⟨g,o+i*10+9,none⟩=some (.slice ea l[i].els.length ec) /\ zQ w F l[i].ex.args xa /\ zq w F l[i].thn ta /\ zq w F l[i].els ea:=by
 obtain ⟨css,h0,h1⟩:=h;obtain ⟨xa,xc,ta,tc,ea,ec,e,h2,h3,h4⟩:=(h1 i l[i] (yJ hi)).cells;obtain ⟨g,o,e1,hg,hl,hs⟩:=h0 i hi;rw [e] at hs;exact ⟨g,o,xa,xc,ta,tc,ea,ec,e1,hg,hs 0 _ rfl,hs 1 _ rfl,hs 2 _ rfl,hs 3 _ rfl,hs 4 _ rfl,hs 5 _ rfl,hs 6 _ rfl,hs 7 _ rfl,hs 8 _ rfl,hs 9 _ rfl,h2,h3,h4⟩
def stV (x:St) (xa:Option Addr) (xc:Nat) (ta:Option Addr) (tc:Nat) (ea:Option Addr) (ec:Nat):Value :=
 .agg #[.int .i64 x.kind, .string x.reg, .string x.name, .int .i64 x.ex.kind, .int .i64 x.ex.num, .string x.ex.nm, .slice xa x.ex.args.length xc, .int .i64 x.count, .slice ta x.thn.length tc, .slice ea x.els.length ec]
end Go.Proofs.YtfokdllgnblamaaGreatDoor
namespace Go.Proofs.YtfokdllgnblamaaGreatDoor
abbrev w64 (x:Int):Int:=RowKit.wrap64 x
def zEd (b:Bool):Int:=if b then 1 else 0
def zFI (k a b:Int):Int :=
 if k=5 then w64 (a+b) else if k=6 then w64 (a - b) else if k=7 then w64 (a*b)
 else if k=8 then (if b=0 then 0 else w64 (Int.tdiv a b))
 else if k=9 then (if b=0 then 0 else Int.tmod a b)
 else if k=10 then zEd (decide (a=b)) else if k=11 then zEd (decide (a ≠ b))
 else if k=12 then zEd (decide (a < b)) else if k=13 then zEd (decide (a <= b))
 else if k=14 then zEd (decide (b < a)) else if k=15 then zEd (decide (b <= a))
 else if k=16 then zEd (decide (a ≠ 0)&&decide (b ≠ 0))
 else zEd (decide (a ≠ 0) || decide (b ≠ 0))
mutual
def Ex.val (regs:List Int):Ex -> Int
 | .mk k num _ l =>
   if k=1 then num else if k=2 then regs.getD num.toNat 0
   else if k=3 then w64 (-((Ex.zDr regs l).getD 0 0)) else if k=4 then zEd (decide ((Ex.zDr regs l).getD 0 0=0))
   else zFI k ((Ex.zDr regs l).getD 0 0) ((Ex.zDr regs l).getD 1 0)
def Ex.zDr (regs:List Int):List Ex -> List Int
 | []=>[]
 | x :: r=>Ex.val regs x :: Ex.zDr regs r
end
theorem Ex.zCx {regs:Int} {x:Ex} (h:x.may regs=true):zAE x.kind x.num x.nm x.args.length regs=true /\ Ex.zAC regs x.args=true:=by
 cases x;simp only [Ex.may,yR] at h;exact h
theorem Ex.zHa {regs:Int} {l:List Ex} (h:Ex.zAC regs l=true) {a:Ex} (ha:a ∈ l):a.may regs=true:=by
 induction l with
 | nil=>cases ha
 | cons x r ih =>
   simp only [Ex.zAC,yR] at h;rcases xU.1 ha with e | e
   ·subst e;exact h.1
   ·exact ih h.2 e
theorem zGl {k num regs:Int} {nm:ByteArray} {n:Nat} (h:zAE k num nm n regs=true):(k=1 /\ n=0) \/ (k=2 /\ n=0 /\ 0 <= num /\ num < regs) \/ ((k=3 \/ k=4) /\ n=1) \/ (5 <= k /\ k <= 17 /\ n=2):=by
 unfold zAE at h;split at h
 ·rename_i e
  simp only [yR,beq_iff_eq,yS] at h;exact .inl ⟨e,h.2⟩
 ·split at h
  ·rename_i e
   simp only [yR,beq_iff_eq,yS] at h;exact .inr (.inl ⟨e,h.2,h.1.1.1,h.1.1.2⟩)
  ·simp only [yR,beq_iff_eq,yS] at h
   obtain ⟨⟨⟨⟨h1,h2⟩,h3⟩,h4⟩,h5⟩:=h;split at h5
   ·rename_i e;exact .inr (.inr (.inl ⟨e,h5⟩))
   ·rename_i e;exact .inr (.inr (.inr ⟨by omega,h2,h5⟩))
structure zx where
 rest:List Ac
 all:List Ac
 left:Nat
structure WTh where
 st:Int
 regs:List Int
 fs:List zx
structure ze where
 cells:List Int
 owners:List Int
 zL:List WTh
def zA3 (regs:List Int) (fs:List zx):Option (List Int × List zx) :=
 match fs.getLast? with
 | none=>none
 | some f =>
   match f.rest with
   | []=>some (regs,if 1 < f.left then fs.dropLast++[⟨f.all,f.all,f.left - 1⟩] else fs.dropLast)
   | a :: r =>
     if a.kind=1 then some (regs.set a.reg.toNat (a.ex.val regs),fs.dropLast++[⟨r,f.all,f.left⟩])
     else if a.kind=10 then some (regs,fs.dropLast++[⟨r,f.all,f.left⟩]++[⟨if a.ex.val regs ≠ 0 then a.thn else a.els,if a.ex.val regs ≠ 0 then a.thn else a.els,1⟩])
     else if a.kind=11 then some (regs,if 0 < a.count then fs.dropLast++[⟨r,f.all,f.left⟩]++[⟨a.thn,a.thn,a.count.toNat⟩] else fs.dropLast++[⟨r,f.all,f.left⟩])
     else none
mutual
def Ac.lw:Ac -> Nat
 | .mk k _ _ _ c t e=>1+(if k=10 then Ac.lwL t+Ac.lwL e+1 else if k=11 then c.toNat*(Ac.lwL t+1) else 0)
def Ac.lwL:List Ac -> Nat
 | []=>0
 | x :: r=>Ac.lw x+Ac.lwL r
end
theorem Ac.zOd (x:Ac):x.lw=1+(if x.kind=10 then Ac.lwL x.thn+Ac.lwL x.els+1 else if x.kind=11 then x.count.toNat*(Ac.lwL x.thn+1) else 0):=by
 cases x;rw [Ac.lw];rfl
def zx.mea (f:zx):Nat:=Ac.lwL f.rest+(f.left - 1)*(Ac.lwL f.all+1)+1
def zBF:List zx -> Nat
 | []=>0
 | f :: r=>f.mea+zBF r
theorem zAo:(a b:List zx) -> zBF (a++b)=zBF a+zBF b
 | [],b=>by simp [zBF]
 | x :: r,b=>by have:=zAo r b;simp only [vU,zBF,this];omega
theorem zAY {α:Type} {l:List α} {x:α} (h:l.getLast?=some x):l=l.dropLast++[x]:=by
 have hn:l ≠ []:=fun e=>by subst e;simp at h
 rw [List.getLast?_eq_some_getLast hn] at h;have h2:=List.dropLast_concat_getLast hn;simp only [yP] at h;rw [h] at h2;exact h2.symm
theorem zAd {regs regs':List Int} {fs fs':List zx} (h:zA3 regs fs=some (regs',fs')):zBF fs' < zBF fs:=by
 unfold zA3 at h;cases hl:fs.getLast? with
 | none=>rw [hl] at h;cases h
 | some f =>
   have hs:=zAY hl
   have hm:zBF fs=zBF fs.dropLast+f.mea:=by
    have:=kK zBF hs
    rw [zAo] at this;simpa [zBF] using this
   rw [hl] at h;simp only at h;cases hr:f.rest with
   | nil =>
     rw [hr] at h;simp only [yP,xW] at h;obtain ⟨_,rfl⟩:=h;split
     ·rw [zAo,hm]
      simp only [zBF,zx.mea,hr,Ac.lwL];obtain ⟨q,hq⟩:∃ q,f.left - 1=q+1:=⟨f.left - 2,by omega⟩
      rw [hq,vH];simp only [Nat.add_sub_cancel,Nat.one_mul,xC,Nat.add_zero,show f.left - 1 - 1=q by omega];generalize q*(Ac.lwL f.all+1)=z;omega
     ·rw [hm];simp [zx.mea]
   | cons a r =>
     rw [hr] at h;have hf:f.mea=a.lw+Ac.lwL r+(f.left - 1)*(Ac.lwL f.all+1)+1:=by simp only [zx.mea,hr,Ac.lwL]
     have ha:=Ac.zOd a;simp only at h;split at h
     ·simp only [yP,xW] at h
      obtain ⟨_,rfl⟩:=h;rw [zAo,hm,hf];simp only [zBF,zx.mea];omega
     ·split at h
      ·rename_i h10
       rw [if_pos h10] at ha;simp only [yP,xW] at h;obtain ⟨_,rfl⟩:=h;rw [zAo,zAo,hm,hf];simp only [zBF,zx.mea];split <;> omega
      ·rename_i h10
       split at h
       ·rename_i h11
        rw [if_neg h10,if_pos h11] at ha;simp only [yP,xW] at h;obtain ⟨_,rfl⟩:=h;split
        ·rename_i hc
         rw [zAo,zAo,hm,hf];simp only [zBF,zx.mea];obtain ⟨q,hq⟩:∃ q,a.count.toNat=q+1:=⟨a.count.toNat - 1,by omega⟩
         rw [hq] at ha ⊢;rw [vH] at ha;simp only [Nat.add_sub_cancel,Nat.one_mul] at ha ⊢;omega
        ·rw [zAo,hm,hf]
         simp only [zBF,zx.mea];omega
       ·cases h
def zG3:Nat -> List Int -> List zx -> List Int × List zx
 | 0,r,fs=>(r,fs)
 | n+1,r,fs=>match zA3 r fs with
   | none=>(r,fs)
   | some p=>zG3 n p.1 p.2
theorem zJf:∀ (n m:Nat) (r:List Int) (fs:List zx),zBF fs <= n -> zBF fs <= m -> zG3 n r fs=zG3 m r fs:=by
 intro n
 induction n with
 | zero =>
   intro m r fs h1 _
   cases m with
   | zero=>rfl
   | succ m =>
     simp only [zG3];cases h:zA3 r fs with
     | none=>rfl
     | some p=>have:=zAd (regs':=p.1) (fs':=p.2) h;omega
 | succ n ih =>
   intro m r fs h1 h2
   cases m with
   | zero =>
     simp only [zG3];cases h:zA3 r fs with
     | none=>rfl
     | some p=>have:=zAd (regs':=p.1) (fs':=p.2) h;omega
   | succ m =>
     simp only [zG3];cases h:zA3 r fs with
     | none=>rfl
     | some p =>
       have:=zAd (regs':=p.1) (fs':=p.2) h
       exact ih m p.1 p.2 (by omega) (by omega)
def loc (r:List Int) (fs:List zx):List Int × List zx:=zG3 (zBF fs) r fs
theorem zEN {r:List Int} {fs:List zx} (h:zA3 r fs=none):loc r fs=(r,fs):=by
 unfold loc;cases hm:zBF fs with
 | zero=>rfl
 | succ n=>simp only [zG3,h]
theorem zCC {r r':List Int} {fs fs':List zx} (h:zA3 r fs=some (r',fs')):loc r fs=loc r' fs':=by
 have hl:=zAd h;unfold loc;obtain ⟨n,hn⟩:∃ n,zBF fs=n+1:=⟨zBF fs - 1,by omega⟩
 rw [hn];simp only [zG3,h];exact zJf n _ _ _ (by omega) (yV _)
theorem zJC {P:List Int -> List zx -> Prop} (hs:∀ r fs r' fs',P r fs -> zA3 r fs=some (r',fs') -> P r' fs') {r:List Int} {fs:List zx} (h:P r fs):P (loc r fs).1 (loc r fs).2 /\ zA3 (loc r fs).1 (loc r fs).2=none:=by
 suffices H:∀ n r fs,zBF fs <= n -> P r fs -> P (loc r fs).1 (loc r fs).2 /\ zA3 (loc r fs).1 (loc r fs).2=none from H (zBF fs) r fs (yV _) h
 intro n
 induction n with
 | zero =>
   intro r fs hn hp
   cases h:zA3 r fs with
   | none=>rw [zEN h];exact ⟨hp,h⟩
   | some p=>have:=zAd (regs':=p.1) (fs':=p.2) h;omega
 | succ n ih =>
   intro r fs hn hp
   cases h:zA3 r fs with
   | none=>rw [zEN h];exact ⟨hp,h⟩
   | some p =>
     have:=zAd (regs':=p.1) (fs':=p.2) h
     rw [zCC (r':=p.1) (fs':=p.2) h];exact ih p.1 p.2 (by omega) (hs r fs p.1 p.2 hp h)
def WTh.zero:WTh:=⟨0,[],[]⟩
def ze.get (m:ze) (i:Nat):WTh:=m.zL.getD i WTh.zero
def ze.zAj (m:ze) (i:Nat) (t:WTh):ze:={ m with zL:=m.zL.set i t }
def WTh.local (t:WTh):WTh:=⟨t.st,(loc t.regs t.fs).1,(loc t.regs t.fs).2⟩
def WTh.next (t:WTh):Option Ac:=t.fs.getLast?.bind fun f=>f.rest.head?
def WTh.on (t:WTh):WTh:=match t.fs.getLast? with
 | none=>t
 | some f=>{ t with fs:=t.fs.dropLast++[⟨f.rest.tail,f.all,f.left⟩] }
def Un.body (u:Un) (i:Nat):Bd:=u.threads.getD i ⟨0,[]⟩
def zC9 (b:Bd):WTh:=WTh.local ⟨2,List.replicate b.regs.toNat 0,[⟨b.acts,b.acts,1⟩]⟩
def zER (u:Un) (m:ze) (i:Nat):ze:=m.zAj i (zC9 (u.body i))
def zAU (u:Un):ze:=zER u ⟨u.cells,List.replicate u.mutexes.toNat (-1),u.threads.map fun _=>⟨1,[],[]⟩⟩ 0
def zAa (m:ze) (i:Nat):Int × Int :=
 if (m.get i).st ≠ 2 then (0,0) else match (m.get i).next with
  | none=>(9,i)
  | some a=>(a.kind - 1,a.obj)
def zAy (m:ze) (i:Nat):Bool :=
 let a:=zAa m i
 if a.1=0 then false else if a.1=4 then decide (m.owners.getD a.2.toNat 0=-1)
 else if a.1=7 then decide ((m.get a.2.toNat).st ≠ 2)&&decide ((m.get a.2.toNat).st ≠ 4) else true
def zBD (m:ze):List Int:=((List.range m.zL.length).filter (zAy m)).map fun (i:Nat)=>(i:Int)
structure Evt where
 thread:Int
 kind:Int
 obj:Int
 value:Int
 bad:Int
def Evt.zero:Evt:=⟨0,0,0,0,0⟩
def zBp (m:ze) (i:Int):Int :=
 if i < 0 \/ (m.zL.length:Int) <= i then 2 else
 let s:=(m.get i.toNat).st
 if s=1 then 80 else if s=3 then 81 else if s=4 then 82 else if zAy m i.toNat then 0 else 83
def doM (u:Un) (m:ze) (i:Nat) (a:Ac):ze × Int × Int :=
 let t:=m.get i
 let c:=m.cells.getD a.obj.toNat 0
 if a.kind=2 then (m.zAj i { t with regs:=t.regs.set a.reg.toNat c },c,0)
 else if a.kind=3 then ({ m with cells:=m.cells.set a.obj.toNat (a.ex.val t.regs) },a.ex.val t.regs,0)
 else if a.kind=4 then ({ m with cells:=m.cells.set a.obj.toNat (w64 (c+a.ex.val t.regs)) }.zAj i { t with regs:=t.regs.set a.reg.toNat c },c,0)
 else if a.kind=5 then ({ m with owners:=m.owners.set a.obj.toNat i },0,0)
 else if a.kind=6 then (if m.owners.getD a.obj.toNat 0=i then ({ m with owners:=m.owners.set a.obj.toNat (-1) },0,0) else (m,0,2))
 else if a.kind=7 then (if (m.get a.obj.toNat).st=1 then (zER u m a.obj.toNat,0,0) else (m,0,4))
 else if a.kind=8 then (if (m.get a.obj.toNat).st=1 then (m,0,3) else (m,0,0))
 else (m,a.ex.val t.regs,if a.ex.val t.regs=0 then 1 else 0)
def zAK (u:Un) (m:ze) (i:Nat):ze × Evt :=
 match (m.get i).next with
 | none=>(m.zAj i { m.get i with st:=3 },⟨i,(zAa m i).1,(zAa m i).2,0,0⟩)
 | some a =>
   let r:=doM u m i a
   if r.2.2 ≠ 0 then (r.1.zAj i { r.1.get i with st:=4 },⟨i,(zAa m i).1,(zAa m i).2,r.2.1,r.2.2⟩)
   else (r.1.zAj i (r.1.get i).on.local,⟨i,(zAa m i).1,(zAa m i).2,r.2.1,0⟩)
def stepM (u:Un) (m:ze) (i:Int):ze × Evt × Int :=
 if zBp m i=0 then ((zAK u m i.toNat).1,(zAK u m i.toNat).2,0) else (m,Evt.zero,zBp m i)
end Go.Proofs.YtfokdllgnblamaaGreatDoor
namespace Go.Proofs.YtfokdllgnblamaaGreatDoor
open Go.RowKit
def acB (f:Fl) (reg regs obj most count:Int) (m z:Bool) (nt ne:Nat):Bool :=
 (if f.reg then decide (0 <= reg)&&decide (reg < regs) else reg==0)&&(if f.name then decide (0 <= obj)&&decide (obj < most) else obj==0)&&(if f.ex then m else z) &&
 (if f.count then decide (0 <= count)&&decide (count <= 1000) else count==0)&&(f.thn || nt==0)&&(f.els || ne==0)
theorem zIL (u:Un) (regs k reg obj:Int) (ex:Ex) (count:Int) (nt ne:Nat) :
 zBA u regs k reg obj ex count nt ne=(decide (1 <= k)&&decide (k <= 11)&&acB (fields k) reg regs obj (zAb u k) count (ex.may regs) ex.none nt ne):=by
 unfold zBA acB;simp only [Bool.and_assoc]
theorem zC.ten {w:World} {g:Nat} {a b c d e f h i j k:Value} (r:zC w g [a,b,c,d,e,f,h,i,j,k]) :
 w.cell? ⟨g,0,none⟩=some a /\ w.cell? ⟨g,1,none⟩=some b /\ w.cell? ⟨g,2,none⟩=some c /\ w.cell? ⟨g,3,none⟩=some d /\ w.cell? ⟨g,4,none⟩=some e /\ w.cell? ⟨g,5,none⟩=some f /\ w.cell? ⟨g,6,none⟩=some h ∧
 w.cell? ⟨g,7,none⟩=some i /\ w.cell? ⟨g,8,none⟩=some j /\ w.cell? ⟨g,9,none⟩=some k :=
 ⟨r.cell rfl,r.cell rfl,r.cell rfl,r.cell rfl,r.cell rfl,r.cell rfl,r.cell rfl,r.cell rfl,r.cell rfl,r.cell rfl⟩
theorem zC.three {w:World} {g:Nat} {a b c:Value} (r:zC w g [a,b,c]):w.cell? ⟨g,0,none⟩=some a /\ w.cell? ⟨g,1,none⟩=some b /\ w.cell? ⟨g,2,none⟩=some c :=
 ⟨r.cell rfl,r.cell rfl,r.cell rfl⟩
theorem zC.four {w:World} {g:Nat} {a b c d:Value} (r:zC w g [a,b,c,d]):w.cell? ⟨g,0,none⟩=some a /\ w.cell? ⟨g,1,none⟩=some b /\ w.cell? ⟨g,2,none⟩=some c /\ w.cell? ⟨g,3,none⟩=some d :=
 ⟨r.cell rfl,r.cell rfl,r.cell rfl,r.cell rfl⟩
def ints (xs:List Int):List Value:=xs.map (Value.int .i64)
theorem zAq (xs:List Int):(ints xs).length=xs.length:=by simp [ints]
theorem zAA (xs:List Int) (k:Nat) (hk:k < xs.length):(ints xs)[k]?=some (.int .i64 (xs.getD k 0)):=by simp [ints,List.getD,hk]
theorem ints_set (xs:List Int) (k:Nat) (u:Int):(ints xs).set k (.int .i64 u)=ints (xs.set k u):=by simp [ints,List.map_set]
abbrev Ret (w:World) (f:FuncId) (a:Array Value) (v:Value):Prop:=Hid (∀ W,Keeps zA w W -> Calls Tryz.prog f a W fun e w'=>e=.returned v /\ Keeps zA W w')
theorem Ret.call {w W:World} {f:FuncId} {a:Array Value} {v:Value} {Q:Ending -> World -> Prop} (H:Ret w f a v) (K:Keeps zA w W) (h:∀ w',Keeps zA w w' -> Keeps zA W w' -> Q (.returned v) w'):Calls Tryz.prog f a W Q :=
 (H.out W K).mono fun e w' ⟨he,hk⟩=>by rw [he];exact h w' (K.zB hk) hk
theorem newRow (w:World) (cs:List Value) (t:TypeId):∃ b w1,w.heap.size=b /\ w.alloc (.cells cs.toArray t)=w1 /\ zC w1 b cs /\ Keeps zA w w1 /\ Hid (w1.heap.size=b+1) :=
 ⟨_,_,rfl,rfl,yM (yG w _),(yB _ _).alloc _,by show _=_;simp⟩
namespace zC
variable {w:World} {g:Nat} {a b c d e f h i j k:Value}
theorem all2 (r:zC w g [a,b]):∀ W,Keeps zA w W -> W.cell? ⟨g,0,none⟩=some a /\ W.cell? ⟨g,1,none⟩=some b:=fun W q=>⟨(r.keeps q (fun h=>h)).cell (k:=0) rfl,(r.keeps q (fun h=>h)).cell (k:=1) rfl⟩
theorem zEt (r:zC w g [a,b,c]):∀ W,Keeps zA w W -> W.cell? ⟨g,0,none⟩=some a /\ W.cell? ⟨g,1,none⟩=some b /\ W.cell? ⟨g,2,none⟩=some c:=fun W q=>(r.keeps q (fun h=>h)).three
theorem zDZ (r:zC w g [a,b,c,d]):∀ W,Keeps zA w W -> W.cell? ⟨g,0,none⟩=some a /\ W.cell? ⟨g,1,none⟩=some b /\ W.cell? ⟨g,2,none⟩=some c /\ W.cell? ⟨g,3,none⟩=some d:=fun W q=>(r.keeps q (fun h=>h)).four
theorem zAx (r:zC w g [a,b,c,d,e,f,h,i,j,k]):∀ W,Keeps zA w W -> W.cell? ⟨g,0,none⟩=some a /\ W.cell? ⟨g,1,none⟩=some b /\ W.cell? ⟨g,2,none⟩=some c /\ W.cell? ⟨g,3,none⟩=some d /\ W.cell? ⟨g,4,none⟩=some e /\ W.cell? ⟨g,5,none⟩=some f /\ W.cell? ⟨g,6,none⟩=some h /\ W.cell? ⟨g,7,none⟩=some i /\ W.cell? ⟨g,8,none⟩=some j /\ W.cell? ⟨g,9,none⟩=some k:=fun W q=>(r.keeps q (fun h=>h)).ten
end zC
theorem zT {w:World} {p:Addr} {v:Value} (h:w.cell? p=some v):∀ W,Keeps zA w W -> W.cell? p=some v:=fun W q=>q.cell (fun h=>h) h
theorem zI (w:World):Keeps zA w w:=yB _ _
theorem zM {w:World} {base e size n:Nat} {v:Value} {xs:List Value} (h:w.ownsRow base e size v n xs) {kb:Nat} (hv:v.ownBlock=some kb):kb < w.heap.size:=by
 rcases h.2 with ⟨rfl,_⟩ | ⟨g,cap,cur,rfl,_,hg,_⟩
 ·simp [Value.ownBlock] at hv
 ·simp [Value.ownBlock] at hv
  subst hv;exact lt_of_block hg
abbrev zA0 (α:Type):=World -> (Nat -> Prop) -> α -> List Value -> Prop
structure zAN {α:Type} (R:zA0 α) (sz:Nat):Prop where
 keeps:∀ {S F:Nat -> Prop} {w w':World} {x:α} {cs:List Value},R w F x cs -> Keeps S w w' -> (∀ k,F k -> ¬ S k) -> R w' F x cs
 mono:∀ {F F':Nat -> Prop} {w:World} {x:α} {cs:List Value},R w F x cs -> (∀ k,F k -> F' k) -> R w F' x cs
 len:∀ {F:Nat -> Prop} {w:World} {x:α} {cs:List Value},R w F x cs -> cs.length=sz
def zBr (G:Nat -> Prop) (B:Nat) (w:World) (v:Value) (k:Nat):Prop:=G k \/ (B <= k /\ k < w.heap.size /\ v.ownBlock ≠ some k)
def Acc {α:Type} (R:zA0 α) (G:Nat -> Prop) (B sz:Nat) (ty:TypeId) (w:World) (v:Value) (xs:List α) (css:List (List Value)):Prop :=
 css.length=xs.length /\ w.ownsRow 0 ty sz v xs.length css.flatten /\ (∀ kb,v.ownBlock=some kb -> B <= kb) /\ (∃ ad cap,v=.slice ad xs.length cap) /\ ∀ (i:Nat) (x:α) (cs:List Value),xs[i]?=some x -> css[i]?=some cs -> R w (zBr G B w v) x cs
section
variable {α:Type} {R:zA0 α} {G:Nat -> Prop} {B sz:Nat} {ty:TypeId} {w w':World} {v:Value} {xs:List α} {css:List (List Value)}
theorem Acc.nil (w:World):Acc R G B sz ty w (.slice none 0 0) [] [] :=
 ⟨rfl,xB _ _ _ _,fun kb e=>by exact J153 _,⟨none,0,rfl⟩,fun i x cs e=>by simp at e⟩
theorem Acc.keeps (L:zAN R sz) (h:Acc R G B sz ty w v xs css) {S:Nat -> Prop} (hk:Keeps S w w') (hS:∀ k,S k -> k < B /\ ¬ G k):Acc R G B sz ty w' v xs css:=by
 obtain ⟨h1,h2,h3,h4,h5⟩:=h;refine ⟨h1,zF h2 hk (fun k e hs=>?_),h3,h4,fun i x cs e1 e2=>?_⟩
 ·have:=h3 k e;have:=(hS k hs).1;omega
 ·refine L.mono (L.keeps (h5 i x cs e1 e2) hk (fun k hf hs=>?_)) (fun k hf=>?_)
  ·rcases hf with hf | ⟨hf,_,_⟩
   ·exact (hS k hs).2 hf
   ·have:=(hS k hs).1;omega
  ·exact J102 _
theorem Acc.zG (L:zAN R sz) (h:Acc R G B sz ty w v xs css) (hk:Keeps zA w w'):Acc R G B sz ty w' v xs css:=h.keeps L hk (fun k h=>h.elim)
theorem Acc.push (L:zAN R sz) (h:Acc R G B sz ty w v xs css) (hG:∀ k,G k -> k < B) (hB:B <= w.heap.size) {x:α} {cs:List Value} {ad:Option Addr} {cap:Nat} (hx:R w (zBr G B w v) x cs) (hsz:0 < sz)
 (ha:zy w 0 ty sz v (xs.length+1) (css.flatten++cs) ad cap w'):Acc R G B sz ty w' (.slice ad (xs.length+1) cap) (xs++[x]) (css++[cs]):=by
 obtain ⟨h1,h2,h3,h4,h5⟩:=h;obtain ⟨a1,a2,a3⟩:=ha;have hk:Keeps (fun q=>v.ownBlock=some q) w w':=xS ⟨a1,a2,a3⟩ (yB _ _) (fun q e _=>e);have hnew:∀ kb,(Value.slice ad (xs.length+1) cap).ownBlock=some kb -> v.ownBlock=some kb \/ kb=w.heap.size:=a3
 have key:∀ y ds,R w (zBr G B w v) y ds -> R w' (zBr G B w' (.slice ad (xs.length+1) cap)) y ds:=fun y ds hy=>by
  refine L.mono (L.keeps hy hk (fun k hf hs=>?_)) (fun k hf=>?_)
  ·rcases hf with hf | ⟨_,_,h7⟩
   ·have:=h3 k hs;have:=hG k hf;omega
   ·exact h7 hs
  ·rcases hf with hf | ⟨hf,h6,h7⟩
   ·exact .inl hf
   ·refine .inr ⟨hf,yI h6 hk.size,fun e=>?_⟩
    rcases hnew k e with h8 | h8
    ·exact h7 h8
    ·omega
 refine ⟨by simp [h1],?_,fun kb e=>?_,⟨ad,cap,by simp⟩,fun i y ds e1 e2=>?_⟩
 ·have e:(css++[cs]).flatten=css.flatten++cs:=by simp
  rw [e,xE,List.length_singleton];exact a1
 ·rcases hnew kb e with h8 | h8
  ·exact h3 kb h8
  ·omega
 ·rcases xL i xs.length with hi | hi
  ·rw [xK hi] at e1
   rw [xK (by omega)] at e2;exact key y ds (h5 i y ds e1 e2)
  ·have hi2:i=xs.length:=by
    have:=(yO.1 e1).1
    simp at this
    omega
   subst hi2;have e1':x=y:=by rw [yY (yV _),kE] at e1;simpa using e1
   have e2':cs=ds:=by rw [yY (by omega)] at e2;simpa [h1] using e2
   subst e1' e2';exact key x cs hx
theorem Acc.elems (L:zAN R sz) (h:Acc R G B sz ty w v xs css) {ad:Option Addr} {n cap:Nat} (hv:v=.slice ad n cap) :
 zBQ w (fun k=>G k \/ (B <= k /\ k < w.heap.size)) sz xs.length ad (fun i=>css.getD i []) /\ ∀ (i:Nat) (x:α),xs[i]?=some x -> R w (fun k=>G k \/ (B <= k /\ k < w.heap.size)) x (css.getD i []):=by
 obtain ⟨h1,h2,h3,h4,h5⟩:=h
 have hc:∀ i,i < xs.length -> css[i]?=some (css.getD i []):=fun i hi=>by
  rw [yJ (by omega)];simp [List.getD,show i < css.length by omega]
 have hR:∀ (i:Nat) (x:α),xs[i]?=some x -> R w (zBr G B w v) x (css.getD i []):=fun i x e=>h5 i x _ e (hc i (yO.1 e).1)
 refine ⟨fun i hi=>?_,fun i x e=>L.mono (hR i x e) (fun k hf=>?_)⟩
 ·rcases h2.2 with ⟨_,hn⟩ | ⟨g,cap',cur,hv',hr⟩
  ·omega
  ·have hv2:v=.slice (some ⟨g,0,none⟩) xs.length cap':=hv'
   rw [hv] at hv2;obtain ⟨rfl,_,_⟩:ad=some ⟨g,0,none⟩ /\ n=xs.length /\ cap=cap':=by simpa using hv2
   have hlen:(css.getD i []).length=sz:=L.len (hR i xs[i] (yJ hi))
   have hall:∀ ds,ds ∈ css -> ds.length=sz:=fun ds hds=>by
    obtain ⟨j,hj,e⟩:=List.mem_iff_getElem.1 hds;have hj2:j < xs.length:=by omega
    have:=L.len (h5 j xs[j] ds (yJ hj2) (by rw [yJ hj,e]))
    exact this
   have hg:g < w.heap.size:=zM h2 (by rw [hv'];rfl);refine ⟨g,0,rfl, .inr ⟨h3 g (by rw [hv'];rfl),hg⟩,hlen,fun j u hj=>?_⟩
   rw [hv'] at h2;have hr:=uG h2;have hj2:j < sz:=by rw [<- hlen];exact (yO.1 hj).1
   rw [xC];refine hr.cell ?_
   have hfm:css.flatten=css.flatMap id:=by simp [List.flatMap_id]
   have key:∀ (l:List (List Value)) (i j:Nat),(∀ ds,ds ∈ l -> ds.length=sz) -> j < sz -> l.flatten[i*sz+j]?=(l[i]?).bind fun ds=>ds[j]?:=by
    intro l
    induction l with
    | nil=>intro i j _ _;simp
    | cons x r ih =>
      intro i j hl hj
      rw [List.flatten_cons];have hx:=hl x (vW ..);cases i with
      | zero=>rw [Nat.zero_mul,xC,xK (by omega)];simp
      | succ i =>
        have e:(i+1)*sz+j=x.length+(i*sz+j):=by rw [hx,vH];omega
        rw [e,yY (by omega),vN,ih i j (fun ds h=>hl ds (vJ _ h)) hj];simp
   rw [key css i j hall hj2,hc i hi];exact hj
 ·rcases hf with hf | ⟨hf,h6,_⟩
  ·exact .inl hf
  ·exact .inr ⟨hf,h6⟩
end
theorem zHb:zAN zBC 4:=⟨fun h=>h.keeps,fun h=>h.mono,fun h=>h.len⟩
theorem zHj:zAN zBw 10:=⟨fun h=>h.keeps,fun h=>h.mono,fun h=>h.len⟩
def zAp (L:List (Option Value)) (Sp:Nat -> Value -> World -> Prop) (j:Nat) (v:Value) (W:World):Prop :=
 match L[j]? with
 | some (some u)=>v=u
 | _=>Sp j v W
theorem zAp.st {L:List (Option Value)} {Sp:Nat -> Value -> World -> Prop} (hs:∀ j v W W',Sp j v W -> Keeps zA W W' -> Sp j v W') (j:Nat) (v:Value) (W W':World) (h:zAp L Sp j v W) (hk:Keeps zA W W'):zAp L Sp j v W':=by
 unfold zAp at *;split at h
 ·exact h
 ·exact hs _ _ _ _ h hk
theorem take_at {α:Type} {l:List α} {i:Nat} (h:i < l.length):l.take (i+1)=l.take i++[l[i]]:=by rw [List.take_add_one,yJ h];rfl
end Go.Proofs.YtfokdllgnblamaaGreatDoor
