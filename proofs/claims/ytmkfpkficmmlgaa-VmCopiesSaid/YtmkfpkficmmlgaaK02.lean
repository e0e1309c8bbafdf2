/- append of whatever can be read, onto nil or an owned row: one law. -/
import Derived.Test.YtmkfpkficmmlgaaK01
import Derived.Laws.OwnMore
import Derived.Maps.AppendAt
namespace Go.Proofs.Ytmkfpkficmmlgaa
open Go.RowKit
set_option linter.unusedVariables false
set_option linter.unusedSimpArgs false
set_option linter.unnecessarySimpa false

/-- a slice of n elements of which these cells can be read -/
def SrcAt (w : World) (v : Value) (n : Nat) (cs : List Value) : Prop :=
  ∃ ad cap, v = .slice ad n cap ∧ (n ≠ 0 → ∃ g o, ad = some ⟨g, o, none⟩ ∧ ∀ j u, cs[j]? = some u → w.cell? ⟨g, o + j, none⟩ = some u)

/-- what append leaves: a slice that owns both, new blocks but for its own row -/
def AppOut (w : World) (base e size : Nat) (v : Value) (n : Nat) (xs : List Value) (ad : Option Addr) (cap : Nat) (w' : World) : Prop :=
  w'.ownsRow base e size (.slice ad n cap) n xs ∧ w.grownBy w' v.ownBlock ∧ ∀ kb, (Value.slice ad n cap).ownBlock = some kb → v.ownBlock = some kb ∨ kb = w.heap.size

section
variable {P : Program} (w : World)

theorem run_append_src (base : Nat) (t ty e : TypeId) (i : TypeInfo) (z : Value) (size bytes : Nat) (ht : P.underlying t = some (.slice e)) (hi : P.info? e = some i) (hz : i.zero = some z)
    (hsize : i.size = size) (hby : i.bytes = bytes) (hzs : z.cells.size = size) (hsz : 0 < size)
    (v : Value) (n : Nat) (xs : List Value) (hown : w.ownsRow base e size v n xs)
    (s : Value) (m : Nat) (news : List Value) (hs : SrcAt w s m news) (hl : news.length = m * size) (h1 : ∀ u ∈ news, u.oneCell' = true)
    (h63 : n + m ≤ maxLen) (hbytes : (n + m) * bytes ≤ 140737488355328) (hbase : base ≤ w.heap.size) :
    ∃ ad cap w', (Builtin.append_ #[t, t] ty #[v, s]).run P w = .ok (.slice ad (n + m) cap) w' ∧ AppOut w base e size v (n + m) (xs ++ news) ad cap w' := by
  obtain ⟨ad, c, rfl, h2⟩ := hs
  by_cases hm : m = 0
  · subst hm
    obtain rfl : news = [] := List.eq_nil_of_length_eq_zero (by simpa using hl)
    have hsame : w.ownsRow base e size v (n + 0) (xs ++ []) := by simpa using hown
    have hrun : (Builtin.append_ #[t, t] ty #[v, .slice ad 0 c]).run P w = .ok v w := by
      rcases hown.2 with ⟨rfl, rfl⟩ | ⟨g, cap, cur, rfl, _, _, hnc, _⟩
      · cases ad <;> simp [Builtin.append_, run_underlying ht, sizeOf, typeInfo, hi, Builtin.lenOf, Builtin.firstCells, loadCells, loadCellsFrom]
      · cases ad <;> simp [Builtin.append_, run_underlying ht, sizeOf, typeInfo, hi, Builtin.lenOf, Builtin.firstCells, hnc, storeCells, loadCells, loadCellsFrom]
    rcases hown.2 with ⟨rfl, rfl⟩ | ⟨g, cap, cur, rfl, _, _, hnc, _⟩
    · exact ⟨none, 0, w, hrun, hsame, ⟨rfl, rfl, rfl, Nat.le_refl _, fun k hk _ => rfl⟩, fun kb e => by simp [Value.ownBlock] at e⟩
    · exact ⟨some ⟨g, 0, none⟩, cap, w, by simpa using hrun, hsame, ⟨rfl, rfl, rfl, Nat.le_refl _, fun k hk _ => rfl⟩, fun kb e => .inl (by simpa [Value.ownBlock] using e)⟩
  · obtain ⟨g, o, rfl, hc⟩ := h2 hm
    obtain ⟨v', w', hr, r1, r2, r3, r4⟩ := run_append_own_at (P := P) w base t ty e i z size bytes ht hi hz hsize hby hzs hsz v n xs hown ⟨g, o, none⟩ m c news hl (fun j u hj => by rw [Addr.add_lit]; exact hc j u hj) h1 h63 hbytes hbase
    obtain ⟨g', cap, rfl, _, _⟩ := r1.form (by omega)
    refine ⟨_, cap, w', hr, r1, r2, fun kb e => ?_⟩
    rcases r4 with r4 | r4
    · exact .inl (by rw [← r4]; exact e)
    · rw [r4] at e; cases e; exact .inr rfl

variable {ops : Array Oper} {o : Oper} {a : Act} {Q : Exit → Act → World → Prop}
theorem wp_append_src {K : Act → World → Prop} (s x : Operand) (t : TypeId)
    (ho : o.op = .call { callee := .builtin .append, args := #[s, x], argTypes := #[t, t] })
    (base : Nat) (e : TypeId) (i : TypeInfo) (z : Value) (size bytes : Nat) (ht : P.underlying t = some (.slice e)) (hi : P.info? e = some i) (hz : i.zero = some z)
    (hsize : i.size = size) (hby : i.bytes = bytes) (hzs : z.cells.size = size) (hsz : 0 < size)
    (v : Value) (n : Nat) (xs : List Value) (hs : a.eval s = v) (hown : w.ownsRow base e size v n xs)
    (sv : Value) (m : Nat) (news : List Value) (hx : a.eval x = sv) (hsrc : SrcAt w sv m news) (hl : news.length = m * size) (h1 : ∀ u ∈ news, u.oneCell' = true)
    (h63 : n + m ≤ maxLen) (hbytes : (n + m) * bytes ≤ 140737488355328) (hbase : base ≤ w.heap.size)
    (h : ∀ ad cap w', AppOut w base e size v (n + m) (xs ++ news) ad cap w' → K (a.put o.dst (.slice ad (n + m) cap)) w') : o.wp P a w K Q := by
  obtain ⟨ad, cap, w', hr, h2⟩ := run_append_src (P := P) w base t o.type e i z size bytes ht hi hz hsize hby hzs hsz v n xs hown sv m news hsrc hl h1 h63 hbytes hbase
  unfold Oper.wp execOp
  simp only [ho, resolve, invoke, builtin, Sem.run_bind, Sem.run_pure, Result.andThen_ok, List.map_toArray, List.map_cons, List.map_nil, hs, hx, hr]
  exact h ad cap w' h2

theorem wpList_append_src {rest : List Oper} (hgd : o.guard = none) (s x : Operand) (t : TypeId)
    (ho : o.op = .call { callee := .builtin .append, args := #[s, x], argTypes := #[t, t] })
    (base : Nat) (e : TypeId) (i : TypeInfo) (z : Value) (size bytes : Nat) (ht : P.underlying t = some (.slice e)) (hi : P.info? e = some i) (hz : i.zero = some z)
    (hsize : i.size = size) (hby : i.bytes = bytes) (hzs : z.cells.size = size) (hsz : 0 < size)
    (v : Value) (n : Nat) (xs : List Value) (hs : a.eval s = v) (hown : w.ownsRow base e size v n xs)
    (sv : Value) (m : Nat) (news : List Value) (hx : a.eval x = sv) (hsrc : SrcAt w sv m news) (hl : news.length = m * size) (h1 : ∀ u ∈ news, u.oneCell' = true)
    (h63 : n + m ≤ maxLen) (hbytes : (n + m) * bytes ≤ 140737488355328) (hbase : base ≤ w.heap.size)
    (h : ∀ ad cap w', AppOut w base e size v (n + m) (xs ++ news) ad cap w' → wpList P ops Q rest (a.put o.dst (.slice ad (n + m) cap)) w') : wpList P ops Q (o :: rest) a w :=
  wpList_plain hgd fun _ hK => wp_append_src w s x t ho base e i z size bytes ht hi hz hsize hby hzs hsz v n xs hs hown sv m news hx hsrc hl h1 h63 hbytes hbase fun ad cap w' h2 => hK _ _ (h ad cap w' h2)

theorem step_append_src {K : Act → World → Prop} {E : Prop} (hgd : o.guard = none) (s x : Operand) (t : TypeId)
    (ho : o.op = .call { callee := .builtin .append, args := #[s, x], argTypes := #[t, t] })
    (base : Nat) (e : TypeId) (i : TypeInfo) (z : Value) (size bytes : Nat) (ht : P.underlying t = some (.slice e)) (hi : P.info? e = some i) (hz : i.zero = some z)
    (hsize : i.size = size) (hby : i.bytes = bytes) (hzs : z.cells.size = size) (hsz : 0 < size)
    (v : Value) (n : Nat) (xs : List Value) (hs : a.eval s = v) (hown : w.ownsRow base e size v n xs)
    (sv : Value) (m : Nat) (news : List Value) (hx : a.eval x = sv) (hsrc : SrcAt w sv m news) (hl : news.length = m * size) (h1 : ∀ u ∈ news, u.oneCell' = true)
    (h63 : n + m ≤ maxLen) (hbytes : (n + m) * bytes ≤ 140737488355328) (hbase : base ≤ w.heap.size)
    (h : ∀ ad cap w', AppOut w base e size v (n + m) (xs ++ news) ad cap w' → K (a.put o.dst (.slice ad (n + m) cap)) w') :
    if Region.wanted o (yielded ops a.tmps) = true then Oper.wp P o a w K Q else E := by
  have hw : Region.wanted o (yielded ops a.tmps) = true := by simp [Region.wanted, hgd]
  rw [if_pos hw]
  exact wp_append_src w s x t ho base e i z size bytes ht hi hz hsize hby hzs hsz v n xs hs hown sv m news hx hsrc hl h1 h63 hbytes hbase h
end

/-- Chains of worlds that only grow. -/
theorem Keeps.trans0 {a b c : World} (h : Keeps NoBlk a b) (h' : Keeps NoBlk b c) : Keeps NoBlk a c := h.trans h' (fun _ _ h => h)
theorem AppOut.keeps {w w' : World} {base e size n cap : Nat} {v : Value} {xs : List Value} {ad : Option Addr} (h : AppOut w base e size v n xs ad cap w') {S : Nat → Prop} {w0 : World} (h0 : Keeps S w0 w) (hv : ∀ k, v.ownBlock = some k → k < w0.heap.size → S k) : Keeps S w0 w' :=
  h0.grown h.2.1 hv

/-- a row of its own, above B -/
def FRow (w : World) (B : Nat) (v : Value) (n : Nat) (cs : List Value) : Prop :=
  ∃ ad cap, v = .slice ad n cap ∧ cap ≤ maxLen ∧ (ad = none → cap = 0) ∧ (n ≠ 0 → ∃ g, ad = some ⟨g, 0, none⟩ ∧ B ≤ g ∧ RowAt w g cs)
theorem FRow.keeps {S : Nat → Prop} {w w' : World} {B : Nat} {v : Value} {n : Nat} {cs : List Value} (h : FRow w B v n cs) (hk : Keeps S w w') (hS : ∀ k, B ≤ k → ¬ S k) : FRow w' B v n cs := by
  obtain ⟨ad, cap, e, e1, e2, h1⟩ := h
  refine ⟨ad, cap, e, e1, e2, fun hn => ?_⟩
  obtain ⟨g, h2, h3, h4⟩ := h1 hn
  exact ⟨g, h2, h3, h4.keeps hk (hS g h3)⟩
theorem FRow.of {w : World} {base e size n B : Nat} {v : Value} {xs : List Value} (h : w.ownsRow base e size v n xs) (hb : ∀ k, v.ownBlock = some k → B ≤ k) : FRow w B v n xs := by
  rcases h.2 with ⟨rfl, rfl⟩ | ⟨g, cap, cur, rfl, _, hg, _, hm, _⟩
  · exact ⟨none, 0, rfl, by unfold maxLen; omega, fun _ => rfl, fun h => absurd rfl h⟩
  · exact ⟨_, cap, rfl, hm, fun h => (by cases h), fun _ => ⟨g, rfl, hb g rfl, RowAt.ofOwns h⟩⟩
theorem FRow.src {w : World} {B n : Nat} {v : Value} {cs : List Value} (h : FRow w B v n cs) : SrcAt w v n cs := by
  obtain ⟨ad, cap, e, _, _, h1⟩ := h
  refine ⟨ad, cap, e, fun hn => ?_⟩
  obtain ⟨g, h2, h3, h4⟩ := h1 hn
  exact ⟨g, 0, h2, h4.rng⟩
theorem SrcAt.keeps {S : Nat → Prop} {w w' : World} {v : Value} {n : Nat} {cs : List Value} (h : SrcAt w v n cs) (hk : Keeps S w w') (hS : ∀ k, v.ownBlock = some k → ¬ S k) : SrcAt w' v n cs := by
  obtain ⟨ad, cap, rfl, h1⟩ := h
  refine ⟨ad, cap, rfl, fun hn => ?_⟩
  obtain ⟨g, o, e, h2⟩ := h1 hn
  refine ⟨g, o, e, fun j u hj => hk.cell (p := ⟨g, o + j, none⟩) (hS g (by rw [e]; rfl)) (h2 j u hj)⟩
end Go.Proofs.Ytmkfpkficmmlgaa

/- The machine of layer 11, in plain Lean. -/
namespace Go.Proofs.Ytmkfpkficmmlgaa
set_option linter.unusedVariables false

/-- an instruction -/
structure Ins where
  op : Int
  a : Int
  b : Int
  c : Int
/-- a thread's code -/
structure Cod where
  regs : Int
  ins : List Ins
/-- an image -/
structure Img where
  cells : List Int
  mutexes : Int
  threads : List Cod
/-- a thread that runs -/
structure Fr where
  st : Int
  regs : List Int
  at_ : Nat
/-- a machine -/
structure Mach where
  cells : List Int
  owners : List Int
  fr : List Fr

abbrev w64 (x : Int) : Int := RowKit.wrap64 x
def yesN (b : Bool) : Int := if b then 1 else 0
/-- what an operator makes of two values -/
def reckN (op a b : Int) : Int :=
  if op = 5 then w64 (a + b) else if op = 6 then w64 (a - b) else if op = 7 then w64 (a * b)
  else if op = 8 then (if b = 0 then 0 else w64 (Int.tdiv a b))
  else if op = 9 then (if b = 0 then 0 else Int.tmod a b)
  else if op = 10 then yesN (decide (a = b)) else if op = 11 then yesN (decide (a ≠ b))
  else if op = 12 then yesN (decide (a < b)) else if op = 13 then yesN (decide (a ≤ b))
  else if op = 14 then yesN (decide (b < a)) else if op = 15 then yesN (decide (b ≤ a))
  else if op = 16 then yesN (decide (a ≠ 0) && decide (b ≠ 0))
  else yesN (decide (a ≠ 0) || decide (b ≠ 0))

def Fr.reg (f : Fr) (k : Int) : Int := f.regs.getD k.toNat 0
def Fr.put (f : Fr) (k : Int) (v : Int) : Fr := { f with regs := f.regs.set k.toNat v }
def Fr.to (f : Fr) (k : Int) : Fr := { f with at_ := k.toNat }
def Fr.on (f : Fr) : Fr := { f with at_ := f.at_ + 1 }
/-- a local instruction -/
def doesF (f : Fr) (i : Ins) : Fr :=
  if i.op = 1 then f.on.put i.a i.b
  else if i.op = 2 then f.on.put i.a (f.reg i.b)
  else if i.op = 3 then f.on.put i.a (w64 (-(f.reg i.b)))
  else if i.op = 4 then f.on.put i.a (yesN (decide (f.reg i.b = 0)))
  else if i.op = 18 then f.to i.a
  else if i.op = 19 then (if f.reg i.a = 0 then f.to i.b else f.on)
  else if i.op = 20 then (if 0 < w64 (f.reg i.a - 1) then (f.put i.a (w64 (f.reg i.a - 1))).to i.b else f.on.put i.a (w64 (f.reg i.a - 1)))
  else f.on.put i.a (reckN i.op (f.reg i.b) (f.reg i.c))
def Ins.zero : Ins := ⟨0, 0, 0, 0⟩
def Cod.at (c : Cod) (k : Nat) : Ins := c.ins.getD k Ins.zero
def stepsN (op : Int) : Bool := decide (21 ≤ op) && decide (op ≤ 29)
/-- all that is, up to a step -/
def localF (c : Cod) : Nat → Fr → Fr
  | 0, f => if stepsN (c.at f.at_).op then f else { f with st := 4 }
  | n + 1, f => if stepsN (c.at f.at_).op then f else localF c n (doesF f (c.at f.at_))

/-- what a number of an instruction stands for: 0 nothing, 1 a number, 2 a register, 3 an instruction, 4 a cell, 5 a mutex, 6 a thread -/
def kindsN (op : Int) : Nat × Nat × Nat :=
  if op = 1 then (2, 1, 0) else if op = 2 ∨ op = 3 ∨ op = 4 then (2, 2, 0) else if op = 18 then (3, 0, 0) else if op = 19 ∨ op = 20 then (2, 3, 0)
  else if op = 21 then (2, 4, 0) else if op = 22 then (4, 2, 0) else if op = 23 then (2, 4, 2) else if op = 24 ∨ op = 25 then (5, 0, 0)
  else if op = 26 ∨ op = 27 then (6, 0, 0) else if op = 28 then (2, 0, 0) else if op = 29 then (0, 0, 0) else (2, 2, 2)
def mostN (x : Img) (c : Cod) (k : Nat) : Int :=
  if k = 2 then c.regs else if k = 3 then c.ins.length else if k = 4 then x.cells.length else if k = 5 then x.mutexes else if k = 6 then x.threads.length else 1
def numN' (n : Int) : Bool := decide (-2147483647 ≤ n) && decide (n ≤ 2147483647)
def fitN (x : Img) (c : Cod) (k : Nat) (n : Int) : Bool := if k = 1 then numN' n else decide (0 ≤ n) && decide (n < mostN x c k)
def insN (x : Img) (c : Cod) (i : Ins) : Bool :=
  decide (1 ≤ i.op) && decide (i.op ≤ 29) && (fitN x c (kindsN i.op).1 i.a && fitN x c (kindsN i.op).2.1 i.b && fitN x c (kindsN i.op).2.2 i.c)
def lastOp (c : Cod) : Int := (c.at (c.ins.length - 1)).op
def codN (x : Img) (c : Cod) : Bool :=
  (decide (0 ≤ c.regs) && decide (c.regs ≤ 64)) && (decide (1 ≤ c.ins.length) && decide (c.ins.length ≤ 4000)) && (decide (lastOp c = 29) || decide (lastOp c = 18)) && c.ins.all (insN x c)
def rightN (x : Img) : Bool :=
  (decide (1 ≤ x.threads.length) && decide (x.threads.length ≤ 8)) && decide (x.cells.length ≤ 8) && (decide (0 ≤ x.mutexes) && decide (x.mutexes ≤ 8)) && x.cells.all numN' && x.threads.all (codN x)

def Mach.setFr (m : Mach) (i : Nat) (f : Fr) : Mach := { m with fr := m.fr.set i f }
def Fr.zero : Fr := ⟨0, [], 0⟩
def Mach.get (m : Mach) (i : Nat) : Fr := m.fr.getD i Fr.zero
def Img.cod (x : Img) (i : Nat) : Cod := x.threads.getD i ⟨0, []⟩
/-- a thread is begun -/
def beginN (x : Img) (m : Mach) (i : Nat) : Mach := m.setFr i (localF (x.cod i) 100000 { m.get i with st := 2 })
/-- the machine at its beginning -/
def newN (x : Img) : Mach :=
  beginN x ⟨x.cells, List.replicate x.mutexes.toNat (-1), x.threads.map fun c => ⟨1, List.replicate c.regs.toNat 0, 0⟩⟩ 0
/-- the action of the step ahead of which a thread stands -/
def actN (x : Img) (m : Mach) (i : Nat) : Int × Int :=
  let f := m.get i
  if f.st ≠ 2 then (0, 0) else
  let n := (x.cod i).at f.at_
  (n.op - 20, if n.op = 21 ∨ n.op = 23 then n.b else if n.op = 28 then 0 else if n.op = 29 then i else n.a)
/-- why a thread makes no step: 0: it makes one; 1 the thread; 2 idle; 3 ended; 4 failed; 5 it waits -/
def waitsN (x : Img) (m : Mach) (i : Nat) : Bool :=
  let a := actN x m i
  (decide (a.1 = 4) && decide (0 ≤ m.owners.getD a.2.toNat 0)) || (decide (a.1 = 7) && (decide ((m.get a.2.toNat).st = 2) || decide ((m.get a.2.toNat).st = 4)))
/-- an event -/
structure Evt where
  thread : Int
  kind : Int
  obj : Int
  value : Int
  bad : Int
/-- what a step does: the machine, the value, what was bad -/
def stepN (x : Img) (m : Mach) (i : Nat) (n : Ins) : Mach × Int × Int :=
  let f := m.get i
  if n.op = 21 then (m.setFr i (f.put n.a (m.cells.getD n.b.toNat 0)), m.cells.getD n.b.toNat 0, 0)
  else if n.op = 22 then ({ m with cells := m.cells.set n.a.toNat (f.reg n.b) }, f.reg n.b, 0)
  else if n.op = 23 then ({ m with cells := m.cells.set n.b.toNat (w64 (m.cells.getD n.b.toNat 0 + f.reg n.c)) }.setFr i (f.put n.a (m.cells.getD n.b.toNat 0)), m.cells.getD n.b.toNat 0, 0)
  else if n.op = 24 then ({ m with owners := m.owners.set n.a.toNat i }, 0, 0)
  else if n.op = 25 then (if m.owners.getD n.a.toNat 0 = i then ({ m with owners := m.owners.set n.a.toNat (-1) }, 0, 0) else (m, 0, 2))
  else if n.op = 26 then (if (m.get n.a.toNat).st = 1 then (beginN x m n.a.toNat, 0, 0) else (m, 0, 4))
  else if n.op = 27 then (if (m.get n.a.toNat).st = 1 then (m, 0, 3) else (m, 0, 0))
  else if n.op = 28 then (if f.reg n.a = 0 then (m, 0, 1) else (m, f.reg n.a, 0))
  else (m, 0, 0)
/-- a step that is made -/
def doneN (x : Img) (m : Mach) (i : Nat) : Mach × Evt :=
  let n := (x.cod i).at (m.get i).at_
  let a := actN x m i
  if n.op = 29 then (m.setFr i { m.get i with st := 3 }, ⟨i, a.1, a.2, 0, 0⟩)
  else
    let r := stepN x m i n
    if r.2.2 ≠ 0 then (r.1.setFr i { r.1.get i with st := 4 }, ⟨i, a.1, a.2, r.2.1, r.2.2⟩)
    else (r.1.setFr i (localF (x.cod i) 100000 (r.1.get i).on), ⟨i, a.1, a.2, r.2.1, r.2.2⟩)
end Go.Proofs.Ytmkfpkficmmlgaa
