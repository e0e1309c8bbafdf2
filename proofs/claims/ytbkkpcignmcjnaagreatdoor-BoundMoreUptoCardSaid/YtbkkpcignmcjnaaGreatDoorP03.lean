/- append of whatever can be read, onto nil or an owned row: one law. -/
import Derived.Test.YtbkkpcignmcjnaaGreatDoorP02
import Derived.Laws.OwnMore
import Derived.Maps.AppendAt
namespace Go.Proofs.YtbkkpcignmcjnaaGreatDoor
open Go.RowKit
set_option linter.unusedVariables false
set_option linter.unusedSimpArgs false
set_option linter.unnecessarySimpa false

/-- a slice of n elements of which these cells can be read -/
def SrcAt (w : World) (v : Value) (n : Nat) (cs : List Value) : Prop :=
  ∃ ad cap, v = .slice ad n cap ∧ (n ≠ 0 → ∃ g o, ad = some ⟨g, o, none⟩ ∧ ∀ j u, cs[j]? = some u → w.cell? ⟨g, o + j, none⟩ = some u)

/-- what append leaves: a slice that owns both, new blocks but for its own row -/
def AppOut (w : World) (base e size : Nat) (v : Value) (n : Nat) (xs : List Value) (ad : Option Addr) (cap : Nat) (w' : World) : Prop :=
  w'.ownsRow base e size (.slice ad n cap) n xs ∧ w.grownBy w' v.ownBlock ∧ ∀ kb, (Value.slice ad n cap).ownBlock = some kb → v.ownBlock = some kb ∨ kb = w.heap.size

section
variable {P : Program} (w : World)

theorem run_append_src (base : Nat) (t ty e : TypeId) (i : TypeInfo) (z : Value) (size bytes : Nat) (ht : P.underlying t = some (.slice e)) (hi : P.info? e = some i) (hz : i.zero = some z)
    (hsize : i.size = size) (hby : i.bytes = bytes) (hzs : z.cells.size = size) (hsz : 0 < size)
    (v : Value) (n : Nat) (xs : List Value) (hown : w.ownsRow base e size v n xs)
    (s : Value) (m : Nat) (news : List Value) (hs : SrcAt w s m news) (hl : news.length = m * size) (h1 : ∀ u ∈ news, u.oneCell' = true)
    (h63 : n + m ≤ maxLen) (hbytes : (n + m) * bytes ≤ 140737488355328) (hbase : base ≤ w.heap.size) :
    ∃ ad cap w', (Builtin.append_ #[t, t] ty #[v, s]).run P w = .ok (.slice ad (n + m) cap) w' ∧ AppOut w base e size v (n + m) (xs ++ news) ad cap w' := by
  obtain ⟨ad, c, rfl, h2⟩ := hs
  by_cases hm : m = 0
  · subst hm
    obtain rfl : news = [] := List.eq_nil_of_length_eq_zero (by simpa using hl)
    have hsame : w.ownsRow base e size v (n + 0) (xs ++ []) := by simpa using hown
    have hrun : (Builtin.append_ #[t, t] ty #[v, .slice ad 0 c]).run P w = .ok v w := by
      rcases hown.2 with ⟨rfl, rfl⟩ | ⟨g, cap, cur, rfl, _, _, hnc, _⟩
      · cases ad <;> simp [Builtin.append_, run_underlying ht, sizeOf, typeInfo, hi, Builtin.lenOf, Builtin.firstCells, loadCells, loadCellsFrom]
      · cases ad <;> simp [Builtin.append_, run_underlying ht, sizeOf, typeInfo, hi, Builtin.lenOf, Builtin.firstCells, hnc, storeCells, loadCells, loadCellsFrom]
    rcases hown.2 with ⟨rfl, rfl⟩ | ⟨g, cap, cur, rfl, _, _, hnc, _⟩
    · exact ⟨none, 0, w, hrun, hsame, ⟨rfl, rfl, rfl, Nat.le_refl _, fun k hk _ => rfl⟩, fun kb e => by simp [Value.ownBlock] at e⟩
    · exact ⟨some ⟨g, 0, none⟩, cap, w, by simpa using hrun, hsame, ⟨rfl, rfl, rfl, Nat.le_refl _, fun k hk _ => rfl⟩, fun kb e => .inl (by simpa [Value.ownBlock] using e)⟩
  · obtain ⟨g, o, rfl, hc⟩ := h2 hm
    obtain ⟨v', w', hr, r1, r2, r3, r4⟩ := run_append_own_at (P := P) w base t ty e i z size bytes ht hi hz hsize hby hzs hsz v n xs hown ⟨g, o, none⟩ m c news hl (fun j u hj => by rw [Addr.add_lit]; exact hc j u hj) h1 h63 hbytes hbase
    obtain ⟨g', cap, rfl, _, _⟩ := r1.form (by omega)
    refine ⟨_, cap, w', hr, r1, r2, fun kb e => ?_⟩
    rcases r4 with r4 | r4
    · exact .inl (by rw [← r4]; exact e)
    · rw [r4] at e; cases e; exact .inr rfl

variable {ops : Array Oper} {o : Oper} {a : Act} {Q : Exit → Act → World → Prop}
theorem wp_append_src {K : Act → World → Prop} (s x : Operand) (t : TypeId)
    (ho : o.op = .call { callee := .builtin .append, args := #[s, x], argTypes := #[t, t] })
    (base : Nat) (e : TypeId) (i : TypeInfo) (z : Value) (size bytes : Nat) (ht : P.underlying t = some (.slice e)) (hi : P.info? e = some i) (hz : i.zero = some z)
    (hsize : i.size = size) (hby : i.bytes = bytes) (hzs : z.cells.size = size) (hsz : 0 < size)
    (v : Value) (n : Nat) (xs : List Value) (hs : a.eval s = v) (hown : w.ownsRow base e size v n xs)
    (sv : Value) (m : Nat) (news : List Value) (hx : a.eval x = sv) (hsrc : SrcAt w sv m news) (hl : news.length = m * size) (h1 : ∀ u ∈ news, u.oneCell' = true)
    (h63 : n + m ≤ maxLen) (hbytes : (n + m) * bytes ≤ 140737488355328) (hbase : base ≤ w.heap.size)
    (h : ∀ ad cap w', AppOut w base e size v (n + m) (xs ++ news) ad cap w' → K (a.put o.dst (.slice ad (n + m) cap)) w') : o.wp P a w K Q := by
  obtain ⟨ad, cap, w', hr, h2⟩ := run_append_src (P := P) w base t o.type e i z size bytes ht hi hz hsize hby hzs hsz v n xs hown sv m news hsrc hl h1 h63 hbytes hbase
  unfold Oper.wp execOp
  simp only [ho, resolve, invoke, builtin, Sem.run_bind, Sem.run_pure, Result.andThen_ok, List.map_toArray, List.map_cons, List.map_nil, hs, hx, hr]
  exact h ad cap w' h2

theorem wpList_append_src {rest : List Oper} (hgd : o.guard = none) (s x : Operand) (t : TypeId)
    (ho : o.op = .call { callee := .builtin .append, args := #[s, x], argTypes := #[t, t] })
    (base : Nat) (e : TypeId) (i : TypeInfo) (z : Value) (size bytes : Nat) (ht : P.underlying t = some (.slice e)) (hi : P.info? e = some i) (hz : i.zero = some z)
    (hsize : i.size = size) (hby : i.bytes = bytes) (hzs : z.cells.size = size) (hsz : 0 < size)
    (v : Value) (n : Nat) (xs : List Value) (hs : a.eval s = v) (hown : w.ownsRow base e size v n xs)
    (sv : Value) (m : Nat) (news : List Value) (hx : a.eval x = sv) (hsrc : SrcAt w sv m news) (hl : news.length = m * size) (h1 : ∀ u ∈ news, u.oneCell' = true)
    (h63 : n + m ≤ maxLen) (hbytes : (n + m) * bytes ≤ 140737488355328) (hbase : base ≤ w.heap.size)
    (h : ∀ ad cap w', AppOut w base e size v (n + m) (xs ++ news) ad cap w' → wpList P ops Q rest (a.put o.dst (.slice ad (n + m) cap)) w') : wpList P ops Q (o :: rest) a w :=
  wpList_plain hgd fun _ hK => wp_append_src w s x t ho base e i z size bytes ht hi hz hsize hby hzs hsz v n xs hs hown sv m news hx hsrc hl h1 h63 hbytes hbase fun ad cap w' h2 => hK _ _ (h ad cap w' h2)

theorem step_append_src {K : Act → World → Prop} {E : Prop} (hgd : o.guard = none) (s x : Operand) (t : TypeId)
    (ho : o.op = .call { callee := .builtin .append, args := #[s, x], argTypes := #[t, t] })
    (base : Nat) (e : TypeId) (i : TypeInfo) (z : Value) (size bytes : Nat) (ht : P.underlying t = some (.slice e)) (hi : P.info? e = some i) (hz : i.zero = some z)
    (hsize : i.size = size) (hby : i.bytes = bytes) (hzs : z.cells.size = size) (hsz : 0 < size)
    (v : Value) (n : Nat) (xs : List Value) (hs : a.eval s = v) (hown : w.ownsRow base e size v n xs)
    (sv : Value) (m : Nat) (news : List Value) (hx : a.eval x = sv) (hsrc : SrcAt w sv m news) (hl : news.length = m * size) (h1 : ∀ u ∈ news, u.oneCell' = true)
    (h63 : n + m ≤ maxLen) (hbytes : (n + m) * bytes ≤ 140737488355328) (hbase : base ≤ w.heap.size)
    (h : ∀ ad cap w', AppOut w base e size v (n + m) (xs ++ news) ad cap w' → K (a.put o.dst (.slice ad (n + m) cap)) w') :
    if Region.wanted o (yielded ops a.tmps) = true then Oper.wp P o a w K Q else E := by
  have hw : Region.wanted o (yielded ops a.tmps) = true := by simp [Region.wanted, hgd]
  rw [if_pos hw]
  exact wp_append_src w s x t ho base e i z size bytes ht hi hz hsize hby hzs hsz v n xs hs hown sv m news hx hsrc hl h1 h63 hbytes hbase h
end

/-- Chains of worlds that only grow. -/
theorem Keeps.trans0 {a b c : World} (h : Keeps NoBlk a b) (h' : Keeps NoBlk b c) : Keeps NoBlk a c := h.trans h' (fun _ _ h => h)
theorem AppOut.keeps {w w' : World} {base e size n cap : Nat} {v : Value} {xs : List Value} {ad : Option Addr} (h : AppOut w base e size v n xs ad cap w') {S : Nat → Prop} {w0 : World} (h0 : Keeps S w0 w) (hv : ∀ k, v.ownBlock = some k → k < w0.heap.size → S k) : Keeps S w0 w' :=
  h0.grown h.2.1 hv

/-- a row of its own, above B -/
def FRow (w : World) (B : Nat) (v : Value) (n : Nat) (cs : List Value) : Prop :=
  ∃ ad cap, v = .slice ad n cap ∧ cap ≤ maxLen ∧ (ad = none → cap = 0) ∧ (n ≠ 0 → ∃ g, ad = some ⟨g, 0, none⟩ ∧ B ≤ g ∧ RowAt w g cs)
theorem FRow.keeps {S : Nat → Prop} {w w' : World} {B : Nat} {v : Value} {n : Nat} {cs : List Value} (h : FRow w B v n cs) (hk : Keeps S w w') (hS : ∀ k, B ≤ k → ¬ S k) : FRow w' B v n cs := by
  obtain ⟨ad, cap, e, e1, e2, h1⟩ := h
  refine ⟨ad, cap, e, e1, e2, fun hn => ?_⟩
  obtain ⟨g, h2, h3, h4⟩ := h1 hn
  exact ⟨g, h2, h3, h4.keeps hk (hS g h3)⟩
theorem FRow.of {w : World} {base e size n B : Nat} {v : Value} {xs : List Value} (h : w.ownsRow base e size v n xs) (hb : ∀ k, v.ownBlock = some k → B ≤ k) : FRow w B v n xs := by
  rcases h.2 with ⟨rfl, rfl⟩ | ⟨g, cap, cur, rfl, _, hg, _, hm, _⟩
  · exact ⟨none, 0, rfl, by unfold maxLen; omega, fun _ => rfl, fun h => absurd rfl h⟩
  · exact ⟨_, cap, rfl, hm, fun h => (by cases h), fun _ => ⟨g, rfl, hb g rfl, RowAt.ofOwns h⟩⟩
theorem FRow.src {w : World} {B n : Nat} {v : Value} {cs : List Value} (h : FRow w B v n cs) : SrcAt w v n cs := by
  obtain ⟨ad, cap, e, _, _, h1⟩ := h
  refine ⟨ad, cap, e, fun hn => ?_⟩
  obtain ⟨g, h2, h3, h4⟩ := h1 hn
  exact ⟨g, 0, h2, h4.rng⟩
theorem SrcAt.keeps {S : Nat → Prop} {w w' : World} {v : Value} {n : Nat} {cs : List Value} (h : SrcAt w v n cs) (hk : Keeps S w w') (hS : ∀ k, v.ownBlock = some k → ¬ S k) : SrcAt w' v n cs := by
  obtain ⟨ad, cap, rfl, h1⟩ := h
  refine ⟨ad, cap, rfl, fun hn => ?_⟩
  obtain ⟨g, o, e, h2⟩ := h1 hn
  refine ⟨g, o, e, fun j u hj => hk.cell (p := ⟨g, o + j, none⟩) (hS g (by rw [e]; rfl)) (h2 j u hj)⟩
end Go.Proofs.YtbkkpcignmcjnaaGreatDoor

/- Layers 3, 6, 7: expressions: how many parts, how deep, is there one. -/
namespace Go.Proofs.YtbkkpcignmcjnaaGreatDoor
open Go.RowKit
set_option linter.unusedVariables false
set_option linter.unusedSimpArgs false
set_option linter.unnecessarySimpa false

theorem Ex.ind {P : Ex → Prop} (h : ∀ k n s l, (∀ y, y ∈ l → P y) → P (.mk k n s l)) : (x : Ex) → P x
  | .mk k n s l => h k n s l (fun y hy => Ex.ind h y)
termination_by x => SizeOf.sizeOf x
decreasing_by
  have := List.sizeOf_lt_of_mem hy
  simp only [Ex.mk.sizeOf_spec]
  omega
theorem Ex.len_le (l : List Ex) : l.length ≤ Ex.cntL l := by
  induction l with
  | nil => simp
  | cons x r ih => cases x; simp only [List.length_cons, Ex.cntL, Ex.cnt]; omega
theorem Ex.cnt_mem {l : List Ex} {y : Ex} (h : y ∈ l) : y.cnt ≤ Ex.cntL l := by
  induction l with
  | nil => cases h
  | cons x r ih =>
    simp only [Ex.cntL]
    rcases List.mem_cons.1 h with e | e
    · subst e; omega
    · have := ih e; omega
theorem Ex.dep_le : (x : Ex) → x.dep ≤ x.cnt := by
  refine Ex.ind (fun k n s l ih => ?_)
  simp only [Ex.dep, Ex.cnt]
  have : Ex.depL l ≤ Ex.cntL l := by
    induction l with
    | nil => simp [Ex.depL]
    | cons x r ih2 =>
      have h1 := ih x (List.mem_cons_self ..)
      have h2 := ih2 (fun y hy => ih y (List.mem_cons_of_mem _ hy))
      simp only [Ex.depL, Ex.cntL]; omega
  omega
theorem drop_at {α : Type} {l : List α} {i : Nat} (h : i < l.length) : l.drop i = l[i] :: l.drop (i + 1) := List.drop_eq_getElem_cons h
/-- an element's four cells -/
theorem Elems.four {w : World} {F : Nat → Prop} {n i : Nat} {ad : Option Addr} {css : Nat → List Value} {a b c d : Value} (h : Elems w F 4 n ad css) (hi : i < n) (hc : css i = [a, b, c, d]) :
    ∃ g o, ad = some ⟨g, o, none⟩ ∧ F g ∧ w.cell? ⟨g, o + i * 4, none⟩ = some a ∧ w.cell? ⟨g, o + i * 4 + 1, none⟩ = some b ∧ w.cell? ⟨g, o + i * 4 + 2, none⟩ = some c ∧ w.cell? ⟨g, o + i * 4 + 3, none⟩ = some d := by
  obtain ⟨g, o, e, hg, hl, hs⟩ := h i hi
  rw [hc] at hs
  exact ⟨g, o, e, hg, hs 0 _ rfl, hs 1 _ rfl, hs 2 _ rfl, hs 3 _ rfl⟩
/-- a slice of expressions -/
def ExsAt (w : World) (F : Nat → Prop) (l : List Ex) (ad : Option Addr) : Prop := ∃ css, Elems w F 4 l.length ad css ∧ ∀ i y, l[i]? = some y → ExAt w F y (css i)
theorem ExsAt.keeps {S F : Nat → Prop} {w w' : World} {l : List Ex} {ad : Option Addr} (h : ExsAt w F l ad) (hk : Keeps S w w') (hS : ∀ k, F k → ¬ S k) : ExsAt w' F l ad := by
  obtain ⟨css, h0, h1⟩ := h
  exact ⟨css, h0.keeps hk hS, fun i y e => (h1 i y e).keeps hk hS⟩
theorem ExsAt.mono {F F' : Nat → Prop} {w : World} {l : List Ex} {ad : Option Addr} (h : ExsAt w F l ad) (hF : ∀ k, F k → F' k) : ExsAt w F' l ad := by
  obtain ⟨css, h0, h1⟩ := h
  exact ⟨css, h0.mono hF, fun i y e => (h1 i y e).mono hF⟩
theorem ExsAt.at {w : World} {F : Nat → Prop} {l : List Ex} {ad : Option Addr} (h : ExsAt w F l ad) {i : Nat} (hi : i < l.length) :
    ∃ g o a c, ad = some ⟨g, o, none⟩ ∧ F g ∧ w.cell? ⟨g, o + i * 4, none⟩ = some (.int .i64 l[i].kind) ∧ w.cell? ⟨g, o + i * 4 + 1, none⟩ = some (.int .i64 l[i].num) ∧ w.cell? ⟨g, o + i * 4 + 2, none⟩ = some (.string l[i].nm) ∧
      w.cell? ⟨g, o + i * 4 + 3, none⟩ = some (.slice a l[i].args.length c) ∧ ExsAt w F l[i].args a := by
  obtain ⟨css, h0, h1⟩ := h
  obtain ⟨a, c, css', e, h2, h3⟩ := (h1 i l[i] (List.getElem?_eq_getElem hi)).show
  obtain ⟨g, o, e1, hg, c0, c1, c2, c3⟩ := h0.four hi e
  exact ⟨g, o, a, c, e1, hg, c0, c1, c2, c3, css', h2, h3⟩
/-- an expression that is handed on -/
def exV (x : Ex) (ad : Option Addr) (cap : Nat) : Value := .agg #[.int .i64 x.kind, .int .i64 x.num, .string x.nm, .slice ad x.args.length cap]
theorem ExAt.exs {w : World} {F : Nat → Prop} {x : Ex} {cs : List Value} (h : ExAt w F x cs) : ∃ ad cap, cs = [.int .i64 x.kind, .int .i64 x.num, .string x.nm, .slice ad x.args.length cap] ∧ ExsAt w F x.args ad := by
  obtain ⟨ad, cap, css, e, h1, h2⟩ := h.show
  exact ⟨ad, cap, e, css, h1, h2⟩
theorem ExAt.ofExs {w : World} {F : Nat → Prop} {x : Ex} {ad : Option Addr} {cap : Nat} (h : ExsAt w F x.args ad) : ExAt w F x [.int .i64 x.kind, .int .i64 x.num, .string x.nm, .slice ad x.args.length cap] := by
  obtain ⟨css, h1, h2⟩ := h
  cases x
  exact .mk _ _ _ _ ad cap css h1 h2


set_option maxRecDepth 8000 in
theorem exprCount_any : ∀ (x : Ex) (w : World) (F : Nat → Prop) (ad : Option Addr) (cap : Nat), ExsAt w F x.args ad → x.cnt < 1000000000 →
    Calls Tryz.prog 64 #[exV x ad cap] w fun e w' => e = .returned (.int .i64 x.cnt) ∧ Keeps NoBlk w w' := by
  refine Ex.ind (fun k num nm l ih w F ad cap h hb => ?_)
  have HL : Hid (ExsAt w F l ad) := h
  have IH := Lib.hid ih
  have hl := Ex.len_le l
  have hcn : Ex.cnt (.mk k num nm l) = 1 + Ex.cntL l := by simp [Ex.cnt]
  rw [hcn] at hb ⊢
  clear h ih hcn
  obtain ⟨tot, ht⟩ : ∃ t, t = Ex.cntL l := ⟨_, rfl⟩
  have HT := Lib.hid ht
  rw [← ht] at hb hl ⊢
  clear ht
  show Calls _ _ #[.agg #[.int .i64 k, .int .i64 num, .string nm, .slice ad l.length cap]] _ _
  go_enter Tryz.func64, Tryz.ntmps64
  go_upto_region 1 with fail
  obtain ⟨b1, hb1⟩ : ∃ z, z = w.heap.size := ⟨_, rfl⟩
  have hr1 : RowAt (w.alloc (.cells #[.int .i64 k, .int .i64 num, .string nm, .slice ad l.length cap] 37)) b1 [.int .i64 k, .int .i64 num, .string nm, .slice ad l.length cap] := by rw [hb1]; exact RowAt.ofBlock (heap_alloc_new w _)
  have hk1 : Keeps NoBlk w (w.alloc (.cells #[.int .i64 k, .int .i64 num, .string nm, .slice ad l.length cap] 37)) := (Keeps.refl _ _).alloc _
  rw [← hb1]
  generalize w.alloc (.cells #[.int .i64 k, .int .i64 num, .string nm, .slice ad l.length cap] 37) = w1 at hr1 hk1 ⊢
  have R1 := Lib.hid hr1
  have K1 := Lib.hid hk1
  have c3 := hr1.cell (k := 3) (v := .slice ad l.length cap) rfl
  clear hr1 hk1 hb1
  go_wp2_with fail
  go_loopw [3, 4] (fun nv iv wr => ∃ i n : Nat, i ≤ l.length ∧ nv = .int .i64 n ∧ iv = .int .i64 i ∧ Hid (n + Ex.cntL (l.drop i) = 1 + tot) ∧ Hid (Keeps NoBlk w1 wr)) (fun _ iv _ => l.length - (intOf iv).toNat)
  case atStart => exact ⟨0, 1, Nat.zero_le _, rfl, rfl, by show _ = _; rw [List.drop_zero, HT.out], Keeps.refl _ _⟩
  case round =>
    obtain ⟨i, n, hi, rfl, rfl, HN, HK⟩ := hrel
    have c3' := (R1.out.keeps HK.out (fun h => h)).cell (k := 3) (v := .slice ad l.length cap) rfl
    clear c3
    by_cases hlt : i < l.length
    · have i1 : (0 : Int) ≤ i := by omega
      have i2 : (i : Int) < l.length := by omega
      have hd := HN.out
      rw [drop_at hlt, Ex.cntL] at hd
      obtain ⟨g, o, a, c, e1, hg, d0, d1, d2, d3, hx⟩ := (HL.out.keeps (K1.out.trans0 HK.out) (fun _ _ h => h)).at hlt
      subst e1
      have HC : Hid (∀ W, Keeps NoBlk wr W → Calls Tryz.prog 64 #[.agg #[.int .i64 l[i].kind, .int .i64 l[i].num, .string l[i].nm, .slice a l[i].args.length c]] W fun e w' => e = .returned (.int .i64 l[i].cnt) ∧ Keeps NoBlk W w') := fun W hk => IH.out _ (List.getElem_mem hlt) W F a c (hx.keeps hk (fun _ _ h => h)) (by omega)
      obtain ⟨m, hm⟩ : ∃ m, m = l[i].cnt := ⟨_, rfl⟩
      rw [← hm] at HC hd
      have HD := Lib.hid hd
      have b1 : n + m < 1000000001 := by omega
      clear hx hm hd
      generalize l[i].kind = x0 at d0 HC
      generalize l[i].num = x1 at d1 HC
      generalize l[i].nm = x2 at d2 HC
      generalize l[i].args.length = x3 at d3 HC
      go_wp2_with (go_at_call 64; refine (HC.out _ (Keeps.refl _ _)).mono ?_; rintro e w2 ⟨rfl, g1⟩; have G1 := Lib.hid g1; clear g1)
      go_roundw
      case rel => exact ⟨i + 1, n + m, by omega, by go_num, by go_num, by show _ = _; have := HD.out; omega, HK.out.trans0 G1.out⟩
      case measure => simp [intOf]; omega
    · obtain rfl : i = l.length := by omega
      have hd := HN.out
      rw [List.drop_length] at hd
      simp only [Ex.cntL] at hd
      go_wp2_with fail
      go_ret
      exact ⟨by rw [← hd]; rfl, K1.out.trans0 HK.out⟩
end Go.Proofs.YtbkkpcignmcjnaaGreatDoor
