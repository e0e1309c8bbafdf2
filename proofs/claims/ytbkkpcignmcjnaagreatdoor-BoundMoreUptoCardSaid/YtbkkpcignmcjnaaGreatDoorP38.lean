/- Layer 7: the steps and the work of whole units, in plain Lean; the numbers of base 10^9 as values. -/
import Derived.Test.YtbkkpcignmcjnaaGreatDoorP29
import Derived.Test.YtbkkpcignmcjnaaGreatDoorP30
import Derived.Test.YtbkkpcignmcjnaaGreatDoorP37
import Derived.Test.YtbkkpcignmcjnaaGreatDoorP03
namespace Go.Proofs.YtbkkpcignmcjnaaGreatDoor
open Go.RowKit
set_option linter.unusedVariables false
set_option linter.unusedSimpArgs false
set_option linter.unnecessarySimpa false

def unS : List Bd → Nat
  | [] => 0
  | b :: r => (Ac.stpL b.acts + 1) + unS r
def unW : List Bd → Nat
  | [] => 0
  | b :: r => (Ac.wrkL b.acts + 1) + unW r
theorem unS_le : (bs : List Bd) → unS bs ≤ unW bs
  | [] => Nat.le_refl _
  | b :: r => by
    have h1 := Ac.stpL_le b.acts
    have h2 := unS_le r
    simp only [unS, unW]; omega
theorem unS_append : (a b : List Bd) → unS (a ++ b) = unS a + unS b
  | [], b => by simp [unS]
  | x :: r, b => by have := unS_append r b; simp only [List.cons_append, unS, this]; omega
theorem unW_append : (a b : List Bd) → unW (a ++ b) = unW a + unW b
  | [], b => by simp [unW]
  | x :: r, b => by have := unW_append r b; simp only [List.cons_append, unW, this]; omega
theorem unS_take {l : List Bd} {i : Nat} (hi : i < l.length) : unS (l.take (i + 1)) = unS (l.take i) + (Ac.stpL l[i].acts + 1) := by
  rw [take_at hi, unS_append]; simp [unS]
theorem unW_take {l : List Bd} {i : Nat} (hi : i < l.length) : unW (l.take (i + 1)) = unW (l.take i) + (Ac.wrkL l[i].acts + 1) := by
  rw [take_at hi, unW_append]; simp [unW]
theorem unS_part (l : List Bd) (i : Nat) : unS (l.take i) ≤ unS l := by
  have h := unS_append (l.take i) (l.drop i)
  rw [List.take_append_drop] at h; omega
theorem unW_part (l : List Bd) (i : Nat) : unW (l.take i) ≤ unW l := by
  have h := unW_append (l.take i) (l.drop i)
  rw [List.take_append_drop] at h; omega
/-- what the counting of a unit may lean on -/
def bsOk (bs : List Bd) : Prop := ∀ b, b ∈ bs → Ac.okcL b.acts
theorem bsOk_right {u : Un} (h : rightU u = true) : bsOk u.threads := by
  intro b hb
  have h1 : Ac.mayL u b.regs b.acts = true := by
    rcases hq : Ac.mayL u b.regs b.acts
    · rw [right_no4 hb hq] at h; cases h
    · rfl
  exact Ac.okcL_may u b.regs b.acts h1
theorem unW_lt : (bs : List Bd) → bsOk bs → unW bs + 1 ≤ 2 ^ (11 * bsSz bs)
  | [], _ => by simp [unW, bsSz]
  | b :: r, h => by
    have h1 := Ac.wrkL_lt b.acts (h b List.mem_cons_self)
    have h2 := unW_lt r (fun x hx => h x (List.mem_cons_of_mem _ hx))
    have e0 : bsSz (b :: r) = 1 + Ac.szL b.acts + bsSz r := rfl
    have e : 11 * bsSz (b :: r) = (11 + 11 * Ac.szL b.acts) + 11 * bsSz r := by rw [e0]; omega
    rw [e, Nat.pow_add, Nat.pow_add]
    simp only [unW]
    generalize 2 ^ (11 * Ac.szL b.acts) = A at h1 ⊢
    generalize 2 ^ (11 * bsSz r) = B at h2 ⊢
    have h3 : A + B ≤ A * B + 1 := by
      have ha : 1 ≤ A := by omega
      have hb : 1 ≤ B := by omega
      obtain ⟨a, rfl⟩ : ∃ a, A = a + 1 := ⟨A - 1, by omega⟩
      obtain ⟨b, rfl⟩ : ∃ b, B = b + 1 := ⟨B - 1, by omega⟩
      rw [Nat.add_mul, Nat.mul_add]
      omega
    have h4 : 2 ^ 11 * A * B = 2048 * (A * B) := by rw [Nat.mul_assoc]
    have h5 : A ≤ A * B := Nat.le_mul_of_pos_right A (by omega)
    rw [h4]
    omega
theorem un_dlen {b : Nat} (hb : 2 ≤ b) {bs : List Bd} (h : bsOk bs) (hs : bsSz bs < 900000000) (hl : bs.length < 1000000000) {m : Nat} (hm : m ≤ unW bs + 1) : (dig b m).length ≤ 12000000000 := by
  have h1 := unW_lt bs h
  have h2 : m < b ^ (11 * bsSz bs + 1) := by
    have h3 := pow_mono2 (n := 11 * bsSz bs) hb
    have h4 : 0 < b ^ (11 * bsSz bs) := Nat.pow_pos (by omega)
    have h5 : 2 * b ^ (11 * bsSz bs) ≤ b * b ^ (11 * bsSz bs) := Nat.mul_le_mul_right _ hb
    rw [Nat.pow_succ, Nat.mul_comm]
    omega
  have := dig_le hb h2
  omega
theorem un_dlen8 {b : Nat} (hb : 2 ≤ b) {bs : List Bd} (h : bsOk bs) (hs : bsSz bs < 900000000) (hl : bs.length ≤ 8) {m : Nat} (hm : m ≤ unW bs + 1) : (dig b m).length ≤ 9900000010 := by
  have h1 := unW_lt bs h
  have h2 : m < b ^ (11 * bsSz bs + 1) := by
    have h3 := pow_mono2 (n := 11 * bsSz bs) hb
    have h4 : 0 < b ^ (11 * bsSz bs) := Nat.pow_pos (by omega)
    have h5 : 2 * b ^ (11 * bsSz bs) ≤ b * b ^ (11 * bsSz bs) := Nat.mul_le_mul_right _ hb
    rw [Nat.pow_succ, Nat.mul_comm]
    omega
  have := dig_le hb h2
  omega
theorem NumV.lt {w : World} {F : Nat → Prop} {b n : Nat} {v : Value} (h : NumV w F b n v) : NumV w (fun k => k < w.heap.size) b n v := by
  obtain ⟨ad, cap, e, h1⟩ := h
  refine ⟨ad, cap, e, fun i hi => ?_⟩
  obtain ⟨g, o, e1, hg, hc⟩ := h1 i hi
  exact ⟨g, o, e1, World.block_lt_of_cell? w ⟨g, _, none⟩ hc, hc⟩
/-! ### Numbers of base 10^9 as values -/
theorem plusV {x y : Nat} {w : World} {F : Nat → Prop} {v u : Value} (hx : NumV w F 1000000000 x v) (hy : NumV w F 1000000000 y u) (lx : (dig 1000000000 x).length ≤ 100000000000) (ly : (dig 1000000000 y).length ≤ 100000000000) :
    Calls Tryz.prog 54 #[v, u] w fun e w' => ∃ z, e = .returned z ∧ NumV w' (Since w.heap.size w') 1000000000 (x + y) z ∧ Keeps NoBlk w w' := by
  obtain ⟨xa, xc, rfl, h1⟩ := hx
  obtain ⟨ya, yc, rfl, h2⟩ := hy
  exact (plus_any x y w F xa ya xc yc h1 h2 lx ly).mono fun e w' h => h.v
theorem timesV {x k : Nat} {w : World} {F : Nat → Prop} {v : Value} (hx : NumV w F 1000000000 x v) (lx : (dig 1000000000 x).length ≤ 100000000000) (hk : k ≤ 1000) :
    Calls Tryz.prog 55 #[v, .int .i64 k] w fun e w' => ∃ z, e = .returned z ∧ NumV w' (Since w.heap.size w') 1000000000 (x * k) z ∧ Keeps NoBlk w w' := by
  obtain ⟨xa, xc, rfl, h1⟩ := hx
  exact (times_any x k w F xa xc h1 lx hk).mono fun e w' h => h.v
theorem greaterV {x y : Nat} {w : World} {F : Nat → Prop} {v u : Value} (hx : NumV w F 1000000000 x v) (hy : NumV w F 1000000000 y u) (lx : (dig 1000000000 x).length ≤ 100000000000) (ly : (dig 1000000000 y).length ≤ 100000000000) :
    Calls Tryz.prog 53 #[v, u] w fun e w' => ∃ z, e = .returned z ∧ NumV w' F 1000000000 (max x y) z ∧ Keeps NoBlk w w' := by
  obtain ⟨xa, xc, rfl, h1⟩ := hx
  obtain ⟨ya, yc, rfl, h2⟩ := hy
  exact (greater_any x y w F xa ya xc yc h1 h2 lx ly).mono fun e w' h => by
    obtain ⟨⟨ad, cap, he, h3⟩, rfl⟩ := h; exact ⟨_, he, ⟨ad, cap, rfl, h3⟩, Keeps.refl _ _⟩
theorem smallV (n : Nat) (hn : n < 9000000000000000000) (w : World) : Calls Tryz.prog 25 #[.int .i64 n] w fun e w' => ∃ z, e = .returned z ∧ NumV w' (Since w.heap.size w') 1000000000 n z ∧ Keeps NoBlk w w' :=
  (small_any n hn w).mono fun e w' h => h.v
theorem aboveV {x y : Nat} {w : World} {F : Nat → Prop} {v u : Value} (hx : NumV w F 1000000000 x v) (hy : NumV w F 1000000000 y u) (lx : (dig 1000000000 x).length ≤ 100000000000) (ly : (dig 1000000000 y).length ≤ 100000000000) :
    Calls Tryz.prog 24 #[v, u] w fun e w' => e = .returned (.bool (decide (y < x))) ∧ w = w' := by
  obtain ⟨xa, xc, rfl, h1⟩ := hx
  obtain ⟨ya, yc, rfl, h2⟩ := hy
  exact above_any x y w F xa ya xc yc h1 h2 lx ly
end Go.Proofs.YtbkkpcignmcjnaaGreatDoor

/- Layer 7: two numbers added to a count. Printed by gencp.py. -/
namespace Go.Proofs.YtbkkpcignmcjnaaGreatDoor
open Go.RowKit
set_option linter.unusedVariables false
set_option linter.unusedSimpArgs false
set_option linter.unnecessarySimpa false

/-- a count's block: two rows lie in it, and no numbers -/
structure Cnt (w : World) (q : Nat) (s v : Value) : Prop where
  row : RowAt w q [s, v]
  no : ∀ (o : Nat) (k : Int), w.cell? ⟨q, o, none⟩ ≠ some (.int .i64 k)
theorem Cnt.keeps {S : Nat → Prop} {w w' : World} {q : Nat} {s v : Value} (h : Cnt w q s v) (hk : Keeps S w w') (hq : ¬ S q) : Cnt w' q s v :=
  ⟨h.row.keeps hk hq, fun o k e => h.no o k (by rw [World.cell?_of_block (a := ⟨q, o, none⟩) (hk.block q (h.row.lt (by simp)) hq)] at e; exact e)⟩
theorem Cnt.keeps0 {w w' : World} {q : Nat} {s v : Value} (h : Cnt w q s v) (hk : Keeps NoBlk w w') : Cnt w' q s v := h.keeps hk (fun h => h)
theorem Cnt.ofBlock {w : World} {q l1 c1 l2 c2 : Nat} {a1 a2 : Option Addr} {t : TypeId} (h : w.heap[q]? = some (.cells #[.slice a1 l1 c1, .slice a2 l2 c2] t (0, 0))) : Cnt w q (.slice a1 l1 c1) (.slice a2 l2 c2) := by
  refine ⟨RowAt.ofBlock h, fun o k e => ?_⟩
  rw [cell_of_row w q o _ t (0, 0) h] at e
  rcases o with _ | _ | o
  · cases e
  · cases e
  · simp at e
theorem Cnt.set0 {w : World} {q l1 c1 : Nat} {a1 : Option Addr} {s v : Value} (h : Cnt w q s v) : Cnt (w.setCell ⟨q, 0, none⟩ (.slice a1 l1 c1)) q (.slice a1 l1 c1) v := by
  refine ⟨h.row.set 0 (by simp) _, fun o k e => ?_⟩
  by_cases ho : o = 0
  · subst ho
    rw [World.cell?_setCell_same w ⟨q, 0, none⟩ _ (h.row.cell (k := 0) rfl)] at e
    cases e
  · rw [World.cell?_setCell_other w ⟨q, 0, none⟩ ⟨q, o, none⟩ _ (by simp <;> omega)] at e
    exact h.no o k e
theorem Cnt.set1 {w : World} {q l1 c1 : Nat} {a1 : Option Addr} {s v : Value} (h : Cnt w q s v) : Cnt (w.setCell ⟨q, 1, none⟩ (.slice a1 l1 c1)) q s (.slice a1 l1 c1) := by
  refine ⟨h.row.set 1 (by simp) _, fun o k e => ?_⟩
  by_cases ho : o = 1
  · subst ho
    rw [World.cell?_setCell_same w ⟨q, 1, none⟩ _ (h.row.cell (k := 1) rfl)] at e
    cases e
  · rw [World.cell?_setCell_other w ⟨q, 1, none⟩ ⟨q, o, none⟩ _ (by simp <;> omega)] at e
    exact h.no o k e
/-- both written -/
theorem Cnt.put {w : World} {q l1 c1 l2 c2 : Nat} {a1 a2 : Option Addr} {s v : Value} (h : Cnt w q s v) : Cnt ((w.setCell ⟨q, 0, none⟩ (.slice a1 l1 c1)).setCell ⟨q, 1, none⟩ (.slice a2 l2 c2)) q (.slice a1 l1 c1) (.slice a2 l2 c2) ∧ Keeps (fun k => k = q) w ((w.setCell ⟨q, 0, none⟩ (.slice a1 l1 c1)).setCell ⟨q, 1, none⟩ (.slice a2 l2 c2)) :=
  ⟨h.set0.set1, ((Keeps.refl (fun k => k = q) w).setCell (p := ⟨q, 0, none⟩) (fun _ => rfl) _).setCell (p := ⟨q, 1, none⟩) (fun _ => rfl) _⟩
/-- a block that holds no numbers holds no digits -/
theorem NumV.stored {w w' : World} {b n q : Nat} {v s u : Value} (h : NumV w (fun _ => True) b n v) (hr : Cnt w q s u) (hk : Keeps (fun k => k = q) w w') : NumV w' (fun _ => True) b n v := by
  obtain ⟨ad, cap, e, h1⟩ := h
  refine ⟨ad, cap, e, fun i hi => ?_⟩
  obtain ⟨g, o, e, hg, hcell⟩ := h1 i hi
  refine ⟨g, o, e, trivial, hk.cell (p := ⟨g, _, none⟩) (fun hgq => ?_) hcell⟩
  have hgq' : g = q := hgq
  subst hgq'
  exact hr.no _ _ hcell

set_option maxRecDepth 8000 in
set_option maxHeartbeats 2000000 in
theorem countPlus_any (x y xx yy : Nat) (w : World) (s v u1 u2 : Value) (hs : NumV w (fun _ => True) 1000000000 x s) (hv : NumV w (fun _ => True) 1000000000 y v) (h1 : NumV w (fun _ => True) 1000000000 xx u1) (h2 : NumV w (fun _ => True) 1000000000 yy u2)
    (lx : (dig 1000000000 x).length ≤ 100000000000) (ly : (dig 1000000000 y).length ≤ 100000000000) (lxx : (dig 1000000000 xx).length ≤ 100000000000) (lyy : (dig 1000000000 yy).length ≤ 100000000000) :
    Calls Tryz.prog 34 #[.agg #[s, v], u1, u2] w fun e w' => ∃ z1 z2, e = .returned (.agg #[z1, z2]) ∧ NumV w' (fun _ => True) 1000000000 (x + xx) z1 ∧ NumV w' (fun _ => True) 1000000000 (y + yy) z2 ∧ Keeps NoBlk w w' := by
  have HP1 : Hid (∀ W, Keeps NoBlk w W → Calls Tryz.prog 54 #[s, u1] W fun e w' => ∃ z, e = .returned z ∧ NumV w' (Since W.heap.size w') 1000000000 (x + xx) z ∧ Keeps NoBlk W w') := fun W hk => plusV (hs.keeps0 hk) (h1.keeps0 hk) lx lxx
  have HP2 : Hid (∀ W, Keeps NoBlk w W → Calls Tryz.prog 54 #[v, u2] W fun e w' => ∃ z, e = .returned z ∧ NumV w' (Since W.heap.size w') 1000000000 (y + yy) z ∧ Keeps NoBlk W w') := fun W hk => plusV (hv.keeps0 hk) (h2.keeps0 hk) ly lyy
  obtain ⟨sa, sc, rfl, _⟩ := hs
  obtain ⟨wa, wc, rfl, _⟩ := hv
  generalize (dig 1000000000 x).length = n at HP1
  generalize (dig 1000000000 y).length = m at HP2
  clear h1 h2 lx ly lxx lyy
  obtain ⟨Q, hQ⟩ : ∃ Q : Ending → World → Prop, Q = fun e w' => ∃ z1 z2, e = .returned (.agg #[z1, z2]) ∧ NumV w' (fun _ => True) 1000000000 (x + xx) z1 ∧ NumV w' (fun _ => True) 1000000000 (y + yy) z2 ∧ Keeps NoBlk w w' := ⟨_, rfl⟩
  have HQ := Lib.hid hQ
  rw [← hQ]
  clear hQ
  go_enter Tryz.func34, Tryz.ntmps34
  go_upto_region 1 with fail
  obtain ⟨b3, hb3⟩ : ∃ z, z = w.heap.size := ⟨_, rfl⟩
  obtain ⟨b6, hb6⟩ : ∃ z, z = w.heap.size + 1 := ⟨_, rfl⟩
  rw [← hb6, ← hb3]
  obtain ⟨wA, hwA⟩ : ∃ z, z = w.alloc (.cells #[.slice sa n sc, .slice wa m wc] 43) := ⟨_, rfl⟩
  obtain ⟨w1, hw1⟩ : ∃ z, z = wA.alloc (.cells #[.slice none 0 0, .slice none 0 0] 43) := ⟨_, rfl⟩
  rw [← hwA, ← hw1]
  have kA : Keeps NoBlk w wA := by rw [hwA]; exact (Keeps.refl _ _).alloc _
  have k1 : Keeps NoBlk wA w1 := by rw [hw1]; exact (Keeps.refl _ _).alloc _
  have sA : wA.heap.size = w.heap.size + 1 := by rw [hwA]; simp
  have r3 : RowAt wA b3 [.slice sa n sc, .slice wa m wc] := by rw [hb3, hwA]; exact RowAt.ofBlock (heap_alloc_new w _)
  have r6 : Cnt w1 b6 (.slice none 0 0) (.slice none 0 0) := by rw [hb6, ← sA, hw1]; exact Cnt.ofBlock (heap_alloc_new wA _)
  have R3 : Hid (RowAt w1 b3 [.slice sa n sc, .slice wa m wc]) := r3.keeps k1 (fun h => h)
  have R6 := Lib.hid r6
  have K1 : Hid (Keeps NoBlk w w1) := kA.trans0 k1
  have HS : Hid (w.heap.size ≤ b6) := by show _ ≤ _; omega
  clear hwA hw1 kA k1 sA r3 r6 hb3 hb6
  refine wp_region_table 9 (by kernel_rfl) (by kernel_rfl) (Keeps NoBlk) (Keeps.refl NoBlk) (fun a b c h h' => Keeps.trans0 h h') (TabV [some (.pointer (some ⟨b3, 0, none⟩)), some (.slice sa n sc), some u1, none, some (.pointer (some ⟨b3, 1, none⟩)), some (.slice wa m wc), some u2] (fun j v W => match j with
      | 3 => NumV W (fun _ => True) 1000000000 (x + xx) v
      | 7 => NumV W (fun _ => True) 1000000000 (y + yy) v
      | _ => ∃ z1 z2, v = .agg #[z1, z2] ∧ NumV W (fun _ => True) 1000000000 (x + xx) z1 ∧ NumV W (fun _ => True) 1000000000 (y + yy) z2)) (TabV.st (fun j v W W' h hk => by
        revert h
        split
        · exact fun h => h.keeps0 hk
        · exact fun h => h.keeps0 hk
        · rintro ⟨z1, z2, e, h1, h2⟩; exact ⟨z1, z2, e, h1.keeps0 hk, h2.keeps0 hk⟩)) ?_ ?_
  · intro q oo hq ho vs W Q' hR0 hd hK
    have hR : Keeps NoBlk w1 W := ((Keeps.refl NoBlk w1).drew).trans0 hR0
    obtain ⟨y30, y31⟩ := (R3.out.keeps hR (fun h => h)).two
    have HKW : Hid (Keeps NoBlk w W) := K1.out.trans0 hR
    clear hR hR0
    rcases (show q = 0 ∨ q = 1 ∨ q = 2 ∨ q = 3 ∨ q = 4 ∨ q = 5 ∨ q = 6 ∨ q = 7 ∨ q = 8 by omega) with rfl | rfl | rfl | rfl | rfl | rfl | rfl | rfl | rfl
    all_goals (simp only [List.getElem?_cons_zero, List.getElem?_cons_succ, Option.some.injEq] at ho; subst ho; simp only [putsTo, List.getElem?_cons_zero, List.getElem?_cons_succ, Option.bind_some, Option.bind, Act.put, List.setIfInBounds_toArray, List.set_cons_zero, List.set_cons_succ] at hK ⊢; clear hq)
    · clear hd
      go_wp2_with fail
      exact hK _ _ (Keeps.refl _ _) rfl
    · have e0 : vs 0 = _ := hd 0 (by kernel_rfl)
      rw [e0] at hK ⊢
      clear hd
      go_wp2_with fail
      exact hK _ _ (Keeps.refl _ _) rfl
    · clear hd
      go_wp2_with fail
      exact hK _ _ (Keeps.refl _ _) rfl
    · have e1 : vs 1 = _ := hd 1 (by kernel_rfl)
      have e2 : vs 2 = _ := hd 2 (by kernel_rfl)
      rw [e1, e2] at hK ⊢
      clear hd
      go_wp2_with (go_at_call 54; refine (HP1.out W HKW.out).mono ?_; rintro e W1 ⟨z1, rfl, n1, g1⟩)
      exact hK _ _ g1 (n1.mono (fun _ _ => trivial))
    · clear hd
      go_wp2_with fail
      exact hK _ _ (Keeps.refl _ _) rfl
    · have e4 : vs 4 = _ := hd 4 (by kernel_rfl)
      rw [e4] at hK ⊢
      clear hd
      go_wp2_with fail
      exact hK _ _ (Keeps.refl _ _) rfl
    · clear hd
      go_wp2_with fail
      exact hK _ _ (Keeps.refl _ _) rfl
    · have e5 : vs 5 = _ := hd 5 (by kernel_rfl)
      have e6 : vs 6 = _ := hd 6 (by kernel_rfl)
      rw [e5, e6] at hK ⊢
      clear hd
      go_wp2_with (go_at_call 54; refine (HP2.out W HKW.out).mono ?_; rintro e W1 ⟨z1, rfl, n1, g1⟩)
      exact hK _ _ g1 (n1.mono (fun _ _ => trivial))
    · obtain ⟨za, zc, e3, h3⟩ := (hd 3 (by kernel_rfl) : NumV W (fun _ => True) 1000000000 (x + xx) (vs 3))
      have H3 := Lib.hid h3
      obtain ⟨ta, tc, e7, h7⟩ := (hd 7 (by kernel_rfl) : NumV W (fun _ => True) 1000000000 (y + yy) (vs 7))
      have H7 := Lib.hid h7
      rw [e3, e7] at hK ⊢
      clear h3 h7
      clear hd
      go_wp2_with fail
      exact hK _ _ (Keeps.refl _ _) ⟨_, _, rfl, ⟨za, zc, rfl, H3.out⟩, ⟨ta, tc, rfl, H7.out⟩⟩
  · intro vs W hR0 hF
    have hR : Keeps NoBlk w1 W := ((Keeps.refl NoBlk w1).drew).trans0 hR0
    obtain ⟨z1, z2, e8, n1, n2⟩ := (hF 8 (by decide) : ∃ z1 z2, vs 8 = .agg #[z1, z2] ∧ NumV W (fun _ => True) 1000000000 (x + xx) z1 ∧ NumV W (fun _ => True) 1000000000 (y + yy) z2)
    have N1 := Lib.hid n1
    have N2 := Lib.hid n2
    obtain ⟨za, zc, rfl, _⟩ := n1
    obtain ⟨ta, tc, rfl, _⟩ := n2
    simp only [putsTo, List.getElem?_cons_zero, List.getElem?_cons_succ, Option.bind_some, Option.bind, Act.put, List.setIfInBounds_toArray, List.set_cons_zero, List.set_cons_succ, List.drop_succ_cons, List.drop_zero]
    rw [e8]
    clear hF e8 
    generalize vs 0 = y0
    generalize vs 1 = y1
    generalize vs 2 = y2
    generalize vs 3 = y3
    generalize vs 4 = y4
    generalize vs 5 = y5
    generalize vs 6 = y6
    generalize vs 7 = y7
    have R6W : Hid (Cnt W b6 (.slice none 0 0) (.slice none 0 0)) := R6.out.keeps0 hR
    have KW : Hid (Keeps NoBlk w W) := K1.out.trans0 hR
    clear hR hR0 R3 R6
    generalize (dig 1000000000 (x + xx)).length = p at N1 ⊢
    generalize (dig 1000000000 (y + yy)).length = p2 at N2 ⊢
    obtain ⟨z0, z1⟩ := R6W.out.row.two
    have f0 := R6W.out.row.free (k := 0) (by simp)
    have f1 := R6W.out.row.free (k := 1) (by simp)
    go_wp2_with fail
    obtain ⟨hrow, hks⟩ := R6W.out.put (a1 := za) (l1 := p) (c1 := zc) (a2 := ta) (l2 := p2) (c2 := tc)
    generalize (W.setCell ⟨b6, 0, none⟩ (.slice za p zc)).setCell ⟨b6, 1, none⟩ (.slice ta p2 tc) = wE at hrow hks ⊢
    refine bodyPost_ret (v := .agg #[.slice za p zc, .slice ta p2 tc]) (by simp [results, Tryz.results34, go_sem, hrow.row.cell (k := 0) rfl, hrow.row.cell (k := 1) rfl]) rfl ?_
    rw [HQ.out]
    exact ⟨_, _, rfl, N1.out.stored R6W.out hks, N2.out.stored R6W.out hks, KW.out.trans hks (fun q hq e => by have e' : q = b6 := e; have := HS.out; omega)⟩
end Go.Proofs.YtbkkpcignmcjnaaGreatDoor

/- Layer 7: how many parts an expression has, as bound counts. -/
namespace Go.Proofs.YtbkkpcignmcjnaaGreatDoor
open Go.RowKit
set_option linter.unusedVariables false
set_option linter.unusedSimpArgs false
set_option linter.unnecessarySimpa false

theorem pts_mk0 (num : Int) (nm : ByteArray) (l : List Ex) : Ex.pts (.mk 0 num nm l) = 0 := by simp [Ex.pts]
theorem pts_mk {k : Int} (h : ¬ k = 0) (num : Int) (nm : ByteArray) (l : List Ex) : Ex.pts (.mk k num nm l) = 1 + Ex.ptsL l := by simp [Ex.pts, h]
set_option maxRecDepth 8000 in
theorem parts_any : ∀ (x : Ex) (w : World) (F : Nat → Prop) (ad : Option Addr) (cap : Nat), ExsAt w F x.args ad → x.cnt < 1000000000 →
    Calls Tryz.prog 52 #[exV x ad cap] w fun e w' => e = .returned (.int .i64 x.pts) ∧ Keeps NoBlk w w' := by
  refine Ex.ind (fun k num nm l ih w F ad cap h hb => ?_)
  have HL : Hid (ExsAt w F l ad) := h
  have IH := Lib.hid ih
  have hl := Ex.len_le l
  have hcn : Ex.cnt (.mk k num nm l) = 1 + Ex.cntL l := by simp [Ex.cnt]
  have hp := Ex.ptsL_le l
  rw [hcn] at hb
  have HB : Hid (Ex.cntL l < 1000000000) := by show _ < _; omega
  clear h ih hcn
  obtain ⟨tot, ht⟩ : ∃ t, t = Ex.ptsL l := ⟨_, rfl⟩
  have HT := Lib.hid ht
  rw [← ht] at hp
  have htot : tot < 1000000000 := by omega
  have hll : l.length < 1000000000 := by omega
  clear hl hb hp
  obtain ⟨r, hr⟩ : ∃ r, r = Ex.pts (.mk k num nm l) := ⟨_, rfl⟩
  rw [← hr]
  have HR : Hid ((k = 0 → r = 0) ∧ (¬ k = 0 → r = 1 + tot)) := ⟨fun e => by rw [hr, e, pts_mk0], fun e => by rw [hr, pts_mk e, HT.out]⟩
  clear ht hr
  show Calls _ _ #[.agg #[.int .i64 k, .int .i64 num, .string nm, .slice ad l.length cap]] _ _
  go_enter Tryz.func52, Tryz.ntmps52
  go_upto_region 1 with fail
  obtain ⟨b1, hb1⟩ : ∃ z, z = w.heap.size := ⟨_, rfl⟩
  have hr1 : RowAt (w.alloc (.cells #[.int .i64 k, .int .i64 num, .string nm, .slice ad l.length cap] 37)) b1 [.int .i64 k, .int .i64 num, .string nm, .slice ad l.length cap] := by rw [hb1]; exact RowAt.ofBlock (heap_alloc_new w _)
  have hk1 : Keeps NoBlk w (w.alloc (.cells #[.int .i64 k, .int .i64 num, .string nm, .slice ad l.length cap] 37)) := (Keeps.refl _ _).alloc _
  rw [← hb1]
  generalize w.alloc (.cells #[.int .i64 k, .int .i64 num, .string nm, .slice ad l.length cap] 37) = w1 at hr1 hk1 ⊢
  have K1 := Lib.hid hk1
  have c0 := hr1.cell (k := 0) (v := .int .i64 k) rfl
  have c3 := hr1.cell (k := 3) (v := .slice ad l.length cap) rfl
  clear hr1 hk1 hb1
  rcases (show k = 0 ∨ ¬ k = 0 by omega) with hk0 | hk0
  · obtain rfl := HR.out.1 hk0
    subst hk0
    clear HR
    go_wp2_with fail
    go_ret
    exact ⟨rfl, K1.out⟩
  · obtain rfl := HR.out.2 hk0
    clear HR
    have hkb : (k == 0) = false := by simpa using hk0
    go_upto_region 5 with fail
    clear c0 c3
    go_loopw [3, 12] (fun nv iv wr => ∃ i n : Nat, i ≤ l.length ∧ nv = .int .i64 n ∧ iv = .int .i64 i ∧ Hid (n + Ex.ptsL (l.drop i) = 1 + tot) ∧ Hid (Keeps NoBlk w1 wr)) (fun _ iv _ => l.length - (intOf iv).toNat)
    case atStart => exact ⟨0, 1, Nat.zero_le _, rfl, rfl, by show _ = _; rw [List.drop_zero, HT.out], Keeps.refl _ _⟩
    case round =>
      obtain ⟨i, n, hi, rfl, rfl, HN, HK⟩ := hrel
      by_cases hlt : i < l.length
      · have i1 : (0 : Int) ≤ i := by omega
        have i2 : (i : Int) < l.length := by omega
        have hd := HN.out
        rw [drop_at hlt, Ex.ptsL] at hd
        obtain ⟨g, o, a, c, e1, hg, d0, d1, d2, d3, hx⟩ := (HL.out.keeps (K1.out.trans0 HK.out) (fun _ _ h => h)).at hlt
        subst e1
        have hcm := Ex.cnt_mem (List.getElem_mem hlt)
        have HC : Hid (∀ W, Keeps NoBlk wr W → Calls Tryz.prog 52 #[.agg #[.int .i64 l[i].kind, .int .i64 l[i].num, .string l[i].nm, .slice a l[i].args.length c]] W fun e w' => e = .returned (.int .i64 l[i].pts) ∧ Keeps NoBlk W w') := fun W hk => IH.out _ (List.getElem_mem hlt) W F a c (hx.keeps hk (fun _ _ h => h)) (by have := HB.out; omega)
        obtain ⟨m, hm⟩ : ∃ m, m = l[i].pts := ⟨_, rfl⟩
        rw [← hm] at HC hd
        have HD := Lib.hid hd
        have b1 : n + m < 1000000001 := by omega
        clear hx hm hd hcm
        generalize l[i].kind = x0 at d0 HC
        generalize l[i].num = x1 at d1 HC
        generalize l[i].nm = x2 at d2 HC
        generalize l[i].args.length = x3 at d3 HC
        go_upto_region 7 with fail
        obtain ⟨b5, hb5⟩ : ∃ z, z = wr.heap.size := ⟨_, rfl⟩
        have hr5 : RowAt (wr.alloc (.cells #[.int .i64 x0, .int .i64 x1, .string x2, .slice a x3 c] 37)) b5 [.int .i64 x0, .int .i64 x1, .string x2, .slice a x3 c] := by rw [hb5]; exact RowAt.ofBlock (heap_alloc_new wr _)
        have hk5 : Keeps NoBlk wr (wr.alloc (.cells #[.int .i64 x0, .int .i64 x1, .string x2, .slice a x3 c] 37)) := (Keeps.refl _ _).alloc _
        rw [← hb5]
        generalize wr.alloc (.cells #[.int .i64 x0, .int .i64 x1, .string x2, .slice a x3 c] 37) = w5 at hr5 hk5 ⊢
        obtain ⟨y0, y1, y2, y3⟩ := hr5.four
        have K5 := Lib.hid hk5
        clear hr5 hk5 hb5 d0 d1 d2 d3
        go_wp2_with (go_at_call 52; refine (HC.out _ K5.out).mono ?_; rintro e w2 ⟨rfl, g1⟩; have G1 := Lib.hid g1; clear g1)
        go_roundw
        case rel => exact ⟨i + 1, n + m, by omega, by go_num, by go_num, by show _ = _; have := HD.out; omega, HK.out.trans0 (K5.out.trans0 G1.out)⟩
        case measure => simp [intOf]; omega
      · obtain rfl : i = l.length := by omega
        have hd := HN.out
        rw [List.drop_length] at hd
        simp only [Ex.ptsL] at hd
        go_wp2_with fail
        go_ret
        exact ⟨by rw [← hd]; rfl, K1.out.trans0 HK.out⟩
end Go.Proofs.YtbkkpcignmcjnaaGreatDoor
