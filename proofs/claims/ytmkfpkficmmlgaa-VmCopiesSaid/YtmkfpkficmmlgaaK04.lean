/- Package vm: the small functions, and a local instruction. -/
import Derived.Test.YtmkfpkficmmlgaaK03
namespace Go.Proofs.Ytmkfpkficmmlgaa
open Go.RowKit
set_option linter.unusedVariables false
set_option linter.unusedSimpArgs false
set_option linter.unnecessarySimpa false

theorem yes_any (b : Bool) (w : World) :
    Calls Try.prog 56 #[.bool b] w fun e w' => e = .returned (.int .i64 (yesN b)) ∧ w = w' := by
  cases b
  · go_enter Try.func56, Try.ntmps56
    go_wp2
    go_ret
    exact ⟨rfl, rfl⟩
  · go_enter Try.func56, Try.ntmps56
    go_wp2
    go_ret
    exact ⟨rfl, rfl⟩
theorem steps_any (op : Int) (w : World) :
    Calls Try.prog 47 #[.int .i64 op] w fun e w' => e = .returned (.bool (stepsN op)) ∧ w = w' := by
  unfold stepsN
  by_cases h : 21 ≤ op
  · have h1 : decide (21 ≤ op) = true := decide_eq_true h
    by_cases h2 : op ≤ 29
    · go_enter Try.func47, Try.ntmps47
      go_wp2
      go_ret
      exact ⟨by simp [h, h2], rfl⟩
    · have h3 : 29 < op := by omega
      go_enter Try.func47, Try.ntmps47
      go_wp2
      go_ret
      exact ⟨by simp [h, h2], rfl⟩
  · have h1 : op < 21 := by omega
    go_enter Try.func47, Try.ntmps47
    go_wp2
    go_ret
    exact ⟨by simp; omega, rfl⟩

theorem reck_zero (op a : Int) (w : World) (h : op = 8 ∨ op = 9) :
    Calls Try.prog 57 #[.int .i64 op, .int .i64 a, .int .i64 0] w fun e w' => e = .returned (.int .i64 (reckN op a 0)) ∧ w = w' := by
  rcases h with rfl | rfl
  all_goals (
    go_enter Try.func57, Try.ntmps57
    go_wp2
    go_ret
    exact ⟨rfl, rfl⟩)
theorem reck_div (op a b : Int) (w : World) (h : op = 8 ∨ op = 9) (hb : b ≠ 0) :
    Calls Try.prog 57 #[.int .i64 op, .int .i64 a, .int .i64 b] w fun e w' => e = .returned (.int .i64 (reckN op a b)) ∧ w = w' := by
  have e1 : (b == 0) = false := by rw [beq_eq_false_iff_ne]; exact hb
  rcases h with rfl | rfl
  all_goals (
    go_enter Try.func57, Try.ntmps57
    go_wp2
    go_ret
    exact ⟨by simp [reckN, hb, w64], rfl⟩)
theorem reck_arith (op a b : Int) (w : World) (h : op = 5 ∨ op = 6 ∨ op = 7) :
    Calls Try.prog 57 #[.int .i64 op, .int .i64 a, .int .i64 b] w fun e w' => e = .returned (.int .i64 (reckN op a b)) ∧ w = w' := by
  rcases h with rfl | rfl | rfl
  all_goals (
    go_enter Try.func57, Try.ntmps57
    go_wp2
    go_ret
    exact ⟨by simp [reckN, w64], rfl⟩)
theorem reck_cmp (op a b : Int) (w : World) (h : op = 10 ∨ op = 11 ∨ op = 12 ∨ op = 13 ∨ op = 14 ∨ op = 15) :
    Calls Try.prog 57 #[.int .i64 op, .int .i64 a, .int .i64 b] w fun e w' => e = .returned (.int .i64 (reckN op a b)) ∧ w = w' := by
  rcases h with rfl | rfl | rfl | rfl | rfl | rfl
  all_goals (
    go_enter Try.func57, Try.ntmps57
    go_wp2_with (go_at_call 56; refine (yes_any _ _).mono ?_; rintro e w' ⟨rfl, rfl⟩)
    go_ret
    exact ⟨by simp [reckN, yesN], rfl⟩)
theorem reck_log (op a b : Int) (w : World) (h : op = 16 ∨ op = 17) :
    Calls Try.prog 57 #[.int .i64 op, .int .i64 a, .int .i64 b] w fun e w' => e = .returned (.int .i64 (reckN op a b)) ∧ w = w' := by
  by_cases ha : a = 0
  · subst ha
    rcases h with rfl | rfl
    all_goals (
      go_enter Try.func57, Try.ntmps57
      go_wp2_with (go_at_call 56; refine (yes_any _ _).mono ?_; rintro e w' ⟨rfl, rfl⟩)
      go_ret
      exact ⟨by simp [reckN, yesN], rfl⟩)
  · have e1 : (a != 0) = true := by rw [bne_iff_ne]; exact ha
    rcases h with rfl | rfl
    all_goals (
      go_enter Try.func57, Try.ntmps57
      go_wp2_with (go_at_call 56; refine (yes_any _ _).mono ?_; rintro e w' ⟨rfl, rfl⟩)
      go_ret
      exact ⟨by simp [reckN, yesN, ha], rfl⟩)
theorem reck_any (op a b : Int) (w : World) (h : 5 ≤ op ∧ op ≤ 17) :
    Calls Try.prog 57 #[.int .i64 op, .int .i64 a, .int .i64 b] w fun e w' => e = .returned (.int .i64 (reckN op a b)) ∧ w = w' := by
  have hc : (op = 5 ∨ op = 6 ∨ op = 7) ∨ (op = 8 ∨ op = 9) ∨ (op = 10 ∨ op = 11 ∨ op = 12 ∨ op = 13 ∨ op = 14 ∨ op = 15) ∨ (op = 16 ∨ op = 17) := by omega
  rcases hc with h | h | h | h
  · exact reck_arith op a b w h
  · by_cases hb : b = 0
    · subst hb; exact reck_zero op a w h
    · exact reck_div op a b w h hb
  · exact reck_cmp op a b w h
  · exact reck_log op a b w h
end Go.Proofs.Ytmkfpkficmmlgaa

/- Package vm: a local instruction. -/
namespace Go.Proofs.Ytmkfpkficmmlgaa
open Go.RowKit
set_option linter.unusedVariables false
set_option linter.unusedSimpArgs false
set_option linter.unnecessarySimpa false

def RegOk (f : Fr) (k : Int) : Prop := 0 ≤ k ∧ k < f.regs.length
/-- what a local instruction may be -/
def LocFit (f : Fr) (i : Ins) : Prop :=
  if i.op = 1 then RegOk f i.a else if i.op = 2 ∨ i.op = 3 ∨ i.op = 4 then RegOk f i.a ∧ RegOk f i.b
  else if i.op = 18 then 0 ≤ i.a else if i.op = 19 ∨ i.op = 20 then RegOk f i.a ∧ 0 ≤ i.b
  else (5 ≤ i.op ∧ i.op ≤ 17) ∧ RegOk f i.a ∧ RegOk f i.b ∧ RegOk f i.c

section
variable (w : World) (T : Tags) (id g : Nat) (H : List HFr) (fr : List Fr) (i : Nat) (f : Fr)
/-- how a local instruction ends -/
def LocPost (rv : Value) (f' : Fr) (e : Ending) (w' : World) : Prop :=
  e = .returned (.tuple #[]) ∧ (∃ H', FrG w' T id g H' (fr.set i f') ∧ H'[i]? = some ⟨f'.st, rv, f'.at_⟩) ∧ Keeps (fun k => k = g ∨ T k = some (id, .regs i)) w w'

theorem locPost_to {rv : Value} (hF : FrG w T id g H fr) (hf : fr[i]? = some f) (ha : H[i]? = some ⟨f.st, rv, f.at_⟩) (m : Nat) :
    LocPost w T id g fr i rv { f with at_ := m } (.returned (.tuple #[])) (w.setCell ⟨g, i * 3 + 2, none⟩ (.int .i64 (m : Int))) := by
  have hi : i < fr.length := (List.getElem?_eq_some_iff.1 hf).1
  have hi' : i < H.length := by rw [hF.len]; exact hi
  exact ⟨rfl, ⟨_, hF.setAt ha hf m, by rw [List.getElem?_set_self hi']⟩, (Keeps.refl _ w).setCell (p := ⟨g, i * 3 + 2, none⟩) (fun _ => .inl rfl) _⟩
theorem locPost_on {rv : Value} (hF : FrG w T id g H fr) (hf : fr[i]? = some f) (ha : H[i]? = some ⟨f.st, rv, f.at_⟩) :
    LocPost w T id g fr i rv f.on (.returned (.tuple #[])) (w.setCell ⟨g, i * 3 + 2, none⟩ (.int .i64 ((f.at_ : Int) + 1))) := locPost_to w T id g H fr i f hF hf ha (f.at_ + 1)
variable {w T id g fr i}
theorem LocPost.to {rv : Value} {f' : Fr} {e : Ending} {w' : World} (h : LocPost w T id g fr i rv f' e w') (hi : i < fr.length) (m : Nat) : LocPost w T id g fr i rv (f'.to m) e (w'.setCell ⟨g, i * 3 + 2, none⟩ (.int .i64 (m : Int))) := by
  obtain ⟨h1, ⟨H', h2, e1⟩, h3⟩ := h
  have hf : (fr.set i f')[i]? = some f' := List.getElem?_set_self hi
  have h4 := h2.setAt e1 hf m
  rw [List.set_set] at h4
  exact ⟨h1, ⟨_, h4, by rw [List.getElem?_set_self (List.getElem?_eq_some_iff.1 e1).1]; rfl⟩, h3.setCell (p := ⟨g, i * 3 + 2, none⟩) (fun _ => .inl rfl) _⟩
theorem LocPost.reg {f' : Fr} {e : Ending} {w' : World} {gr n cap : Nat} (h : LocPost w T id g fr i (.slice (some ⟨gr, 0, none⟩) n cap) f' e w') (hi : i < fr.length) (hT : T gr = some (id, .regs i)) (hn : n = f'.regs.length) (k : Nat) (hk : k < f'.regs.length) (u : Int) :
    LocPost w T id g fr i (.slice (some ⟨gr, 0, none⟩) n cap) (f'.put k u) e (w'.setCell ⟨gr, k, none⟩ (.int .i64 u)) := by
  obtain ⟨h1, ⟨H', h2, e1⟩, h3⟩ := h
  subst hn
  have hf : (fr.set i f')[i]? = some f' := List.getElem?_set_self hi
  have h4 := h2.setReg e1 hf hT k hk u
  rw [List.set_set] at h4
  exact ⟨h1, ⟨_, h4, e1⟩, h3.setCell (p := ⟨gr, k, none⟩) (fun _ => .inr hT) _⟩
theorem LocPost.alloc {rv : Value} {f' : Fr} {e : Ending} {w' : World} (h : LocPost w T id g fr i rv f' e w') (o : Obj) : LocPost w T id g fr i rv f' e (w'.alloc o) := by
  obtain ⟨h1, ⟨H', h2, e1⟩, h3⟩ := h
  exact ⟨h1, ⟨H', h2.alloc o, e1⟩, h3.alloc o⟩
theorem LocPost.drewN {rv : Value} {f' : Fr} {e : Ending} {w' : World} (h : LocPost w T id g fr i rv f' e w') (n : Nat) : LocPost w T id g fr i rv f' e (w'.drewN n) := by
  obtain ⟨h1, ⟨H', h2, e1⟩, h3⟩ := h
  exact ⟨h1, ⟨H', h2.drewN n, e1⟩, h3.drewN n⟩
theorem LocPost.drew {rv : Value} {f' : Fr} {e : Ending} {w' : World} (h : LocPost w T id g fr i rv f' e w') : LocPost w T id g fr i rv f' e w'.drew := by
  obtain ⟨h1, ⟨H', h2, e1⟩, h3⟩ := h
  exact ⟨h1, ⟨H', h2.keeps (S := NoBlk) ((Keeps.refl _ _).drew) (fun _ _ h => h), e1⟩, h3.drew⟩
theorem locPost_regs (H : List HFr) (f : Fr) {gr cap : Nat} (hF : FrG w T id g H fr) (hf : fr[i]? = some f) (ha : H[i]? = some ⟨f.st, .slice (some ⟨gr, 0, none⟩) f.regs.length cap, f.at_⟩) (hT : T gr = some (id, .regs i)) (k : Nat) (hk : k < f.regs.length) (u : Int) :
    LocPost w T id g fr i (.slice (some ⟨gr, 0, none⟩) f.regs.length cap) (f.on.put k u) (.returned (.tuple #[])) ((w.setCell ⟨g, i * 3 + 2, none⟩ (.int .i64 ((f.at_ : Int) + 1))).setCell ⟨gr, k, none⟩ (.int .i64 u)) :=
  (locPost_on w T id g H fr i f hF hf ha).reg (List.getElem?_eq_some_iff.1 hf).1 hT rfl k hk u
end

section
variable (w : World) (T : Tags) (id g : Nat) (H : List HFr) (fr : List Fr) (i : Nat) (f : Fr) (gr cap : Nat)
set_option maxHeartbeats 1000000 in
theorem vdoes_const (hF : FrG w T id g H fr) (hf : fr[i]? = some f) (hat : (f.at_ : Int) < 4000) (ha : H[i]? = some ⟨f.st, .slice (some ⟨gr, 0, none⟩) f.regs.length cap, f.at_⟩) (hT : T gr = some (id, .regs i)) (ka : Nat) (hka : ka < f.regs.length) (u c : Int) :
    Calls Try.prog 48 #[.pointer (some ⟨g, i * 3, none⟩), .agg #[.int .i64 1, .int .i64 ka, .int .i64 u, .int .i64 c]] w (LocPost w T id g fr i (.slice (some ⟨gr, 0, none⟩) f.regs.length cap) (f.on.put ka u)) := by
  obtain ⟨c0, c1, c2⟩ := hF.three ha
  have f2 := hF.free (List.getElem?_eq_some_iff.1 hf).1 2 (by decide)
  have q1 : g < w.heap.size := World.block_lt_of_cell? w _ c0
  have q4 : g ≠ w.heap.size := by omega
  have q6 : w.heap.size ≠ g := by omega
  have i0 : (0 : Int) ≤ f.at_ := by omega
  have hr := (hF.each i _ f ha hf).2.2
  have hgr : gr ≠ g := fun e => by rw [e, hF.tag] at hT; simp at hT
  have hrow : RowAt w gr (ints f.regs) := by
    obtain ⟨g', cap', e1, e2, e3⟩ := hr.at hka
    simp at e1
    obtain ⟨rfl, _⟩ := e1
    exact e3
  have r1 := hrow.cell (ints_get f.regs ka hka)
  have f1 := hrow.free (k := ka) (by rw [ints_len]; exact hka)
  have q2 : gr < w.heap.size := World.block_lt_of_cell? w _ r1
  have q3 : gr ≠ w.heap.size := by omega
  have q5 : w.heap.size ≠ gr := by omega
  have q7 : g ≠ gr := fun e => hgr e.symm
  have j1 : (0 : Int) ≤ ka := by omega
  have j2 : (ka : Int) < f.regs.length := by omega
  have HP := Lib.hid (locPost_regs H f hF hf ha hT ka hka u)
  clear hF hf ha hT hr hrow
  go_enter Try.func48, Try.ntmps48
  go_wp2
  go_region
  all_goals go_wp2
  all_goals (
    refine Great.bodyPost_end0 (by rfl) (by rfl) ?_
    first
    | exact (HP.out.alloc _).drew
    | exact (HP.out.alloc _).drewN _
    | exact HP.out.alloc _)

set_option maxHeartbeats 1000000 in
theorem vdoes_move (hF : FrG w T id g H fr) (hf : fr[i]? = some f) (hat : (f.at_ : Int) < 4000) (ha : H[i]? = some ⟨f.st, .slice (some ⟨gr, 0, none⟩) f.regs.length cap, f.at_⟩) (hT : T gr = some (id, .regs i)) (ka : Nat) (hka : ka < f.regs.length) (kb : Nat) (hkb : kb < f.regs.length) (c : Int) :
    Calls Try.prog 48 #[.pointer (some ⟨g, i * 3, none⟩), .agg #[.int .i64 2, .int .i64 ka, .int .i64 kb, .int .i64 c]] w (LocPost w T id g fr i (.slice (some ⟨gr, 0, none⟩) f.regs.length cap) (f.on.put ka (f.regs.getD kb 0))) := by
  obtain ⟨c0, c1, c2⟩ := hF.three ha
  have f2 := hF.free (List.getElem?_eq_some_iff.1 hf).1 2 (by decide)
  have q1 : g < w.heap.size := World.block_lt_of_cell? w _ c0
  have q4 : g ≠ w.heap.size := by omega
  have q6 : w.heap.size ≠ g := by omega
  have i0 : (0 : Int) ≤ f.at_ := by omega
  have hr := (hF.each i _ f ha hf).2.2
  have hgr : gr ≠ g := fun e => by rw [e, hF.tag] at hT; simp at hT
  have hrow : RowAt w gr (ints f.regs) := by
    obtain ⟨g', cap', e1, e2, e3⟩ := hr.at hka
    simp at e1
    obtain ⟨rfl, _⟩ := e1
    exact e3
  have r1 := hrow.cell (ints_get f.regs ka hka)
  have f1 := hrow.free (k := ka) (by rw [ints_len]; exact hka)
  have q2 : gr < w.heap.size := World.block_lt_of_cell? w _ r1
  have q3 : gr ≠ w.heap.size := by omega
  have q5 : w.heap.size ≠ gr := by omega
  have q7 : g ≠ gr := fun e => hgr e.symm
  have j1 : (0 : Int) ≤ ka := by omega
  have j2 : (ka : Int) < f.regs.length := by omega
  have rb := hrow.cell (ints_get f.regs kb hkb)
  have j1b : (0 : Int) ≤ kb := by omega
  have j2b : (kb : Int) < f.regs.length := by omega
  have HP := Lib.hid (locPost_regs H f hF hf ha hT ka hka (f.regs.getD kb 0))
  clear hF hf ha hT hr hrow
  generalize f.regs.getD kb 0 = vb at *
  go_enter Try.func48, Try.ntmps48
  go_wp2
  go_region
  all_goals go_wp2
  all_goals (
    refine Great.bodyPost_end0 (by rfl) (by rfl) ?_
    first
    | exact (HP.out.alloc _).drew
    | exact (HP.out.alloc _).drewN _
    | exact HP.out.alloc _)

set_option maxHeartbeats 1000000 in
theorem vdoes_neg (hF : FrG w T id g H fr) (hf : fr[i]? = some f) (hat : (f.at_ : Int) < 4000) (ha : H[i]? = some ⟨f.st, .slice (some ⟨gr, 0, none⟩) f.regs.length cap, f.at_⟩) (hT : T gr = some (id, .regs i)) (ka : Nat) (hka : ka < f.regs.length) (kb : Nat) (hkb : kb < f.regs.length) (c : Int) :
    Calls Try.prog 48 #[.pointer (some ⟨g, i * 3, none⟩), .agg #[.int .i64 3, .int .i64 ka, .int .i64 kb, .int .i64 c]] w (LocPost w T id g fr i (.slice (some ⟨gr, 0, none⟩) f.regs.length cap) (f.on.put ka (w64 (-(f.regs.getD kb 0))))) := by
  obtain ⟨c0, c1, c2⟩ := hF.three ha
  have f2 := hF.free (List.getElem?_eq_some_iff.1 hf).1 2 (by decide)
  have q1 : g < w.heap.size := World.block_lt_of_cell? w _ c0
  have q4 : g ≠ w.heap.size := by omega
  have q6 : w.heap.size ≠ g := by omega
  have i0 : (0 : Int) ≤ f.at_ := by omega
  have hr := (hF.each i _ f ha hf).2.2
  have hgr : gr ≠ g := fun e => by rw [e, hF.tag] at hT; simp at hT
  have hrow : RowAt w gr (ints f.regs) := by
    obtain ⟨g', cap', e1, e2, e3⟩ := hr.at hka
    simp at e1
    obtain ⟨rfl, _⟩ := e1
    exact e3
  have r1 := hrow.cell (ints_get f.regs ka hka)
  have f1 := hrow.free (k := ka) (by rw [ints_len]; exact hka)
  have q2 : gr < w.heap.size := World.block_lt_of_cell? w _ r1
  have q3 : gr ≠ w.heap.size := by omega
  have q5 : w.heap.size ≠ gr := by omega
  have q7 : g ≠ gr := fun e => hgr e.symm
  have j1 : (0 : Int) ≤ ka := by omega
  have j2 : (ka : Int) < f.regs.length := by omega
  have rb := hrow.cell (ints_get f.regs kb hkb)
  have j1b : (0 : Int) ≤ kb := by omega
  have j2b : (kb : Int) < f.regs.length := by omega
  have HP := Lib.hid (locPost_regs H f hF hf ha hT ka hka (w64 (-(f.regs.getD kb 0))))
  clear hF hf ha hT hr hrow
  generalize f.regs.getD kb 0 = vb at *
  go_enter Try.func48, Try.ntmps48
  go_wp2
  go_region
  all_goals go_wp2
  all_goals (
    refine Great.bodyPost_end0 (by rfl) (by rfl) ?_
    first
    | exact (HP.out.alloc _).drew
    | exact (HP.out.alloc _).drewN _
    | exact HP.out.alloc _)

set_option maxHeartbeats 1000000 in
theorem vdoes_jump (hF : FrG w T id g H fr) (hf : fr[i]? = some f) (hat : (f.at_ : Int) < 4000) (rv : Value) (ha : H[i]? = some ⟨f.st, rv, f.at_⟩) (ka : Nat) (b c : Int) :
    Calls Try.prog 48 #[.pointer (some ⟨g, i * 3, none⟩), .agg #[.int .i64 18, .int .i64 ka, .int .i64 b, .int .i64 c]] w (LocPost w T id g fr i rv (f.to ka)) := by
  obtain ⟨c0, c1, c2⟩ := hF.three ha
  have f2 := hF.free (List.getElem?_eq_some_iff.1 hf).1 2 (by decide)
  have q1 : g < w.heap.size := World.block_lt_of_cell? w _ c0
  have q4 : g ≠ w.heap.size := by omega
  have q6 : w.heap.size ≠ g := by omega
  have i0 : (0 : Int) ≤ f.at_ := by omega
  have HP := Lib.hid ((locPost_on w T id g H fr i f hF hf ha).to (List.getElem?_eq_some_iff.1 hf).1 ka)
  clear hF hf ha
  go_enter Try.func48, Try.ntmps48
  go_wp2
  all_goals (
    refine Great.bodyPost_end0 (by rfl) (by rfl) ?_
    first
    | exact (HP.out.alloc _).drew
    | exact (HP.out.alloc _).drewN _
    | exact HP.out.alloc _)

end
end Go.Proofs.Ytmkfpkficmmlgaa
