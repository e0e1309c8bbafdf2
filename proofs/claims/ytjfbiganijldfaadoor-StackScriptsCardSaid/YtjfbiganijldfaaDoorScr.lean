/- StackScripts: what holds at the head of each round, and how a call turns it. -/
import Derived.Test.YtjfbiganijldfaaDoorRefC
import Derived.Test.YtjfbiganijldfaaDoorLeftWalk
namespace Go.Proofs.YtjfbiganijldfaaDoor
open Go.RowKit
set_option linter.unusedVariables false
set_option linter.unusedSimpArgs false
set_option linter.unnecessarySimpa false

/-- the stack holds L1, the reference's row L2; nothing of them lies below B; they share no block -/
structure ScrTwo (B : Nat) (w : World) (bs : Nat) (v lv : Value) (L1 L2 : List Nd) : Prop where
  stk : StackAt w bs v L1
  ref : RefAt w lv L2
  base : ∀ k, OwnS bs v k → B ≤ k
  rbase : ∀ k, lv.ownBlock = some k → B ≤ k
  apart : ∀ k, OwnS bs v k → lv.ownBlock ≠ some k
  size : B ≤ w.heap.size

theorem RefAt.lt {w : World} {v : Value} {L : List Nd} (h : RefAt w v L) (k : Nat) (hk : v.ownBlock = some k) : k < w.heap.size := (World.ownsRow.lt h k hk).2

theorem ScrTwo.below {B : Nat} {w w' : World} {bs : Nat} {v lv : Value} {L1 L2 : List Nd} (h : ScrTwo B w bs v lv L1 L2) (hb : Below w.heap.size w w') : ScrTwo B w' bs v lv L1 L2 :=
  ⟨h.stk.keeps (Keeps.ofBelow hb NoBlk) (fun _ _ h => h), h.ref.keeps (Keeps.ofBelow hb NoBlk) (fun _ _ h => h), h.base, h.rbase, h.apart, Nat.le_trans h.size hb.size⟩

/-- a call on the stack -/
theorem ScrTwo.stkStep {B : Nat} {w w' : World} {bs : Nat} {v v' lv : Value} {L1 L2 L1' : List Nd} (h : ScrTwo B w bs v lv L1 L2)
    (g1 : StackAt w' bs v' L1') (g2 : Keeps (OwnS bs v) w w') (g3 : ∀ k, v'.ownBlock = some k → v.ownBlock = some k ∨ w.heap.size ≤ k) :
    ScrTwo B w' bs v' lv L1' L2 ∧ Below B w w' := by
  have ho : ∀ k, OwnS bs v' k → OwnS bs v k ∨ w.heap.size ≤ k := by
    rintro k (rfl | e)
    · exact .inl (.inl rfl)
    · exact (g3 k e).imp_left .inr
  refine ⟨⟨g1, h.ref.keeps g2 (fun k e hk => h.apart k hk e), fun k hk => ?_, h.rbase, fun k hk e => ?_, Nat.le_trans h.size g2.size⟩, g2.below (fun k _ hk => h.base k hk) h.size⟩
  · rcases ho k hk with h1 | h1
    · exact h.base k h1
    · exact Nat.le_trans h.size h1
  · rcases ho k hk with h1 | h1
    · exact h.apart k h1 e
    · have := h.ref.lt k e
      omega

/-- a call on the reference's row -/
theorem ScrTwo.refStep {B : Nat} {w w' : World} {bs : Nat} {v lv lv' : Value} {L1 L2 L2' : List Nd} (h : ScrTwo B w bs v lv L1 L2)
    (g1 : RefAt w' lv' L2') (g2 : Keeps (OwnV lv) w w') (g3 : ∀ k, lv'.ownBlock = some k → lv.ownBlock = some k ∨ w.heap.size ≤ k) :
    ScrTwo B w' bs v lv' L1 L2' ∧ Below B w w' := by
  refine ⟨⟨h.stk.keeps g2 (fun k hk e => h.apart k hk e), g1, h.base, fun k e => ?_, fun k hk e => ?_, Nat.le_trans h.size g2.size⟩, g2.below (fun k _ hk => h.rbase k hk) h.size⟩
  · rcases g3 k e with h1 | h1
    · exact h.rbase k h1
    · exact Nat.le_trans h.size h1
  · rcases g3 k e with h1 | h1
    · exact h.apart k hk h1
    · have := OwnS.lt h.stk k hk
      omega

theorem tidy_scr {L : List Nd} (h : Tidy L []) (d i a b : Int) : Tidy (doN L d i a b).2 [] := by
  unfold doN
  split
  · exact tidy_open h a b
  · split
    · have ht := tidy_take h
      cases hr : (takeN L).2.1 with
      | false => rw [ht.1 hr]; exact h
      | true => exact tidy_none (ht.2 hr).1
    · split
      · by_cases hne : (closeN L).2 = []
        · rw [hne]; exact tidy_nil
        · exact tidy_close h hne
      · split
        · exact tidy_insert h i a
        · exact h

/-- what holds at the head of each round -/
def ScrRel (w0 : World) (bs : Nat) (lv : Value) (w : World) : Prop := ∃ v L, ScrTwo w0.heap.size w bs v lv L L ∧ Tidy L [] ∧ Below w0.heap.size w0 w

theorem same_any (w : World) (b : Nat) (v lv : Value) (L : List Nd) (B : Nat) (h : ScrTwo B w b v lv L L) (ht : Tidy L []) :
    Calls Tryd.prog 22 #[.pointer (some ⟨b, 0, none⟩), lv] w fun e w' => e = .returned (.bool true) ∧ Below w.heap.size w w' := by
  obtain ⟨ad, cap, rfl⟩ : ∃ ad cap, lv = .slice ad L.length cap := by
    rcases h.ref.shape with ⟨rfl, rfl⟩ | ⟨g, cap, rfl, _⟩
    · exact ⟨_, _, rfl⟩
    · exact ⟨_, _, rfl⟩
  exact same_raw w b v L L.length cap ad h.stk h.ref rfl ht.ok ht.row
end Go.Proofs.YtjfbiganijldfaaDoor
