/- The reference's calls on rows of nodes: Close, Insert. -/
import Derived.Test.YtjfbiganijldfaaDoorRef2
namespace Go.Proofs.YtjfbiganijldfaaDoor
open Go.RowKit
set_option linter.unusedVariables false
set_option linter.unusedSimpArgs false
set_option linter.unnecessarySimpa false

section
variable (g n cap k : Nat) (ad : Option Addr) (t : Int) (w : World)
set_option maxHeartbeats 400000 in
theorem rclose_empty :
    Calls Tryd.prog 19 #[.slice ad 0 cap] w fun e w' => e = .returned (.tuple #[.slice ad 0 cap, .bool false]) ∧ w' = w := by
  go_enter Tryd.func19, Tryd.ntmps19
  go_wp2
  go_ret2
  exact ⟨rfl, rfl⟩
set_option maxHeartbeats 400000 in
theorem rclose_tried (hn : n ≤ 60) (h0 : 0 ≤ t) (ht : w.cell? ⟨g, n * 25 + 24, none⟩ = some (.int .i64 t)) :
    Calls Tryd.prog 19 #[.slice (some ⟨g, 0, none⟩) (n + 1) cap] w fun e w' => e = .returned (.tuple #[.slice (some ⟨g, 0, none⟩) (n + 1) cap, .bool false]) ∧ w' = w := by
  have e1 := wrapNat n (by omega)
  have e2 : (0 : Int) ≤ n := by omega
  have e3 : (n : Int) < (n : Int) + 1 := by omega
  have e4 : ((n : Int) + 1 == 0) = false := by rw [beq_eq_false_iff_ne]; omega
  have e5 : (t == -1) = false := by rw [beq_eq_false_iff_ne]; omega
  have e6 : (t != -1) = true := by rw [bne_iff_ne]; omega
  go_enter Tryd.func19, Tryd.ntmps19
  go_wp2
  go_ret2
  exact ⟨rfl, rfl⟩
set_option maxHeartbeats 400000 in
theorem rclose_last (hcap : 1 ≤ cap) (ht : w.cell? ⟨g, 24, none⟩ = some (.int .i64 (-1))) :
    Calls Tryd.prog 19 #[.slice (some ⟨g, 0, none⟩) 1 cap] w fun e w' => e = .returned (.tuple #[.slice (some ⟨g, 0, none⟩) 0 cap, .bool true]) ∧ w' = w := by
  go_enter Tryd.func19, Tryd.ntmps19
  go_wp2
  go_ret2
  exact ⟨rfl, rfl⟩
set_option maxHeartbeats 400000 in
theorem rclose_more (hn : n ≤ 59) (hcap : n + 2 ≤ cap) (hk : k < 8) (ht : w.cell? ⟨g, (n + 1) * 25 + 24, none⟩ = some (.int .i64 (-1))) (ht2 : w.cell? ⟨g, n * 25 + 24, none⟩ = some (.int .i64 k))
    (x y : Value) (hd : w.cell? ⟨g, n * 25 + 16 + k, none⟩ = some x) (hs : w.cell? ⟨g, n * 25 + k, none⟩ = some y) (hf : ∀ j, w.frozen? ⟨g, j, none⟩ = false) :
    Calls Tryd.prog 19 #[.slice (some ⟨g, 0, none⟩) (n + 2) cap] w fun e w' => e = .returned (.tuple #[.slice (some ⟨g, 0, none⟩) (n + 1) cap, .bool true]) ∧
      w' = ((w.setCell ⟨g, n * 25 + 16 + k, none⟩ (.bool true)).setCell ⟨g, n * 25 + k, none⟩ (.bool true)).setCell ⟨g, n * 25 + 24, none⟩ (.int .i64 (-1)) := by
  have e1 := wrapNat (n + 1) (by omega)
  have e1' := wrapNat n (by omega)
  have e2 : (0 : Int) ≤ n := by omega
  have e3 : (n : Int) < (n : Int) + 2 := by omega
  have e3' : (n : Int) + 1 < (n : Int) + 2 := by omega
  have e4 : ((n : Int) + 2 == 0) = false := by rw [beq_eq_false_iff_ne]; omega
  have i1 : (0 : Int) ≤ k := by omega
  have i2 : (k : Int) < 8 := by omega
  have e5 : ((n : Int) + 2 - 1) = n + 1 := by omega
  have e6 : ((n : Int) + 2 - 2) = n := by omega
  have f1 := hf (n * 25 + 16 + k)
  have f2 := hf (n * 25 + k)
  have f3 := hf (n * 25 + 24)
  go_enter Tryd.func19, Tryd.ntmps19
  go_wp2
  go_ret2
  exact ⟨rfl, rfl⟩
end
end Go.Proofs.YtjfbiganijldfaaDoor
