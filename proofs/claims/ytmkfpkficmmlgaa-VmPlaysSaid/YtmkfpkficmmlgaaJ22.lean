/- Idle threads' registers stay nought; the machine at its beginning may be. -/
import Derived.Test.YtmkfpkficmmlgaaJ21
namespace Go.Proofs.Ytmkfpkficmmlgaa
open Go.RowKit
set_option linter.unusedVariables false
set_option linter.unusedSimpArgs false
set_option linter.unnecessarySimpa false

/-- who is idle behind was so before -/
def Idle (m m' : Mach) : Prop := ∀ (i : Nat) (f : Fr), m'.fr[i]? = some f → f.st = 1 → m.fr[i]? = some f
theorem Idle.refl (m : Mach) : Idle m m := fun _ _ h _ => h
theorem Idle.trans {a b c : Mach} (h : Idle a b) (h' : Idle b c) : Idle a c := fun i f e s => h i f (h' i f e s) s
theorem Idle.setFr (m : Mach) (k : Nat) (g : Fr) (hg : g.st ≠ 1) : Idle m (m.setFr k g) := by
  intro i f e s
  by_cases hk : k = i
  · subst hk
    have hlt : k < m.fr.length := by
      have := (List.getElem?_eq_some_iff.1 e).1
      simpa [Mach.setFr] using this
    rw [get_setFr_eq m k g hlt] at e
    cases e
    exact absurd s hg
  · rw [get_setFr_ne m k i g hk] at e
    exact e
theorem Idle.begin (x : Img) (m : Mach) (k : Nat) : Idle m (beginN x m k) := by
  refine Idle.setFr m k _ ?_
  rcases loc_st (x.cod k) 100000 { m.get k with st := 2 } with e | e <;> rw [e] <;> simp
theorem Idle.step (x : Img) (m : Mach) (i : Nat) (n : Ins) (h : (m.get i).st ≠ 1) : Idle m (stepN x m i n).1 := by
  unfold stepN
  dsimp only
  repeat' split
  all_goals first
  | exact Idle.refl m
  | exact Idle.setFr m i _ h
  | exact Idle.begin x m _
  | exact fun _ _ h _ => h
  | (refine Idle.trans (b := { m with cells := _ }) ?_ (Idle.setFr _ i _ h); exact fun _ _ h _ => h)
theorem Idle.done {x : Img} {m : Mach} (hg : VGood x m) (i : Nat) (f : Fr) (hf : m.fr[i]? = some f) (hr : f.st = 2) : Idle m (doneN x m i).1 := by
  have hgf : m.get i = f := by simp [Mach.get, List.getD, hf]
  unfold doneN
  by_cases h29 : ((x.cod i).at (m.get i).at_).op = 29
  · simp only [h29, if_true]
    exact Idle.setFr m i _ (by simp)
  · simp only [if_neg h29]
    have hs := Idle.step x m i ((x.cod i).at (m.get i).at_) (by rw [hgf, hr]; decide)
    rw [hgf] at h29 hs ⊢
    obtain ⟨_, f1, h1, _, h3, _⟩ := step_ok hg i f hf hr h29
    have hg1 : (stepN x m i ((x.cod i).at f.at_)).1.get i = f1 := by simp [Mach.get, List.getD, h1]
    split
    · exact hs.trans (Idle.setFr _ i _ (by simp))
    · refine hs.trans (Idle.setFr _ i _ ?_)
      rw [hg1]
      rcases loc_st (x.cod i) 100000 f1.on with e | e <;> rw [e]
      · show f1.st ≠ 1
        rw [h3]; decide
      · decide
theorem VZero.idle {x : Img} {m m' : Mach} (hz : VZero x m) (h : Idle m m') : VZero x m' := fun i f e s => hz i f (h i f e s) s
theorem stepR_zero {x : Img} {m : Mach} (i : Int) (hg : VGood x m) (hz : VZero x m) : VZero x (stepR x m i).1 := by
  unfold stepR
  by_cases hr : refusedN x m i = 0
  · obtain ⟨k, f, rfl, hf, hst⟩ := refused_zero hg hr
    rw [if_neg (by rw [hr]; simp)]
    exact hz.idle (Idle.done hg k f hf hst)
  · rw [if_pos hr]
    exact hz
/-- the machine ahead of its first thread's beginning -/
def new0 (x : Img) : Mach := ⟨x.cells, List.replicate x.mutexes.toNat (-1), x.threads.map fun c => ⟨1, List.replicate c.regs.toNat 0, 0⟩⟩
theorem new0_get (x : Img) (i : Nat) (f : Fr) (h : (new0 x).fr[i]? = some f) : i < x.threads.length ∧ f = ⟨1, List.replicate (x.cod i).regs.toNat 0, 0⟩ := by
  have hi : i < x.threads.length := by have := (List.getElem?_eq_some_iff.1 h).1; simpa [new0] using this
  refine ⟨hi, ?_⟩
  simp [new0, hi] at h
  simp [Img.cod, List.getD, hi, h]
theorem new0_zero (x : Img) : VZero x (new0 x) := by
  intro i f h _
  obtain ⟨_, rfl⟩ := new0_get x i f h
  rfl
theorem new0_good {x : Img} (h : rightN x = true) : VGood x (new0 x) := by
  have hp := right_parts h
  refine ⟨h, ⟨rfl, ?_, by simp [new0], ?_⟩, ?_, ?_⟩
  · simp [new0]
    omega
  · intro i f e
    obtain ⟨hi, rfl⟩ := new0_get x i f e
    have hc := codN_parts (right_cod h hi)
    refine ⟨?_, by show 0 < _; omega⟩
    simp
    omega
  · intro i f e e2
    obtain ⟨hi, rfl⟩ := new0_get x i f e
    cases e2
  · intro i f e
    obtain ⟨hi, rfl⟩ := new0_get x i f e
    exact .inl rfl
theorem newN_eq (x : Img) : newN x = beginN x (new0 x) 0 := rfl
theorem newN_good {x : Img} (h : rightN x = true) : VGood x (newN x) := good_begin (new0_good h) 0 (by have := (right_parts h).1; omega)
theorem newN_zero (x : Img) : VZero x (newN x) := (new0_zero x).idle (Idle.begin x (new0 x) 0)
end Go.Proofs.Ytmkfpkficmmlgaa
