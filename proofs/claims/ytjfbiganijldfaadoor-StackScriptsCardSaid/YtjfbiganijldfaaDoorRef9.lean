/- The reference's calls on rows of nodes: Open, whole. -/
import Derived.Test.YtjfbiganijldfaaDoorRef8
namespace Go.Proofs.YtjfbiganijldfaaDoor
open Go.RowKit
set_option linter.unusedVariables false
set_option linter.unusedSimpArgs false
set_option linter.unnecessarySimpa false

theorem ropened_post (w : World) (v : Value) (L : List Nd) (x : Nd) (h : RefAt w v L) (e : Ending) (w' : World) (ho : ROpened w v L.length (rdCells L) x e w') :
    ∃ v', RefPost w v v' (.tuple #[v', .bool true]) (L ++ [x]) e w' := by
  obtain ⟨W, gg, cap', rfl, hk, hown, hgr, hat⟩ := ho
  refine ⟨.slice (some ⟨gg, 0, none⟩) (L.length + 1) cap', rfl, ?_, ?_, ?_⟩
  · show w'.ownsRow 0 _ 25 _ (L ++ [x]).length (rdCells (L ++ [x]))
    rw [show rdCells (L ++ [x]) = rdCells L ++ x.rcells by simp [rdCells], List.length_append]
    exact hown
  · exact (hk.mono (fun _ _ h => h.elim)).grown hgr (fun k e _ => e)
  · intro k e
    simp [Value.ownBlock] at e
    subst e
    rcases hat with e | e
    · exact .inl e
    · exact .inr (by rw [e]; exact hk.size)

theorem ropen_any (w : World) (v : Value) (L : List Nd) (a e : Int) (h : RefAt w v L) (hok : StkOk L)
    (ha : 0 ≤ a ∧ a < 18446744073709551616) (he : 0 ≤ e ∧ e < 18446744073709551616) :
    Calls Tryd.prog 15 #[v, .int .u64 a, .int .u64 e] w fun r w' => ∃ v', RefPost w v v' (.tuple #[v', .bool (openN L a e).1]) (openN L a e).2 r w' := by
  have same : openN L a e = (false, L) → (Calls Tryd.prog 15 #[v, .int .u64 a, .int .u64 e] w fun e w' => e = .returned (.tuple #[v, .bool false]) ∧ w' = w) →
      Calls Tryd.prog 15 #[v, .int .u64 a, .int .u64 e] w fun r w' => ∃ v', RefPost w v v' (.tuple #[v', .bool (openN L a e).1]) (openN L a e).2 r w' := by
    intro e hc
    rw [e]
    refine hc.mono ?_
    rintro e' w' ⟨rfl, rfl⟩
    exact ⟨v, rfl, h, Keeps.refl _ _, fun k hk => .inl hk⟩
  by_cases h61 : L.length = 61
  · refine same (by simp [openN, h61]) ?_
    rcases h.shape with ⟨_, e⟩ | ⟨g, cap, rfl, _⟩
    · rw [e] at h61; simp at h61
    · rw [h61]; exact ropen_full cap _ a e w
  have hlt : L.length ≤ 60 := by have := hok.1; omega
  rcases List.eq_nil_or_concat L with rfl | ⟨L1, y, rfl⟩
  · have e2 : openN [] a e = (true, [] ++ [openNd a e]) := by simp [openN, topOpen]
    rw [e2]
    rcases h.shape with ⟨rfl, _⟩ | ⟨g, cap, rfl, _⟩
    · exact (ropen_raw 0 0 0 none a e w [] (by omega) ha he h (.inl rfl)).mono (fun r w' ho => ropened_post _ _ [] _ h _ _ ho)
    · exact (ropen_raw 0 0 cap _ a e w [] (by omega) ha he h (.inl rfl)).mono (fun r w' ho => ropened_post _ _ [] _ h _ _ ho)
  · rw [List.concat_eq_append] at *
    have hy : (L1 ++ [y])[L1.length]? = some y := by simp
    have hl : (L1 ++ [y]).length = L1.length + 1 := by simp
    have hyo : y.Ok := hok.2 y (by simp)
    rcases h.shape with ⟨_, e⟩ | ⟨g, cap, rfl, hcap, _⟩
    · simp at e
    · by_cases h0 : 0 ≤ y.thread
      · have htop : topOpen (L1 ++ [y]) = false := by rw [topOpen_last]; simp; omega
        have e2 : openN (L1 ++ [y]) a e = (true, (L1 ++ [y]) ++ [openNd a e]) := by
          have hne : ¬ (L1.length + 1 = 61) := by omega
          simp [openN, htop, hne]
        rw [e2]
        refine (ropen_raw g (L1 ++ [y]).length cap _ a e w (rdCells (L1 ++ [y])) (by omega) ha he h (.inr ⟨rfl, L1.length, y.thread, hl, h.thread hy, h0⟩)).mono (fun r w' ho => ropened_post _ _ _ _ h _ _ ho)
      · have ey : y.thread = -1 := by have := hyo.2.2.2.1; omega
        have hth := h.thread hy
        rw [ey] at hth
        have htop : topOpen (L1 ++ [y]) = true := by rw [topOpen_last]; simp; omega
        refine same (by simp [openN, htop]) ?_
        rw [hl]
        exact ropen_top g L1.length cap a e w (by omega) hth
end Go.Proofs.YtjfbiganijldfaaDoor
