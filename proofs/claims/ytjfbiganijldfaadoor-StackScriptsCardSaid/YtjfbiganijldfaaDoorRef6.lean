/- The reference's calls on rows of nodes: Insert, at any row. -/
import Derived.Test.YtjfbiganijldfaaDoorRef4
import Derived.Test.YtjfbiganijldfaaDoorRef5
namespace Go.Proofs.YtjfbiganijldfaaDoor
open Go.RowKit
set_option linter.unusedVariables false
set_option linter.unusedSimpArgs false
set_option linter.unnecessarySimpa false

theorem and_none (ini bk sl : Int) (hi : 0 ≤ ini) (hb : 0 ≤ bk ∧ bk < 256) (hs : 0 ≤ sl ∧ sl < 256) :
    bits .and .u64 (ini % 256) (bits .or .u64 bk sl) = 0 ↔ ∀ j, j < 8 → (ini.toNat.testBit j && (bk.toNat.testBit j || sl.toNat.testBit j)) = false := by
  have ho := or_bd bk sl hb hs
  have e1 : bits .or .u64 bk sl = ((bk.toNat ||| sl.toNat : Nat) : Int) := u64_or bk sl hb.1 (by omega) hs.1 (by omega)
  have e2 : (ini % 256).toNat = ini.toNat % 2 ^ 8 := by omega
  rw [u64_and _ _ (by omega) (by omega) ho.1 (by omega), e1, Int.toNat_natCast, e2]
  have key : ∀ j, ((ini.toNat % 2 ^ 8) &&& (bk.toNat ||| sl.toNat)).testBit j = (decide (j < 8) && (ini.toNat.testBit j && (bk.toNat.testBit j || sl.toNat.testBit j))) := fun j => by
    rw [Nat.testBit_and, Nat.testBit_mod_two_pow, Nat.testBit_or, Bool.and_assoc]
  constructor
  · intro h j hj
    have h0 : (ini.toNat % 2 ^ 8) &&& (bk.toNat ||| sl.toNat) = 0 := by exact_mod_cast h
    have := key j
    rw [h0] at this
    simpa [hj] using this.symm
  · intro h
    have h0 : (ini.toNat % 2 ^ 8) &&& (bk.toNat ||| sl.toNat) = 0 := by
      apply Nat.eq_of_testBit_eq
      intro j
      rw [key j, Nat.zero_testBit]
      by_cases hj : j < 8
      · simp [hj, h j hj]
      · simp [hj]
    rw [h0]; rfl

theorem rins_any (w : World) (v : Value) (L : List Nd) (i ini : Int) (h : RefAt w v L) (hok : StkOk L) (hini : 0 ≤ ini ∧ ini < 18446744073709551616) :
    Calls Tryd.prog 21 #[v, .int .i64 i, .int .u64 ini] w (RefPost w v v (.bool (insertN L i ini).1) (insertN L i ini).2) := by
  have hv : ∃ ad cap, v = .slice ad L.length cap := by
    rcases h.shape with ⟨rfl, rfl⟩ | ⟨g, cap, rfl, _⟩
    · exact ⟨_, _, rfl⟩
    · exact ⟨_, _, rfl⟩
  have none_case : (i < 0 ∨ (L.length : Int) ≤ i) → insertN L i ini = (false, L) → Calls Tryd.prog 21 #[v, .int .i64 i, .int .u64 ini] w (RefPost w v v (.bool (insertN L i ini).1) (insertN L i ini).2) := by
    intro hi e
    rw [e]
    obtain ⟨ad, cap, rfl⟩ := hv
    refine (rins_none _ _ _ _ _ _ hi).mono ?_
    rintro e' w' ⟨rfl, rfl⟩
    exact ⟨rfl, h, Keeps.refl _ _, fun k hk => .inl hk⟩
  by_cases h1 : i < 0
  · exact none_case (.inl h1) (by simp [insertN, h1])
  · by_cases h2 : (L.length : Int) ≤ i
    · exact none_case (.inr h2) (by simp [insertN, h1, List.getElem?_eq_none (show L.length ≤ i.toNat by omega)])
    · obtain ⟨k, rfl⟩ : ∃ k : Nat, i = k := ⟨i.toNat, by omega⟩
      have hk : k < L.length := by omega
      obtain ⟨x, hx⟩ : ∃ x, L[k]? = some x := ⟨_, List.getElem?_eq_getElem hk⟩
      have hxo : x.Ok := hok.2 x (List.mem_of_getElem? hx)
      have ei : insertN L k ini = ((insNd x ini).back != x.back, L.set k (insNd x ini)) := by simp [insertN, hx, h1]
      rcases h.shape with ⟨_, rfl⟩ | ⟨g, cap, rfl, _⟩
      · simp at hk
      · have hz := and_none ini x.back x.sleep hini.1 hxo.2.1 hxo.1
        refine (rins_raw g L.length cap k ini x.back x.sleep w hk hok.1 hini (fun j hj => h.back hx j hj) (fun j hj => h.sleep hx j hj) h.free).mono ?_
        rintro e w' (⟨rfl, hb, hc⟩ | ⟨w2, m, rfl, hb, hm, hm8, hall, rfl⟩)
        · have hsame : insNd x ini = x := by
            unfold insNd
            split
            · rename_i h0
              rcases hc with hc | ⟨j, hj, hc⟩
              · rw [hc]
                have : putN x.back (-1) = x.back := by
                  unfold putN
                  rw [show oneN (-1) = 0 by decide, u64_or x.back 0 hxo.2.1.1 (by have := hxo.2.1.2; omega) (by decide) (by decide)]
                  have := hxo.2.1.1
                  simp
                  omega
                rw [this]
              · rw [hz.1 h0 j hj] at hc; cases hc
            · rfl
          rw [ei, hsame]
          have hset : L.set k x = L := by
            obtain ⟨_, e⟩ := List.getElem?_eq_some_iff.1 hx
            rw [← e]; exact List.set_getElem_self _
          rw [hset, show (x.back != x.back) = false by simp]
          exact ⟨rfl, h.keeps (Keeps.ofBelow hb NoBlk) (fun _ _ h => h), Keeps.ofBelow hb _, fun k hk => .inl hk⟩
        · have h0 := hz.2 hall
          have ebk : (insNd x ini).back = putN x.back m := by simp [insNd, h0, hm]
          have eins : insNd x ini = { x with back := putN x.back m } := by simp only [insNd, h0, hm, if_true]
          have hlh : hasT ini m := by have := least_has ini hini.1 (by rw [hm]; omega); rw [hm] at this; exact this
          have hne : ((insNd x ini).back != x.back) = true := by
            rw [bne_iff_ne, ebk]
            intro e
            have hp := (put_has x.back m m hxo.2.1).2 (.inr ⟨rfl, by omega, by omega⟩)
            rw [e] at hp
            have h3 := hall m hm8
            have h4 := hlh.2.2
            have h5 := hp.2.2
            rw [Int.toNat_natCast] at h4 h5
            rw [h4, h5] at h3
            cases h3
          rw [ei, hne, eins]
          have hr2 : RefAt w2 (.slice (some ⟨g, 0, none⟩) L.length cap) L := h.keeps (Keeps.ofBelow hb NoBlk) (fun _ _ h => h)
          have hs := hr2.set (i := k) (j := 8 + m) (by omega) hx (u := .bool true) (rcells_set_back x m (putN x.back m) true hm8 (bitsN_put _ m hm8 hxo.2.1))
          rw [List.length_set, ← Nat.add_assoc] at hs
          refine ⟨rfl, hs, ?_, fun k hk => .inl hk⟩
          exact (Keeps.ofBelow hb (OwnV (.slice (some ⟨g, 0, none⟩) L.length cap))).setCell (p := ⟨g, k * 25 + 8 + m, none⟩) (fun _ => rfl) _
end Go.Proofs.YtjfbiganijldfaaDoor
