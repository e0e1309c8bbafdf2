/- The plain law: what does something makes Left less. -/
import Derived.Test.YtjfbiganijldfaaDoorOnce
import Derived.Test.YtjfbiganijldfaaDoorLeft
namespace Go.Proofs.YtjfbiganijldfaaDoor
open Go.RowKit
set_option linter.unusedVariables false
set_option linter.unusedSimpArgs false
set_option linter.unnecessarySimpa false

theorem lenPut_fin : ∀ (k : Fin 256) (t : Fin 8), k.val.testBit t.val = false → lenN (putN k.val t.val) = lenN k.val + 1 := by decide +kernel
theorem lenPut (s t : Int) (hs : 0 ≤ s ∧ s < 256) (ht : 0 ≤ t ∧ t < 8) (h : ¬ hasT s t) : lenN (putN s t % 256) = lenN (s % 256) + 1 := by
  have hp := put_bd s t hs
  have e1 : putN s t % 256 = putN s t := by omega
  have e2 : s % 256 = s := by omega
  rw [e1, e2]
  obtain ⟨a, rfl⟩ := Int.eq_ofNat_of_zero_le hs.1
  obtain ⟨b, rfl⟩ := Int.eq_ofNat_of_zero_le ht.1
  refine lenPut_fin ⟨a, by omega⟩ ⟨b, by omega⟩ ?_
  cases hb : a.testBit b with
  | false => rfl
  | true => exact absurd ⟨ht.1, ht.2, by simpa using hb⟩ h

theorem leftN_len (L : List Nd) (h : L.length ≤ 61) : (leftN L).length = 61 := by simp [leftN]; omega
theorem leftN_get (L : List Nd) (k : Nat) (h : k < 61) : (leftN L).getD k 0 = ((L[k]?).map leftNd).getD 18 := by
  unfold leftN
  by_cases hk : k < L.length
  · rw [List.getD_eq_getElem?_getD, List.getElem?_append_left (by simpa using hk), List.getElem?_map, List.getElem?_eq_getElem hk]
    rfl
  · rw [List.getD_eq_getElem?_getD, List.getElem?_append_right (by simp; omega), List.getElem?_replicate, List.getElem?_eq_none (by omega)]
    rw [List.length_map, if_pos (by omega)]
    rfl

/-- less, by the first node that differs -/
theorem left_less (L L' : List Nd) (k : Nat) (h : L.length ≤ 61) (h' : L'.length ≤ 61) (hk : k < 61) (hp : ∀ j, j < k → (L'[j]?).map leftNd = (L[j]?).map leftNd)
    (hl : ((L'[k]?).map leftNd).getD 18 < ((L[k]?).map leftNd).getD 18) : lessN (leftN L') (leftN L) = true := by
  rw [lessN_at (leftN L') (leftN L) k (by rw [leftN_len _ h, leftN_len _ h']) (by rw [leftN_len _ h']; exact hk)]
  · rw [leftN_get _ _ hk, leftN_get _ _ hk]; simpa using hl
  · intro j hj
    rw [leftN_get _ _ (by omega), leftN_get _ _ (by omega), hp j hj]
  · rw [leftN_get _ _ hk, leftN_get _ _ hk]; omega

theorem left_insert (L : List Nd) (i a : Int) : leftN (insertN L i a).2 = leftN L := by
  unfold insertN
  split
  · rfl
  · cases hx : L[i.toNat]? with
    | none => rfl
    | some x =>
      show leftN (L.set i.toNat (insNd x a)) = leftN L
      have hk := (List.getElem?_eq_some_iff.1 hx).1
      unfold leftN
      rw [List.length_set]
      congr 1
      apply List.ext_getElem?
      intro j
      rw [List.getElem?_map, List.getElem?_map]
      by_cases hj : i.toNat = j
      · subst hj; rw [List.getElem?_set_self hk, hx]; rfl
      · rw [List.getElem?_set_ne hj]

theorem left_do {L : List Nd} (h : Tidy L []) (d i a b : Int) :
    (((doN L d i a b).1 = false ∨ d = 3) → leftN (doN L d i a b).2 = leftN L) ∧
    ((doN L d i a b).1 = true → d ≠ 3 → (doN L d i a b).2 ≠ [] → lessN (leftN (doN L d i a b).2) (leftN L) = true) ∧ Tidy (doN L d i a b).2 [] := by
  have hl := h.len
  unfold doN
  split
  · -- Open
    refine ⟨?_, ?_, tidy_open h a b⟩
    · unfold openN
      split
      · exact fun _ => rfl
      · rintro (h | h)
        · simp at h
        · rename_i d0 _; omega
    · have ht := (tidy_open h a b).len
      unfold openN at ht ⊢
      split
      · intro h; simp at h
      · rename_i d0 hc
        rw [if_neg hc] at ht
        have hn61 : L.length ≠ 61 := fun e => hc (.inl e)
        intro _ _ _
        refine left_less L _ L.length hl ht (by omega) (fun j hj => by rw [getB _ _ _ hj]) ?_
        rw [getT, List.getElem?_eq_none (Nat.le_refl _)]
        show leftNd (openNd a b) < 18
        have e : leftNd (openNd a b) = 17 := by
          unfold leftNd openNd
          rw [show ((0 : Int) % 256) = 0 from rfl, show lenN 0 = 0 from by decide]
          rfl
        omega
  · split
    · -- Take
      obtain ⟨t1, t2⟩ := tidy_take h
      refine ⟨?_, ?_, ?_⟩
      · rintro (hh | hh)
        · rw [t1 hh]
        · rename_i d0 d1; omega
      · intro hr _ _
        have ht := (t2 hr).1.len
        dsimp only at hr ht ⊢
        unfold takeN at hr ht ⊢
        split at hr
        · simp at hr
        · rename_i x hx
          obtain ⟨L0, rfl⟩ := last_split hx
          split at hr
          · simp at hr
          · split at hr
            · simp at hr
            · rename_i h1 h2
              simp only [List.getLast?_concat, if_neg h1, if_neg h2, List.dropLast_concat] at ht ⊢
              have hxt := h.nds x (by simp)
              have hbd := andNot_bd x.back x.sleep (by have := hxt.1.2.1; omega) (by have := hxt.1.1; omega)
              have hlb := least_bd _ hbd.1
              refine left_less _ _ L0.length hl ht (by simp at hl; omega) (fun j hj => by rw [getB _ _ _ hj, getB _ _ _ hj]) ?_
              rw [getT, getT]
              show leftNd _ < leftNd x
              unfold leftNd
              dsimp only
              rw [if_neg (by omega), if_pos (by omega)]
              omega
      · cases hr : (takeN L).2.1 with
        | false => dsimp only; rw [t1 hr]; exact h
        | true => exact tidy_none (t2 hr).1
    · split
      · -- Close
        rename_i d0 d1 d2
        by_cases hne : (closeN L).2 = []
        · refine ⟨?_, fun _ _ hn => absurd hne hn, by rw [hne]; exact tidy_nil⟩
          rintro (hh | hh)
          · unfold closeN at hh ⊢
            split at hh
            · simp at hh
            · rw [if_neg ‹_›]
          · omega
        · have htd := tidy_close h hne
          refine ⟨?_, ?_, htd⟩
          · rintro (hh | hh)
            · unfold closeN at hh ⊢
              split at hh
              · simp at hh
              · rw [if_neg ‹_›]
            · omega
          · intro hr _ _
            have ht := htd.len
            unfold closeN at hr ht hne ⊢
            split at hr
            · rename_i hto
              rw [if_pos hto] at ht hne ⊢
              rcases List.eq_nil_or_concat L with rfl | ⟨L1, y, rfl⟩
              · simp at hne
              rw [List.concat_eq_append] at *
              rcases List.eq_nil_or_concat L1 with rfl | ⟨L0, x, rfl⟩
              · simp at hne
              · rw [List.concat_eq_append] at *
                rw [List.dropLast_concat, List.getLast?_concat, List.dropLast_concat] at ht ⊢
                dsimp only at ht ⊢
                have hxt := h.nds x (by simp)
                have hx0 : 0 ≤ x.thread := h.row x (by simp)
                refine left_less _ _ L0.length hl ht (by simp at hl; omega) (fun j hj => by rw [getB _ _ _ hj, getB _ _ _ (by simp; omega), getB _ _ _ hj]) ?_
                rw [getT, getB _ _ _ (by simp), getT]
                show leftNd x.tried < leftNd x
                have e := lenPut x.done x.thread hxt.1.2.2.1 ⟨hx0, hxt.1.2.2.2.2⟩ hxt.2.2
                unfold leftNd
                rw [show x.tried.done = putN x.done x.thread from rfl, e, show x.tried.thread = -1 from rfl, if_pos (by decide), if_neg (by omega)]
                omega
            · simp at hr
      · split
        · rename_i d0 d1 d2 d3
          exact ⟨fun _ => left_insert L i a, fun _ h3 => absurd d3 h3, tidy_insert h i a⟩
        · exact ⟨fun _ => rfl, fun h => by simp at h, h⟩
end Go.Proofs.YtjfbiganijldfaaDoor
