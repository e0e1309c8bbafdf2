/- The plain law of a stack: no path is taken twice, and each move makes Left less: no program in sight but the model of the methods. -/
import Derived.Test.YtjfbiganijldfaaDoorStk5
import Derived.Test.YtjfbiganijldfaaDoorInts
namespace Go.Proofs.YtjfbiganijldfaaDoor
open Go.RowKit
set_option linter.unusedVariables false
set_option linter.unusedSimpArgs false
set_option linter.unnecessarySimpa false

/-- a set has a thread -/
def hasT (s t : Int) : Prop := 0 ≤ t ∧ t < 8 ∧ s.toNat.testBit t.toNat = true

theorem put_has (s t u : Int) (hs : 0 ≤ s ∧ s < 256) : hasT (putN s t) u ↔ hasT s u ∨ (u = t ∧ 0 ≤ t ∧ t < 8) := by
  have ho := oneN_bd t
  unfold hasT putN
  rw [u64_or s (oneN t) hs.1 (by omega) ho.1 (by omega)]
  simp only [Int.toNat_natCast, Nat.testBit_or, Bool.or_eq_true]
  have h1 : (0 ≤ u ∧ u < 8) → ((oneN t).toNat.testBit u.toNat = true ↔ (u = t ∧ 0 ≤ t ∧ t < 8)) := by
    intro hu
    unfold oneN
    split
    · constructor
      · intro h; simp at h
      · intro h; omega
    · rename_i ht
      have e : ((2 : Int) ^ t.toNat).toNat = 2 ^ t.toNat := by
        have : ((2 : Int) ^ t.toNat) = ((2 ^ t.toNat : Nat) : Int) := by norm_cast
        rw [this]; rfl
      rw [e, Nat.testBit_two_pow]
      simp
      omega
  constructor
  · rintro ⟨a, b, c | c⟩
    · exact .inl ⟨a, b, c⟩
    · exact .inr ((h1 ⟨a, b⟩).1 c)
  · rintro (⟨a, b, c⟩ | h)
    · exact ⟨a, b, .inl c⟩
    · have : 0 ≤ u ∧ u < 8 := by omega
      exact ⟨this.1, this.2, .inr ((h1 this).2 h)⟩

theorem least_has (s : Int) (hs : 0 ≤ s) (h : leastN s ≠ -1) : hasT s (leastN s) := by
  by_cases h0 : s % 256 = 0
  · exact absurd (leastN_none s hs h0) h
  · obtain ⟨i, hi, e, hm⟩ := leastN_some s hs h0
    rw [e]
    refine ⟨by omega, by omega, ?_⟩
    rw [Int.toNat_natCast]
    have h1 := Nat.testBit_mod_two_pow s.toNat (i + 1) i
    rw [hm] at h1
    simp at h1
    exact h1
theorem least_bd (s : Int) (hs : 0 ≤ s) : -1 ≤ leastN s ∧ leastN s < 8 := by
  by_cases h0 : s % 256 = 0
  · rw [leastN_none s hs h0]; omega
  · obtain ⟨i, hi, e, hm⟩ := leastN_some s hs h0
    omega

theorem andNot_has (a b t : Int) (ha : 0 ≤ a ∧ a < 18446744073709551616) (hb : 0 ≤ b ∧ b < 18446744073709551616) (h : hasT (bits .andNot .u64 a b) t) : hasT a t ∧ ¬ hasT b t := by
  obtain ⟨h1, h2, h3⟩ := h
  rw [u64_andNot a b ha.1 ha.2 hb.1 hb.2] at h3
  simp only [Int.toNat_natCast, Nat.testBit_and, Bool.and_eq_true] at h3
  refine ⟨⟨h1, h2, h3.1⟩, fun ⟨_, _, h5⟩ => ?_⟩
  have h6 := h3.2
  rw [show 18446744073709551615 - b.toNat = 2 ^ 64 - (b.toNat + 1) by omega, Nat.testBit_two_pow_sub_succ (by omega), h5] at h6
  simp at h6

/-- what of a node must hold: what was tried sleeps; the thread that is tried does not -/
def Nd.Tidy (x : Nd) : Prop := x.Ok ∧ (∀ t, hasT x.done t → hasT x.sleep t) ∧ ¬ hasT x.done x.thread

/-- has a list of threads been met: it goes the nodes' own way up to one at which it was tried; or it is the beginning of the way -/
def Met (L : List Nd) (m : List Int) : Prop :=
  (∃ (i : Nat) (x : Nd) (t : Int), L[i]? = some x ∧ m[i]? = some t ∧ (∀ j, j < i → m[j]? = (L[j]?).map Nd.thread) ∧ hasT x.done t) ∨
  (m.length ≤ L.length ∧ ∀ j, j < m.length → m[j]? = (L[j]?).map Nd.thread)

structure Tidy (L : List Nd) (M : List (List Int)) : Prop where
  len : L.length ≤ 61
  nds : ∀ x ∈ L, x.Tidy
  row : ∀ x ∈ L.dropLast, 0 ≤ x.thread
  met : ∀ m ∈ M, Met L m ∧ ∀ t ∈ m, 0 ≤ t

/-- the threads of a path, all of them -/
def pathT (L : List Nd) : List Int := L.map Nd.thread

theorem Tidy.ok {L : List Nd} {M : List (List Int)} (h : Tidy L M) : StkOk L := ⟨h.len, fun x hx => (h.nds x hx).1⟩

theorem has0 (t : Int) : ¬ hasT 0 t := fun ⟨_, _, h⟩ => by simp at h

theorem topOpen_last (L : List Nd) (x : Nd) : topOpen (L ++ [x]) = decide (x.thread < 0) := by simp [topOpen]

theorem tidy_nil : Tidy [] [] := ⟨by decide, by simp, by simp, by simp⟩

theorem tidy_none {L : List Nd} {M : List (List Int)} (h : Tidy L M) : Tidy L [] := ⟨h.len, h.nds, h.row, by simp⟩

theorem getT (L : List Nd) (x : Nd) : (L ++ [x])[L.length]? = some x := by simp
theorem getB (L : List Nd) (x : Nd) (j : Nat) (h : j < L.length) : (L ++ [x])[j]? = L[j]? := List.getElem?_append_left h

/-- Open keeps the order -/
theorem tidy_open {L : List Nd} {M : List (List Int)} (h : Tidy L M) (a e : Int) : Tidy (openN L a e).2 M := by
  unfold openN
  split
  · exact h
  · rename_i hc
    have hl : L.length ≠ 61 := fun e => hc (.inl e)
    have ht : topOpen L = false := by cases ht : topOpen L with | false => rfl | true => exact absurd (.inr ht) hc
    have hll := h.len
    have hall : ∀ x ∈ L, 0 ≤ x.thread := by
      rcases List.eq_nil_or_concat L with rfl | ⟨L0, y, rfl⟩
      · simp
      · rw [List.concat_eq_append] at *
        intro x hx
        rcases List.mem_append.1 hx with hx | hx
        · exact h.row x (by simpa using hx)
        · have : x = y := by simpa using hx
          subst this
          rw [topOpen_last] at ht
          simpa using ht
    refine ⟨by simp; omega, ?_, by simpa using hall, ?_⟩
    · intro x hx
      rcases List.mem_append.1 hx with hx | hx
      · exact h.nds x hx
      · have : x = openNd a e := by simpa using hx
        subst this
        refine ⟨⟨?_, put_bd 0 _ (by omega), ?_, ?_, ?_⟩, fun t ht => absurd ht (has0 t), has0 _⟩
        · show 0 ≤ a % 256 ∧ a % 256 < 256; omega
        · show (0 : Int) ≤ 0 ∧ (0 : Int) < 256; omega
        · show (-1 : Int) ≤ -1; omega
        · show (-1 : Int) < 8; omega
    · intro m hm
      obtain ⟨h1, h2⟩ := h.met m hm
      refine ⟨?_, h2⟩
      rcases h1 with ⟨i, x, t, a1, a2, a3, a4⟩ | ⟨a1, a2⟩
      · have hi := (List.getElem?_eq_some_iff.1 a1).1
        exact .inl ⟨i, x, t, by rw [getB _ _ _ hi]; exact a1, a2, fun j hj => by rw [getB _ _ _ (by omega)]; exact a3 j hj, a4⟩
      · exact .inr ⟨by simp; omega, fun j hj => by rw [getB _ _ _ (by omega)]; exact a2 j hj⟩

/-- Insert keeps it -/
theorem tidy_insert {L : List Nd} {M : List (List Int)} (h : Tidy L M) (i a : Int) : Tidy (insertN L i a).2 M := by
  unfold insertN
  split
  · exact h
  · cases hx : L[i.toNat]? with
    | none => exact h
    | some x =>
      show Tidy (L.set i.toNat (insNd x a)) M
      generalize i.toNat = k at hx
      have hk := (List.getElem?_eq_some_iff.1 hx).1
      have hmem : x ∈ L := List.mem_of_getElem? hx
      have hxt := h.nds x hmem
      have hbk : 0 ≤ (insNd x a).back ∧ (insNd x a).back < 256 := by
        unfold insNd
        dsimp only
        split
        · exact put_bd _ _ hxt.1.2.1
        · exact hxt.1.2.1
      have key : ∀ j : Nat, ((L.set k (insNd x a))[j]?).map Nd.thread = (L[j]?).map Nd.thread := by
        intro j
        by_cases hj : k = j
        · subst hj; rw [List.getElem?_set_self hk, hx]; rfl
        · rw [List.getElem?_set_ne hj]
      refine ⟨by simpa using h.len, ?_, ?_, ?_⟩
      · intro y hy
        rcases List.mem_or_eq_of_mem_set hy with hy | rfl
        · exact h.nds y hy
        · exact ⟨⟨hxt.1.1, hbk, hxt.1.2.2.1, hxt.1.2.2.2⟩, hxt.2.1, hxt.2.2⟩
      · intro y hy
        rw [List.mem_iff_getElem?] at hy
        obtain ⟨j, hj⟩ := hy
        have hjl : j < L.length - 1 := by have := (List.getElem?_eq_some_iff.1 hj).1; simpa using this
        rw [List.getElem?_dropLast] at hj
        simp at hj
        have := key j
        rw [hj.2] at this
        obtain ⟨z, hz⟩ : ∃ z, L[j]? = some z := ⟨L[j], List.getElem?_eq_getElem (by omega)⟩
        rw [hz] at this
        simp at this
        rw [this]
        refine h.row z ?_
        rw [List.mem_iff_getElem?]
        exact ⟨j, by rw [List.getElem?_dropLast]; simp [hjl, hz]⟩
      · intro m hm
        obtain ⟨h1, h2⟩ := h.met m hm
        refine ⟨?_, h2⟩
        rcases h1 with ⟨i, y, t, a1, a2, a3, a4⟩ | ⟨a1, a2⟩
        · by_cases hj : k = i
          · subst hj
            rw [hx] at a1
            cases a1
            exact .inl ⟨k, insNd x a, t, by simp [hk], a2, fun j hj => by rw [key]; exact a3 j hj, a4⟩
          · exact .inl ⟨i, y, t, by rw [List.getElem?_set_ne hj]; exact a1, a2, fun j hj => by rw [key]; exact a3 j hj, a4⟩
        · exact .inr ⟨by simpa using a1, fun j hj => by rw [key]; exact a2 j hj⟩

/-- Take: a new path -/
theorem tidy_take {L : List Nd} {M : List (List Int)} (h : Tidy L M) :
    ((takeN L).2.1 = false → (takeN L).2.2 = L) ∧ ((takeN L).2.1 = true → Tidy (takeN L).2.2 (M ++ [pathT (takeN L).2.2]) ∧ pathT (takeN L).2.2 ∉ M) := by
  cases hx : L.getLast? with
  | none => simp [takeN, hx]
  | some x =>
    obtain ⟨L0, rfl⟩ := last_split hx
    have hxt := h.nds x (by simp)
    by_cases ht : 0 ≤ x.thread
    · simp [takeN, ht]
    · by_cases hl : leastN (bits .andNot .u64 x.back x.sleep) = -1
      · simp [takeN, ht, hl]
      · have e : takeN (L0 ++ [x]) = (leastN (bits .andNot .u64 x.back x.sleep), true, L0 ++ [{ x with thread := leastN (bits .andNot .u64 x.back x.sleep) }]) := by simp [takeN, ht, hl]
        rw [e]
        refine ⟨fun h => by simp at h, fun _ => ?_⟩
        have hb := hxt.1.2.1
        have hs := hxt.1.1
        have hbd := andNot_bd x.back x.sleep (by omega) (by omega)
        have hh := least_has _ hbd.1 hl
        have hlb := least_bd _ hbd.1
        obtain ⟨_, hns⟩ := andNot_has x.back x.sleep _ (by omega) (by omega) hh
        generalize leastN (bits .andNot .u64 x.back x.sleep) = t at hh hns hlb hl
        have hall : ∀ y ∈ L0, 0 ≤ y.thread := fun y hy => h.row y (by simpa using hy)
        have ht0 : 0 ≤ t := by omega
        have hp : pathT (L0 ++ [{ x with thread := t }]) = L0.map Nd.thread ++ [t] := by
          simp only [pathT, List.map_append, List.map_cons, List.map_nil]
        refine ⟨⟨by have := h.len; simp at this ⊢; omega, ?_, by simpa using hall, ?_⟩, ?_⟩
        · intro y hy
          rcases List.mem_append.1 hy with hy | hy
          · exact h.nds y (by simp [hy])
          · have : y = { x with thread := t } := by simpa using hy
            subst this
            exact ⟨⟨hs, hb, hxt.1.2.2.1, by show -1 ≤ t; omega, by show t < 8; omega⟩, hxt.2.1, fun hd => hns (hxt.2.1 _ hd)⟩
        · intro m hm
          rcases List.mem_append.1 hm with hm | hm
          · obtain ⟨h1, h2⟩ := h.met m hm
            refine ⟨?_, h2⟩
            rcases h1 with ⟨i, y, u, a1, a2, a3, a4⟩ | ⟨a1, a2⟩
            · have hi : i < L0.length + 1 := by have := (List.getElem?_eq_some_iff.1 a1).1; simpa using this
              by_cases hi' : i < L0.length
              · rw [getB _ _ _ hi'] at a1
                exact .inl ⟨i, y, u, by rw [getB _ _ _ hi']; exact a1, a2, fun j hj => by rw [getB _ _ _ (by omega), ← getB L0 x j (by omega)]; exact a3 j hj, a4⟩
              · have : i = L0.length := by omega
                subst this
                rw [getT] at a1
                cases a1
                exact .inl ⟨L0.length, _, u, getT _ _, a2, fun j hj => by rw [getB _ _ _ hj, ← getB L0 x j hj]; exact a3 j hj, a4⟩
            · by_cases hlen : m.length ≤ L0.length
              · exact .inr ⟨by simp; omega, fun j hj => by rw [getB _ _ _ (by omega), ← getB L0 x j (by omega)]; exact a2 j hj⟩
              · exfalso
                have h3 := a2 L0.length (by omega)
                rw [getT] at h3
                simp at h3
                have := h2 x.thread (List.mem_of_getElem? h3)
                omega
          · have : m = pathT (L0 ++ [{ x with thread := t }]) := by simpa using hm
            subst this
            rw [hp]
            refine ⟨.inr ⟨by simp, fun j hj => ?_⟩, ?_⟩
            · have hj' : j < L0.length + 1 := by simpa using hj
              by_cases hjl : j < L0.length
              · rw [List.getElem?_append_left (by simpa using hjl), getB _ _ _ hjl, List.getElem?_map]
              · have : j = L0.length := by omega
                subst this
                rw [getT, List.getElem?_append_right (by simp)]
                simp
            · intro u hu
              rcases List.mem_append.1 hu with hu | hu
              · obtain ⟨y, hy, rfl⟩ := List.mem_map.1 hu
                exact hall y hy
              · have : u = t := by simpa using hu
                omega
        · intro hm
          rw [hp] at hm
          obtain ⟨h1, h2⟩ := h.met _ hm
          rcases h1 with ⟨i, y, u, a1, a2, a3, a4⟩ | ⟨a1, a2⟩
          · have hi : i < L0.length + 1 := by have := (List.getElem?_eq_some_iff.1 a1).1; simpa using this
            by_cases hi' : i < L0.length
            · rw [getB _ _ _ hi'] at a1
              rw [List.getElem?_append_left (by simpa using hi'), List.getElem?_map, a1] at a2
              simp at a2
              subst a2
              exact (h.nds y (by simp [List.mem_of_getElem? a1])).2.2 a4
            · have : i = L0.length := by omega
              subst this
              rw [getT] at a1
              cases a1
              rw [List.getElem?_append_right (by simp)] at a2
              simp at a2
              subst a2
              exact hns (hxt.2.1 _ a4)
          · have h3 := a2 L0.length (by simp)
            rw [getT, List.getElem?_append_right (by simp)] at h3
            simp at h3
            omega

/-- Close, where a node is left -/
theorem tidy_close {L : List Nd} {M : List (List Int)} (h : Tidy L M) (hne : (closeN L).2 ≠ []) : Tidy (closeN L).2 M := by
  unfold closeN at hne ⊢
  split at hne
  · rename_i ht
    rw [if_pos ht]
    rcases List.eq_nil_or_concat L with rfl | ⟨L1, y, rfl⟩
    · simp at hne
    rw [List.concat_eq_append] at *
    rcases List.eq_nil_or_concat L1 with rfl | ⟨L0, x, rfl⟩
    · simp at hne
    · rw [List.concat_eq_append] at *
      clear hne
      rw [List.dropLast_concat, List.getLast?_concat, List.dropLast_concat]
      show Tidy (L0 ++ [x.tried]) M
      rw [topOpen_last] at ht
      have hy : y.thread < 0 := by simpa using ht
      have hxt := h.nds x (by simp)
      have hx0 : 0 ≤ x.thread := h.row x (by simp)
      have hx8 := hxt.1.2.2.2.2
      have hg0 : ∀ j, j < L0.length → (L0 ++ [x] ++ [y])[j]? = L0[j]? := fun j hj => by rw [getB _ _ _ (by simp; omega), getB _ _ _ hj]
      have hg1 : (L0 ++ [x] ++ [y])[L0.length]? = some x := by rw [getB _ _ _ (by simp), getT]
      have hg2 : (L0 ++ [x] ++ [y])[L0.length + 1]? = some y := by have := getT (L0 ++ [x]) y; simpa using this
      refine ⟨by have := h.len; simp at this ⊢; omega, ?_, ?_, ?_⟩
      · intro z hz
        rcases List.mem_append.1 hz with hz | hz
        · exact h.nds z (by simp [hz])
        · have : z = x.tried := by simpa using hz
          subst this
          refine ⟨⟨put_bd _ _ hxt.1.1, hxt.1.2.1, put_bd _ _ hxt.1.2.2.1, by show (-1 : Int) ≤ -1; omega, by show (-1 : Int) < 8; omega⟩, ?_, fun hd => ?_⟩
          · intro t ht
            rw [show x.tried.done = putN x.done x.thread from rfl, put_has _ _ _ hxt.1.2.2.1] at ht
            rw [show x.tried.sleep = putN x.sleep x.thread from rfl, put_has _ _ _ hxt.1.1]
            exact ht.imp_left (hxt.2.1 t)
          · have := hd.1
            rw [show x.tried.thread = -1 from rfl] at this
            omega
      · intro z hz
        exact h.row z (by simp at hz ⊢; exact .inl hz)
      · intro m hm
        obtain ⟨h1, h2⟩ := h.met m hm
        refine ⟨?_, h2⟩
        have atx : m[L0.length]? = some x.thread → (∀ j, j < L0.length → m[j]? = (L0[j]?).map Nd.thread) → Met (L0 ++ [x.tried]) m := fun e1 e2 =>
          .inl ⟨L0.length, x.tried, x.thread, getT _ _, e1, fun j hj => by rw [getB _ _ _ hj]; exact e2 j hj, (put_has _ _ _ hxt.1.2.2.1).2 (.inr ⟨rfl, hx0, hx8⟩)⟩
        rcases h1 with ⟨i, z, t, a1, a2, a3, a4⟩ | ⟨a1, a2⟩
        · have hi : i < L0.length + 2 := by have := (List.getElem?_eq_some_iff.1 a1).1; simpa using this
          rcases Nat.lt_trichotomy i L0.length with hlt | heq | hgt
          · rw [hg0 i hlt] at a1
            exact .inl ⟨i, z, t, by rw [getB _ _ _ hlt]; exact a1, a2, fun j hj => by rw [getB _ _ _ (by omega), ← hg0 j (by omega)]; exact a3 j hj, a4⟩
          · subst heq
            rw [hg1] at a1
            cases a1
            exact .inl ⟨L0.length, x.tried, t, getT _ _, a2, fun j hj => by rw [getB _ _ _ hj, ← hg0 j hj]; exact a3 j hj, (put_has _ _ _ hxt.1.2.2.1).2 (.inl a4)⟩
          · have : i = L0.length + 1 := by omega
            subst this
            refine atx ?_ (fun j hj => by rw [← hg0 j hj]; exact a3 j (by omega))
            have := a3 L0.length (by omega)
            rw [hg1] at this
            exact this
        · have hml : m.length ≤ L0.length + 2 := by simpa using a1
          by_cases h1 : m.length ≤ L0.length
          · exact .inr ⟨by simp; omega, fun j hj => by rw [getB _ _ _ (by omega), ← hg0 j (by omega)]; exact a2 j hj⟩
          · by_cases h3 : m.length = L0.length + 1
            · refine atx ?_ (fun j hj => by rw [← hg0 j hj]; exact a2 j (by omega))
              have := a2 L0.length (by omega)
              rw [hg1] at this
              exact this
            · exfalso
              have h4 := a2 (L0.length + 1) (by omega)
              rw [hg2] at h4
              simp at h4
              have := h2 y.thread (List.mem_of_getElem? h4)
              omega
  · rw [if_neg ‹_›]
    exact h
end Go.Proofs.YtjfbiganijldfaaDoor
