/- The walk of StackOnce: as long as there are nodes no path is taken twice. -/
import Derived.Test.YtjfbiganijldfaaDoorStkLaw
import Derived.Test.YtjfbiganijldfaaDoorDo
namespace Go.Proofs.YtjfbiganijldfaaDoor
open Go.RowKit
set_option linter.unusedVariables false
set_option linter.unusedSimpArgs false
set_option linter.unnecessarySimpa false

/-- a step of a script -/
structure Stp where
  d : Int
  i : Int
  a : Int
  b : Int
def Stp.Ok (x : Stp) : Prop := (0 ≤ x.a ∧ x.a < 18446744073709551616) ∧ (0 ≤ x.b ∧ x.b < 18446744073709551616)
/-- the script, as it came in -/
def ScriptAt (w : World) (v : Value) (n : Nat) (ss : Nat → Stp) : Prop :=
  ∃ ad cap, v = .slice ad n cap ∧ n ≤ maxLen ∧ ∀ k, k < n → (ss k).Ok ∧ ∃ g o, ad = some ⟨g, o, none⟩ ∧ w.cell? ⟨g, o + k * 4, none⟩ = some (.int .i64 (ss k).d) ∧ w.cell? ⟨g, o + k * 4 + 1, none⟩ = some (.int .i64 (ss k).i) ∧ w.cell? ⟨g, o + k * 4 + 2, none⟩ = some (.int .u64 (ss k).a) ∧ w.cell? ⟨g, o + k * 4 + 3, none⟩ = some (.int .u64 (ss k).b)

/-- the list of paths that were met -/
structure MetAt (w : World) (bs : Nat) (v mv : Value) (M : List (Value × List Int)) : Prop where
  own : w.ownsRow 0 32 1 mv M.length (M.map Prod.fst)
  apart : ∀ k, mv.ownBlock = some k → ¬ OwnS bs v k
  mem : ∀ p ∈ M, IntsAt w p.1 p.2 ∧ p.2.length ≤ 61 ∧ p.1.oneCell' = true ∧ ∀ k, p.1.ownBlock = some k → ¬ OwnS bs v k ∧ mv.ownBlock ≠ some k ∧ k < w.heap.size

structure OnceInv (B : Nat) (w : World) (bs : Nat) (v mv : Value) (L : List Nd) (M : List (Value × List Int)) : Prop where
  stk : StackAt w bs v L
  tidy : Tidy L (M.map Prod.snd)
  met : MetAt w bs v mv M
  base : B ≤ w.heap.size
  own : ∀ k, OwnS bs v k → B ≤ k
  row : ∀ k, mv.ownBlock = some k → B ≤ k

theorem OwnS.lt {w : World} {bs : Nat} {v : Value} {L : List Nd} (h : StackAt w bs v L) (k : Nat) (hk : OwnS bs v k) : k < w.heap.size := by
  rcases hk with rfl | hk
  · exact lt_of_block h.blk
  · exact (h.own.lt k hk).2

theorem OnceInv.call {B : Nat} {w w1 : World} {bs : Nat} {v v' mv : Value} {L L' : List Nd} {M : List (Value × List Int)} (h : OnceInv B w bs v mv L M)
    (h1 : StackAt w1 bs v' L') (hk : Keeps (OwnS bs v) w w1) (hn : ∀ k, v'.ownBlock = some k → v.ownBlock = some k ∨ w.heap.size ≤ k) (ht : Tidy L' (M.map Prod.snd)) : OnceInv B w1 bs v' mv L' M := by
  have hnew : ∀ k, OwnS bs v' k → OwnS bs v k ∨ w.heap.size ≤ k := by
    rintro k (rfl | hk')
    · exact .inl (.inl rfl)
    · exact (hn k hk').imp_left .inr
  refine ⟨h1, ht, ⟨ownsRow_keeps h.met.own hk h.met.apart, ?_, ?_⟩, Nat.le_trans h.base hk.size, ?_, h.row⟩
  · intro k e ho
    rcases hnew k ho with ho | hge
    · exact h.met.apart k e ho
    · have := (h.met.own.lt k e).2; omega
  · intro p hp
    obtain ⟨a1, a2, a3, a4⟩ := h.met.mem p hp
    refine ⟨a1.keeps hk (fun k e => (a4 k e).1), a2, a3, fun k e => ?_⟩
    obtain ⟨b1, b2, b3⟩ := a4 k e
    refine ⟨fun ho => ?_, b2, Nat.lt_of_lt_of_le b3 hk.size⟩
    rcases hnew k ho with ho | hge
    · exact b1 ho
    · omega
  · intro k ho
    rcases hnew k ho with ho | hge
    · exact h.own k ho
    · exact Nat.le_trans h.base hge

theorem OnceInv.keeps {B : Nat} {w w1 : World} {bs : Nat} {v mv : Value} {L : List Nd} {M : List (Value × List Int)} (h : OnceInv B w bs v mv L M) (hk : Keeps NoBlk w w1) : OnceInv B w1 bs v mv L M :=
  h.call (h.stk.keeps hk (fun _ _ h => h)) (hk.mono (fun _ _ h => h.elim)) (fun k e => .inl e) h.tidy

theorem OnceInv.none {B : Nat} {w : World} {bs : Nat} {v mv : Value} {L : List Nd} {M : List (Value × List Int)} (h : OnceInv B w bs v mv L M) : OnceInv B w bs v (.slice none 0 0) L [] :=
  ⟨h.stk, tidy_none h.tidy, ⟨World.ownsRow_nil _ _ _ _, fun k e => by simp [Value.ownBlock] at e, fun p hp => by simp at hp⟩, h.base, h.own, fun k e => by simp [Value.ownBlock] at e⟩

theorem OnceInv.push {B : Nat} {w w1 : World} {bs : Nat} {v mv mv' pv : Value} {L : List Nd} {M : List (Value × List Int)} {xs : List Int} (h : OnceInv B w bs v mv L M)
    (hp : IntsAt w pv xs) (hpl : xs.length ≤ 61) (hp1 : pv.oneCell' = true) (hpf : ∀ k, pv.ownBlock = some k → ¬ OwnS bs v k ∧ mv.ownBlock ≠ some k ∧ k < w.heap.size)
    (hown : w1.ownsRow 0 32 1 mv' (M.length + 1) (M.map Prod.fst ++ [pv])) (hg : w.grownBy w1 mv.ownBlock) (hat : ∀ k, mv'.ownBlock = some k → mv.ownBlock = some k ∨ w.heap.size ≤ k)
    (ht : Tidy L (M.map Prod.snd ++ [xs])) : OnceInv B w1 bs v mv' L (M ++ [(pv, xs)]) := by
  have hk : Keeps (fun k => mv.ownBlock = some k) w w1 := (Keeps.refl _ _).grown hg (fun k e _ => e)
  have hnb : ∀ k, OwnS bs v k → mv.ownBlock ≠ some k := fun k ho e => h.met.apart k e ho
  refine ⟨h.stk.keeps hk hnb, by simpa using ht, ⟨by simpa using hown, ?_, ?_⟩, Nat.le_trans h.base hk.size, h.own, ?_⟩
  · intro k e ho
    rcases hat k e with e' | hge
    · exact h.met.apart k e' ho
    · have := OwnS.lt h.stk k ho; omega
  · intro p hpm
    have key : IntsAt w p.1 p.2 ∧ p.2.length ≤ 61 ∧ p.1.oneCell' = true ∧ ∀ k, p.1.ownBlock = some k → ¬ OwnS bs v k ∧ mv.ownBlock ≠ some k ∧ k < w.heap.size := by
      rcases List.mem_append.1 hpm with hm | hm
      · exact h.met.mem p hm
      · have : p = (pv, xs) := by simpa using hm
        subst this
        exact ⟨hp, hpl, hp1, hpf⟩
    obtain ⟨a1, a2, a3, a4⟩ := key
    refine ⟨a1.keeps hk (fun k e => (a4 k e).2.1), a2, a3, fun k e => ?_⟩
    obtain ⟨b1, b2, b3⟩ := a4 k e
    refine ⟨b1, fun e' => ?_, Nat.lt_of_lt_of_le b3 hk.size⟩
    rcases hat k e' with e' | hge
    · exact b2 e'
    · omega
  · intro k e
    rcases hat k e with e' | hge
    · exact h.row k e'
    · exact Nat.le_trans h.base hge

theorem Tidy.left {L : List Nd} {M : List (List Int)} {p : List Int} (h : Tidy L (M ++ [p])) : Tidy L M := ⟨h.len, h.nds, h.row, fun m hm => h.met m (by simp [hm])⟩
theorem Tidy.path {L : List Nd} {M : List (List Int)} (h : Tidy L (M ++ [pathT L])) : pathN (L.map Nd.thread) = pathT L := by
  have := (h.met (pathT L) (by simp)).2
  unfold pathN pathT at *
  rw [List.filter_eq_self]
  intro t ht
  simpa using this t ht
theorem rowShape {w : World} {base e size n : Nat} {v : Value} {xs : List Value} (h : w.ownsRow base e size v n xs) : ∃ ad cap, v = .slice ad n cap ∧ (0 < n → ∃ g, ad = some ⟨g, 0, none⟩) := by
  rcases h.2 with ⟨h1, h2⟩ | ⟨g, cap, cur, hv, _⟩
  · exact ⟨none, 0, by rw [h1, h2], fun h => by omega⟩
  · exact ⟨_, cap, hv, fun _ => ⟨g, rfl⟩⟩

/-- the pure outcome of a step -/
theorem tidy_do {L : List Nd} {M : List (List Int)} (h : Tidy L M) (d i a b : Int) :
    ((doN L d i a b).2 = [] → Tidy (doN L d i a b).2 []) ∧ ((doN L d i a b).2 ≠ [] → (d ≠ 1 ∨ (doN L d i a b).1 = false) → Tidy (doN L d i a b).2 M) ∧
    (d = 1 → (doN L d i a b).1 = true → (doN L d i a b).2 ≠ [] ∧ Tidy (doN L d i a b).2 (M ++ [pathT (doN L d i a b).2]) ∧ pathT (doN L d i a b).2 ∉ M) := by
  refine ⟨fun e => by rw [e]; exact tidy_nil, ?_, ?_⟩
  · unfold doN
    split
    · exact fun _ _ => tidy_open h a b
    · split
      · rename_i d0 d1
        intro _ hh
        rcases hh with hh | hh
        · exact absurd d1 hh
        · rw [(tidy_take h).1 hh]; exact h
      · split
        · exact fun hne _ => tidy_close h hne
        · split
          · exact fun _ _ => tidy_insert h i a
          · exact fun _ _ => h
  · rintro rfl hr
    have e : doN L 1 i a b = ((takeN L).2.1, (takeN L).2.2) := by simp [doN]
    rw [e] at hr ⊢
    refine ⟨?_, (tidy_take h).2 hr⟩
    dsimp only at hr ⊢
    unfold takeN at hr ⊢
    split at hr
    · simp at hr
    · split at hr
      · simp at hr
      · split at hr
        · simp at hr
        · rename_i h1 h2
          rw [if_neg h1, if_neg h2]
          simp
end Go.Proofs.YtjfbiganijldfaaDoor
