/- Layer 7's numbers: in base ten, as the library tells them. -/
import Derived.Test.YtbkkpcignmcjnaaGreatDoorP40
import Derived.Test.YtbkkpcignmcjnaaGreatDoorP22
namespace Go.Proofs.YtbkkpcignmcjnaaGreatDoor
open Go.RowKit
set_option linter.unusedVariables false
set_option linter.unusedSimpArgs false
set_option linter.unnecessarySimpa false

theorem decL_small {u : Nat} (h : u < 10) : decL u = [UInt8.ofNat (48 + u)] := by
  unfold decL
  by_cases h0 : u = 0
  · subst h0; rfl
  · rw [if_neg h0, dig_pos (by decide) h0, show u / 10 = 0 by omega, dig_zero, show u % 10 = u by omega]; rfl
theorem decDigits_decL (u : Nat) : Lib.decDigits u = decL u := by
  induction u using Nat.strongRecOn with
  | _ u ih =>
    by_cases h : u < 10
    · rw [Lib.decDigits, dif_pos h, decL_small h]
    · rw [Lib.decDigits, dif_neg h, ih (u / 10) (by omega), ← decL_step (n := u) (by omega)]
theorem itoa_decL (u : Nat) : Lib.itoa (u : Int) = decL u := by
  unfold Lib.itoa
  rw [if_neg (by omega), Int.toNat_natCast, decDigits_decL]
theorem repeatL_one (x : UInt8) (c : Nat) : Lib.repeatL [x] c = List.replicate c x := by
  induction c with
  | zero => rfl
  | succ c ih => rw [Lib.repeatL, ih]; rfl
theorem decL_len (k r : Nat) (h : r < 10 ^ k) (hk : 0 < k) : (decL r).length ≤ k := (padL_dec k r h hk).2
theorem decL_pos (r : Nat) : 0 < (decL r).length := by
  unfold decL
  split
  · decide
  · rename_i h
    rw [List.length_map, List.length_reverse, dig_pos (by decide) h]
    simp
theorem keeps_below {B : Nat} {w w' : World} (h : Below B w w') : Keeps (fun q => B ≤ q) w w' := ⟨h.os, h.tape, h.output, h.size, fun k _ hn => h.block k (by omega)⟩
theorem below_keeps {w w' : World} (h : Keeps NoBlk w w') : Below w.heap.size w w' := ⟨h.os, h.tape, h.output, h.size, fun k hk => h.block k hk (fun h => h)⟩
/-- the library's table of tens lies -/
def TabP (w : World) : Prop := Lib.TabIs Tryz.prog w "internal/strconv.uint64pow10" .u64 Lib.pow10Tab
theorem TabP.keeps {w w' : World} (h : TabP w) (hk : Below w.heap.size w w') : TabP w' := by
  unfold TabP Lib.TabIs World.var? at *
  cases hg : Tryz.prog.globalNamed "internal/strconv.uint64pow10" with
  | none => rw [hg] at h; cases h
  | some g =>
    rw [hg] at h
    simp only [Option.bind_some] at h ⊢
    cases ho : w.heap[g]? with
    | none => rw [ho] at h; cases h
    | some o =>
      rw [hk.block g (lt_of_block ho), ho]
      rw [ho] at h
      exact h
theorem below_grow' {w : World} {k : Nat} {os : Array Obj} : Below w.heap.size w (Go.Sort.grow (w.drewN k) os) :=
  ⟨rfl, rfl, rfl, by show w.heap.size ≤ (w.heap ++ os).size; rw [Array.size_append]; omega, fun j hj => by
    show (w.heap ++ os)[j]? = w.heap[j]?
    rw [Array.getElem?_append_left hj]⟩
theorem itoa_any (u : Nat) (hu : u < 9000000000000000000) (w : World) (ht : TabP w) : Calls Tryz.prog 35 #[.int .i64 u] w fun e w' => e = .returned (.string ⟨(decL u).toArray⟩) ∧ Below w.heap.size w w' := by
  refine (Tryz.strconv_Itoa u (by omega) (by omega) w ht).mono ?_
  rintro e w' ⟨rfl, k, os, rfl⟩
  exact ⟨by rw [itoa_decL], below_grow'⟩
theorem repeat0_any (c : Nat) (hc : c ≤ 1000) (w : World) : Calls Tryz.prog 36 #[.string ⟨#[48]⟩, .int .i64 c] w fun e w' => e = .returned (.string ⟨(List.replicate c (48 : UInt8)).toArray⟩) ∧ Below w.heap.size w w' := by
  refine (Tryz.strings_Repeat ⟨#[48]⟩ c w (by omega) (by show 1 * c ≤ _; omega)).mono ?_
  rintro e w' ⟨rfl, h⟩
  exact ⟨by rw [← repeatL_one], h⟩
theorem bld_below {T e : TypeId} {B b : Nat} {bs : List Value} {w w' : World} (h : Lib.IsBuilderF T e B b bs w) (hb : Below w.heap.size w w') : Lib.IsBuilderF T e B b bs w' := by
  have key : ∀ p, Lib.BuilderAtF T e B b p bs w → Lib.BuilderAtF T e B b p bs w' := by
    rintro p ⟨h0, v, h1, h2, h3⟩
    exact ⟨h0, v, (hb.block b (lt_of_block h1)).trans h1, h2.kept (row := none) ⟨hb.os, hb.tape, hb.output, hb.size, fun k hk _ => hb.block k hk⟩ (by cases hv : v.ownBlock <;> simp), h3⟩
  exact h.elim (fun x => .inl (key _ x)) (fun x => .inr (key _ x))
end Go.Proofs.YtbkkpcignmcjnaaGreatDoor

/- Layer 7's numbers: String. -/
namespace Go.Proofs.YtbkkpcignmcjnaaGreatDoor
open Go.RowKit
set_option linter.unusedVariables false
set_option linter.unusedSimpArgs false
set_option linter.unnecessarySimpa false

theorem cells_app (l m : List UInt8) : Lib.byteCells l ++ Lib.strCells ⟨m.toArray⟩ = Lib.byteCells (l ++ m) := by
  rw [Lib.strCells_eq]; simp [Lib.byteCells]
set_option maxRecDepth 8000 in
set_option maxHeartbeats 1000000 in
theorem string_any (n : Nat) (w : World) (F : Nat → Prop) (xa : Option Addr) (xc : Nat) (hx : DigAt w F 1000000000 n xa) (hF : ∀ k, F k → k < w.heap.size) (ht : TabP w) (hl : (dig 1000000000 n).length ≤ 10000000000) :
    Calls Tryz.prog 19 #[.slice xa (dig 1000000000 n).length xc] w fun e w' => e = .returned (.string ⟨(decL n).toArray⟩) ∧ Keeps NoBlk w w' := by
  by_cases hn : n = 0
  · subst hn
    rw [dig_zero]
    clear hx hF ht hl
    show Calls _ _ #[.slice xa 0 xc] _ _
    go_enter Tryz.func19, Tryz.ntmps19
    go_wp2_with fail
    go_ret
    exact ⟨rfl, Keeps.refl _ _⟩
  have HX := Lib.hid hx
  have HFs := Lib.hid hF
  have HT := Lib.hid ht
  obtain ⟨K, hK⟩ : ∃ K, K = (dig 1000000000 n).length := ⟨_, rfl⟩
  have HK := Lib.hid hK
  have hK1 : 0 < K := by rw [hK, dig_len_lt (by decide)]; simp; omega
  have hK0 : ¬ (K : Int) = 0 := by omega
  have hK0b : ((K : Int) == 0) = false := by simpa using hK0
  have HZ : Hid (n / 1000000000 ^ K = 0) := by
    have h1 : n < 1000000000 ^ K := Nat.lt_of_not_le fun e => by have := (dig_len_lt (by decide) K n).2 e; omega
    exact Nat.div_eq_of_lt h1
  have HP : Hid (∀ j, j < K → n / 1000000000 ^ j ≠ 0) := fun j hj e => by
    have h1 := (dig_len_lt (b := 1000000000) (by decide) j n).1 (by omega)
    have h2 : 0 < n / 1000000000 ^ j := Nat.div_pos h1 (Nat.pow_pos (by decide))
    omega
  rw [← hK] at hl ⊢
  have HN := Lib.hid hn
  clear hx hF ht hK hn
  go_enter Tryz.func19, Tryz.ntmps19
  go_upto_region 4 with fail
  obtain ⟨b, hb⟩ : ∃ z, z = w.heap.size := ⟨_, rfl⟩
  have hr : (w.alloc (.cells #[.pointer none, .slice none 0 0] 75)).heap[b]? = some (.cells #[.pointer none, .slice none 0 0] 75 (0, 0)) := by rw [hb]; exact heap_alloc_new w _
  have hk1 : Below b w (w.alloc (.cells #[.pointer none, .slice none 0 0] 75)) := (Below.refl b w).alloc (by omega) _
  have hs1 : b < (w.alloc (.cells #[.pointer none, .slice none 0 0] 75)).heap.size := by rw [hb]; simp
  have HB := Lib.hid hb
  rw [← hb]
  generalize w.alloc (.cells #[.pointer none, .slice none 0 0] 75) = w1 at hr hk1 hs1 ⊢
  have B1 : Hid (Lib.IsBuilderF 75 5 b b (Lib.byteCells []) w1) := .inl ⟨Nat.le_refl _, .slice none 0 0, hr, World.ownsRowF_nil _ _ _ _, by simp [Value.ownBlock]⟩
  have K1 := Lib.hid hk1
  clear hr hk1 hs1 hb
  go_upto_region 5 with fail
  go_loopw [4] (fun iv wr => ∃ (j : Nat) (z : Int) (l : List UInt8), j ≤ K ∧ iv = .int .i64 z ∧ z = (j : Int) - 1 ∧ Hid (l = if j = K then [] else decL (n / 1000000000 ^ j)) ∧ Hid (l.length + 9 * j ≤ 9 * K) ∧ Hid (Lib.IsBuilderF 75 5 b b (Lib.byteCells l) wr) ∧ Hid (Below b w wr)) (fun iv _ => (intOf iv + 1).toNat)
  case atStart => exact ⟨K, _, [], Nat.le_refl _, rfl, rfl, by show _ = _; rw [if_pos rfl], by show _ ≤ _; simp, B1, K1⟩
  case round =>
    obtain ⟨j, z, l, hj, rfl, hz, HL, HLL, HBW, HKW⟩ := hrel
    have hsz : Hid (b ≤ wr.heap.size) := by have := HKW.out.size; have := HB.out; show _ ≤ _; omega
    cases j with
    | zero =>
      obtain rfl : z = -1 := by omega
      clear hz
      have hl0 : l = decL n := by
        have h := HL.out
        rw [if_neg (by omega), Nat.pow_zero, Nat.div_one] at h
        exact h
      subst hl0
      clear HL HLL
      go_wp2_with (go_at_call 38; refine (Tryz.Builder_String_any_k b b _ wr HBW.out hsz.out).mono ?_; rintro e w2 ⟨rfl, _, g2, _⟩; have G2 := Lib.hid g2; clear g2)
      go_ret
      exact ⟨rfl, Keeps.ofBelow (by rw [← HB.out]; exact HKW.out.trans G2.out) _⟩
    | succ m =>
      obtain rfl : z = (m : Int) := by omega
      clear hz
      have i0 : (0 : Int) ≤ m := by omega
      have i1 : (m : Int) < K := by omega
      obtain ⟨g, o, e1, hg, c1⟩ := (HX.out.keeps (keeps_below HKW.out) (fun k hk hbk => by have := HFs.out k hk; have := HB.out; have h3 : b ≤ k := hbk; omega)) m (by have := HK.out; omega)
      subst e1
      have hd := digit_lt (b := 1000000000) (by decide) n m
      have HNX : Hid (n / 1000000000 ^ m = n / 1000000000 ^ (m + 1) * 1000000000 + n / 1000000000 ^ m % 1000000000) := by
        show _ = _
        have h1 := Nat.div_add_mod (n / 1000000000 ^ m) 1000000000
        rw [Nat.div_div_eq_div_mul, ← Nat.pow_succ] at h1
        rw [Nat.mul_comm (n / 1000000000 ^ (m + 1))]
        exact h1.symm
      have hn0 := HP.out m (by omega)
      have HT1 : Hid (TabP wr) := HT.out.keeps (by rw [← HB.out]; exact HKW.out)
      generalize n / 1000000000 ^ m % 1000000000 = d at c1 hd HNX
      have hdl := decL_len 9 d (by omega) (by decide)
      obtain ⟨ln, hln⟩ : ∃ ln, ln = (decL d).length := ⟨_, rfl⟩
      rw [← hln] at hdl
      obtain ⟨c, hc⟩ : ∃ c : Nat, c = 9 - ln := ⟨_, rfl⟩
      have hci : (9 : Int) - (ln : Int) = (c : Int) := by omega
      have hsl : (⟨(decL d).toArray⟩ : ByteArray).size = ln := by rw [hln]; simp [ByteArray.size]
      obtain ⟨s, hs⟩ : ∃ s : ByteArray, s = ⟨(decL d).toArray⟩ := ⟨_, rfl⟩
      rw [← hs] at hsl
      have hsl2 : s.toList.length = ln := by rw [← hsl, ByteArray.toList_eq]; exact Array.length_toList
      have hsl3 : s.data.size = ln := hsl
      have HIT : Hid (Calls Tryz.prog 35 #[.int .i64 d] wr fun e w' => e = .returned (.string s) ∧ Below wr.heap.size wr w') := by rw [hs]; exact itoa_any d (by omega) wr HT1.out
      have HLN : Hid (ln = (decL d).length ∧ c = 9 - ln ∧ s = ⟨(decL d).toArray⟩) := ⟨hln, hc, hs⟩
      clear hg hln hs hc
      rcases (show m + 1 = K ∨ m + 1 < K by omega) with hm | hm
      · have i2 : ¬ (m : Int) < (K : Int) - 1 := by omega
        have hl0 : l = [] := by have h := HL.out; rw [if_pos hm] at h; exact h
        subst hl0
        have HNEW : Hid (n / 1000000000 ^ m = d) := by
          have h1 := HNX.out
          rw [hm, HZ.out] at h1
          show _ = _
          omega
        clear HL
        have hlt0 := HLL.out
        go_upto_region 8 with (go_at_call 35; refine HIT.out.mono ?_; rintro e w2 ⟨rfl, g2⟩; have BW2 := Lib.hid (bld_below HBW.out g2); have hs2 : b ≤ w2.heap.size := (by have := g2.size; have := hsz.out; omega); have G2 : Hid (Below b w w2) := HKW.out.trans (Below.mono g2 hsz.out); clear g2)
        go_wp2_with (go_at_call 37; refine (Tryz.Builder_WriteString_k b b _ s w2 BW2.out (by rw [Lib.byteCells_length, hsl, List.length_nil]; omega) hs2).mono ?_; rintro e w3 ⟨rfl, b3, g3, _⟩; have B3 := Lib.hid b3; have G3 : Hid (Below b w w3) := G2.out.trans g3; clear b3 g3)
        go_roundw
        case rel =>
          refine ⟨m, _, decL d, by omega, rfl, by omega, ?_, ?_, ?_, G3.out⟩
          · show _ = _
            rw [if_neg (by omega), HNEW.out]
          · show _ ≤ _
            rw [← HLN.out.1]; omega
          · have h := B3.out
            rw [HLN.out.2.2, cells_app, List.nil_append] at h
            exact .inr h
        case measure => (try simp [intOf]) <;> (try omega)
      · have i2 : (m : Int) < (K : Int) - 1 := by omega
        have hl0 : l = decL (n / 1000000000 ^ (m + 1)) := by have h := HL.out; rw [if_neg (by omega)] at h; exact h
        have hq0 := HP.out (m + 1) hm
        have HNEW : Hid (decL (n / 1000000000 ^ m) = l ++ (List.replicate c 48 ++ decL d)) := by
          show _ = _
          have h1 := decL_pad 9 (n / 1000000000 ^ (m + 1)) d hq0 (by omega)
          have h2 := (padL_dec 9 d (by omega) (by decide)).1
          rw [← HLN.out.1, ← HLN.out.2.1] at h2
          rw [HNX.out, hl0, ← h2, ← h1]
        clear HL hl0 hq0
        have hlt0 := HLL.out
        have HRE : Hid (∀ W, Calls Tryz.prog 36 #[.string ⟨#[48]⟩, .int .i64 c] W fun e w' => e = .returned (.string ⟨(List.replicate c (48 : UInt8)).toArray⟩) ∧ Below W.heap.size W w') := fun W => repeat0_any c (by have := HLN.out; omega) W
        go_upto_region 9 with (go_at_call 35; refine HIT.out.mono ?_; rintro e w2 ⟨rfl, g2⟩; have BW2 := Lib.hid (bld_below HBW.out g2); have hs2 : b ≤ w2.heap.size := (by have := g2.size; have := hsz.out; omega); have G2 : Hid (Below b w w2) := HKW.out.trans (Below.mono g2 hsz.out); clear g2)
        go_upto_region 10 with (go_at_call 36; refine (HRE.out w2).mono ?_; rintro e w3 ⟨rfl, g3⟩; have BW3 := Lib.hid (bld_below BW2.out g3); have hs3 : b ≤ w3.heap.size := (by have := g3.size; omega); have G3 : Hid (Below b w w3) := G2.out.trans (Below.mono g3 hs2); clear g3)
        obtain ⟨s2, hs2'⟩ : ∃ s2 : ByteArray, s2 = ({ data := Array.replicate c 48 } ++ s) := ⟨_, rfl⟩
        have HS2 : Hid (s2 = ⟨(List.replicate c 48 ++ decL d).toArray⟩) := by
          show _ = _
          rw [hs2', HLN.out.2.2]
          apply ByteArray.ext
          rw [ByteArray.data_append]
          simp
        have hz2 : s2.size ≤ 9 := by rw [HS2.out]; simp only [ByteArray.size, List.size_toArray, List.length_append, List.length_replicate]; rw [← HLN.out.1, HLN.out.2.1]; omega
        rw [← hs2']
        clear hs2' HNX
        go_wp2_with (go_at_call 37; refine (Tryz.Builder_WriteString_k b b _ s2 w3 BW3.out (by rw [Lib.byteCells_length]; omega) hs3).mono ?_; rintro e w4 ⟨rfl, b4, g4, _⟩; have B4 := Lib.hid b4; have G4 : Hid (Below b w w4) := G3.out.trans g4; clear b4 g4)
        go_roundw
        case rel =>
          refine ⟨m, _, l ++ (List.replicate c 48 ++ decL d), by omega, rfl, by omega, ?_, ?_, ?_, G4.out⟩
          · show _ = _
            rw [if_neg (by omega), HNEW.out]
          · show _ ≤ _
            rw [List.length_append, List.length_append, List.length_replicate, ← HLN.out.1]; have := HLN.out.2.1; omega
          · have h := B4.out
            rw [HS2.out, cells_app] at h
            exact .inr h
        case measure => (try simp [intOf]) <;> (try omega)
end Go.Proofs.YtbkkpcignmcjnaaGreatDoor
