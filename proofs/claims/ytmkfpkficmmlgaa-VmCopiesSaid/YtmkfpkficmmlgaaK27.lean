/- asm: Right: the law's side, and how an image is read. -/
import Derived.Test.YtmkfpkficmmlgaaK26
namespace Go.Proofs.Ytmkfpkficmmlgaa
open Go.RowKit
set_option linter.unusedVariables false
set_option linter.unusedSimpArgs false
set_option linter.unnecessarySimpa false

/-- threads of an image that can be read -/
def ThrR (w : World) (v : Value) (cs : List Cod) : Prop :=
  ∃ ad cap, v = .slice ad cs.length cap ∧ ∀ i, i < cs.length → ∃ g o u, ad = some ⟨g, o, none⟩ ∧ w.cell? ⟨g, o + i * 2, none⟩ = some (.int .i64 (cs.getD i ⟨0, []⟩).regs) ∧ w.cell? ⟨g, o + i * 2 + 1, none⟩ = some u ∧ SrcAt w u (cs.getD i ⟨0, []⟩).ins.length (insCells (cs.getD i ⟨0, []⟩).ins)
theorem ThrR.keeps0 {w w' : World} {v : Value} {l : List Cod} (h : ThrR w v l) (hk : Keeps NoBlk w w') : ThrR w' v l := by
  obtain ⟨ad, cap, e, h1⟩ := h
  refine ⟨ad, cap, e, fun i hi => ?_⟩
  obtain ⟨g, o, u, e1, c0, c1, h3⟩ := h1 i hi
  exact ⟨g, o, u, e1, hk.cell (p := ⟨g, _, none⟩) (fun h => h) c0, hk.cell (p := ⟨g, _, none⟩) (fun h => h) c1, h3.keeps0 hk⟩
theorem ThrAt.read {w : World} {T : Tags} {v : Value} {l : List Cod} (h : ThrAt w T v l) : ThrR w v l := by
  obtain ⟨ad, cap, e, h1⟩ := h
  refine ⟨ad, cap, e, fun i hi => ?_⟩
  obtain ⟨g, o, u, e1, _, c0, c1, h3⟩ := h1 i hi
  exact ⟨g, o, u, e1, c0, c1, h3.src⟩
/-- an image that can be read -/
structure ImgR (w : World) (cv tv : Value) (x : Img) : Prop where
  cells : SrcAt w cv x.cells.length (ints x.cells)
  thr : ThrR w tv x.threads
def imgV (cv tv : Value) (x : Img) : Value := .agg #[cv, .int .i64 x.mutexes, tv]
theorem ImgR.keeps0 {w w' : World} {cv tv : Value} {x : Img} (h : ImgR w cv tv x) (hk : Keeps NoBlk w w') : ImgR w' cv tv x := ⟨h.cells.keeps0 hk, h.thr.keeps0 hk⟩

theorem right_true {x : Img} (h1 : 1 ≤ x.threads.length) (h2 : x.threads.length ≤ 8) (h3 : x.cells.length ≤ 8) (h4 : 0 ≤ x.mutexes) (h5 : x.mutexes ≤ 8) (h6 : ∀ j, j < x.cells.length → numN' (x.cells.getD j 0) = true) (h7 : ∀ i, i < x.threads.length → codN x (x.cod i) = true) : rightN x = true := by
  have a : x.cells.all numN' = true := by
    rw [List.all_eq_true]
    intro c hc
    obtain ⟨j, hj, e⟩ := List.mem_iff_getElem.1 hc
    have := h6 j hj
    rw [← e]
    simpa [List.getD, hj] using this
  have b : x.threads.all (codN x) = true := by
    rw [List.all_eq_true]
    intro c hc
    obtain ⟨j, hj, e⟩ := List.mem_iff_getElem.1 hc
    have := h7 j hj
    rw [← e]
    simpa [Img.cod, List.getD, hj] using this
  simp [rightN, h1, h2, h3, h4, h5, a, b]
theorem right_false {x : Img} (h : ¬ (1 ≤ x.threads.length ∧ x.threads.length ≤ 8 ∧ x.cells.length ≤ 8 ∧ 0 ≤ x.mutexes ∧ x.mutexes ≤ 8)) : rightN x = false := by
  cases e : rightN x with
  | false => rfl
  | true => have hp := right_parts e; exact absurd ⟨hp.1.1, hp.1.2, hp.2.1, hp.2.2.1⟩ h
theorem right_cell {x : Img} {j : Nat} (hj : j < x.cells.length) (h : numN' (x.cells.getD j 0) = false) : rightN x = false := by
  cases e : rightN x with
  | false => rfl
  | true =>
    have hp := (right_parts e).2.2.2.1 (x.cells[j]) (List.getElem_mem hj)
    simp [List.getD, hj] at h
    rw [hp] at h; cases h
theorem right_thr {x : Img} {i : Nat} (hi : i < x.threads.length) (h : codN x (x.cod i) = false) : rightN x = false := by
  cases e : rightN x with
  | false => rfl
  | true => rw [right_cod e hi] at h; cases h
theorem cod_true {x : Img} {c : Cod} (h1 : 0 ≤ c.regs) (h2 : c.regs ≤ 64) (h3 : 1 ≤ c.ins.length) (h4 : c.ins.length ≤ 4000) (h5 : lastOp c = 29 ∨ lastOp c = 18) (h6 : ∀ j, j < c.ins.length → insN x c (c.at j) = true) : codN x c = true := by
  have a : c.ins.all (insN x c) = true := by
    rw [List.all_eq_true]
    intro n hn
    obtain ⟨j, hj, e⟩ := List.mem_iff_getElem.1 hn
    have := h6 j hj
    rw [← e]
    simpa [Cod.at, List.getD, hj] using this
  simp [codN, h1, h2, h3, h4, h5, a]
theorem cod_false {x : Img} {c : Cod} (h : ¬ (0 ≤ c.regs ∧ c.regs ≤ 64 ∧ 1 ≤ c.ins.length ∧ c.ins.length ≤ 4000 ∧ (lastOp c = 29 ∨ lastOp c = 18))) : codN x c = false := by
  cases e : codN x c with
  | false => rfl
  | true => have hp := codN_parts e; exact absurd ⟨hp.1.1, hp.1.2, hp.2.1.1, hp.2.1.2, hp.2.2.1⟩ h
theorem cod_ins {x : Img} {c : Cod} {j : Nat} (hj : j < c.ins.length) (h : insN x c (c.at j) = false) : codN x c = false := by
  cases e : codN x c with
  | false => rfl
  | true => rw [(codN_parts e).2.2.2 _ (c.at_mem j hj)] at h; cases h
/-- the instructions, one by one -/
theorem SrcAt.inss {w : World} {v : Value} {l : List Ins} (h : SrcAt w v l.length (insCells l)) : ∃ ad cap, v = .slice ad l.length cap ∧ ∀ k, k < l.length → ∃ g o, ad = some ⟨g, o, none⟩ ∧ w.cell? ⟨g, o + k * 4, none⟩ = some (.int .i64 (l.getD k Ins.zero).op) ∧ w.cell? ⟨g, o + k * 4 + 1, none⟩ = some (.int .i64 (l.getD k Ins.zero).a) ∧ w.cell? ⟨g, o + k * 4 + 2, none⟩ = some (.int .i64 (l.getD k Ins.zero).b) ∧ w.cell? ⟨g, o + k * 4 + 3, none⟩ = some (.int .i64 (l.getD k Ins.zero).c) := by
  obtain ⟨ad, cap, e, h1⟩ := h
  refine ⟨ad, cap, e, fun k hk => ?_⟩
  obtain ⟨g, o, e1, h2⟩ := h1 (by omega)
  have key : ∀ r, r < 4 → w.cell? ⟨g, o + k * 4 + r, none⟩ = (insC (l.getD k Ins.zero))[r]? := fun r hr => by
    have e1 : (insCells l)[k * 4 + r]? = (insC (l.getD k Ins.zero))[r]? := by
      unfold insCells
      rw [get_cells insC 4 (fun _ => rfl) l k r hr, List.getElem?_eq_getElem hk]
      simp [List.getD, hk]
    have e2 : (insC (l.getD k Ins.zero))[r]? = some ((insC (l.getD k Ins.zero))[r]'(by show r < 4; exact hr)) := List.getElem?_eq_getElem _
    rw [e2] at e1 ⊢
    rw [Nat.add_assoc]
    exact h2 _ _ e1
  exact ⟨g, o, e1, key 0 (by decide), key 1 (by decide), key 2 (by decide), key 3 (by decide)⟩
end Go.Proofs.Ytmkfpkficmmlgaa

/- asm: Right. -/
namespace Go.Proofs.Ytmkfpkficmmlgaa
open Go.RowKit
set_option linter.unusedVariables false
set_option linter.unusedSimpArgs false
set_option linter.unnecessarySimpa false

set_option maxRecDepth 8000 in
set_option maxHeartbeats 4000000 in
theorem asmRight_any (w : World) (cv tv : Value) (x : Img) (h : ImgR w cv tv x) :
    Calls Try.prog 20 #[imgV cv tv x] w fun e w' => e = .returned (.bool (rightN x)) ∧ Keeps NoBlk w w' := by
  have HI := Lib.hid h
  obtain ⟨ca, cc, rfl, _⟩ := h.cells.ints
  obtain ⟨ta, tc, rfl, _⟩ := h.thr
  unfold imgV
  obtain ⟨nc, hnc⟩ : ∃ n, n = x.cells.length := ⟨_, rfl⟩
  obtain ⟨nt, hnt⟩ : ∃ n, n = x.threads.length := ⟨_, rfl⟩
  obtain ⟨mu, hmu⟩ : ∃ n, n = x.mutexes := ⟨_, rfl⟩
  have HE : Hid (nc = x.cells.length ∧ nt = x.threads.length ∧ mu = x.mutexes) := ⟨hnc, hnt, hmu⟩
  have HFT : Hid (∀ W rg ia ni ic op a b c (c' : Cod) (i' : Ins), rg = c'.regs → ni = c'.ins.length → op = i'.op → a = i'.a → b = i'.b → c = i'.c → Calls Try.prog 43 #[.agg #[.slice ca nc cc, .int .i64 mu, .slice ta nt tc], .agg #[.int .i64 rg, .slice ia ni ic], .agg #[.int .i64 op, .int .i64 a, .int .i64 b, .int .i64 c]] W fun e w' => e = .returned (.bool (insN x c' i')) ∧ Keeps NoBlk W w') := by
    rintro W rg ia ni ic op a b c c' i' rfl rfl rfl rfl rfl rfl
    rw [hnc, hnt, hmu]
    exact fits_any W ca ta ia cc tc ic x c' i'
  rw [← hnc, ← hnt] at HI
  rw [← hnc, ← hnt, ← hmu]
  obtain ⟨R, hR⟩ : ∃ R, R = rightN x := ⟨_, rfl⟩
  rw [← hR]
  have HR : Hid (R = rightN x) := hR
  have HBAD : Hid (¬ (1 ≤ nt ∧ nt ≤ 8 ∧ nc ≤ 8 ∧ 0 ≤ mu ∧ mu ≤ 8) → R = false) := fun h => by rw [hR]; rw [hnc, hnt, hmu] at h; exact right_false h
  clear h hnc hnt hmu hR
  by_cases h0 : nt < 1
  · have q0 : decide ((nt : Int) < 1) = true := decide_eq_true (by omega)
    have HB : Hid (R = false) := HBAD.out (by omega)
    clear h0
    clear HBAD
    go_enter Try.func20, Try.ntmps20
    go_wp2_with fail
    go_ret
    exact ⟨congrArg (fun b => Ending.returned (.bool b)) HB.out.symm, (Keeps.refl _ _).alloc _⟩
  by_cases h1 : 8 < nt
  · have q0 : decide ((nt : Int) < 1) = false := decide_eq_false (by omega)
    have q1 : decide ((8 : Int) < nt) = true := decide_eq_true (by omega)
    have HB : Hid (R = false) := HBAD.out (by omega)
    clear h0 h1
    clear HBAD
    go_enter Try.func20, Try.ntmps20
    go_wp2_with fail
    go_ret
    exact ⟨congrArg (fun b => Ending.returned (.bool b)) HB.out.symm, (Keeps.refl _ _).alloc _⟩
  by_cases h2 : 8 < nc
  · have q0 : decide ((nt : Int) < 1) = false := decide_eq_false (by omega)
    have q1 : decide ((8 : Int) < nt) = false := decide_eq_false (by omega)
    have q2 : decide ((8 : Int) < nc) = true := decide_eq_true (by omega)
    have HB : Hid (R = false) := HBAD.out (by omega)
    clear h0 h1 h2
    clear HBAD
    go_enter Try.func20, Try.ntmps20
    go_wp2_with fail
    go_ret
    exact ⟨congrArg (fun b => Ending.returned (.bool b)) HB.out.symm, (Keeps.refl _ _).alloc _⟩
  by_cases h3 : mu < 0
  · have q0 : decide ((nt : Int) < 1) = false := decide_eq_false (by omega)
    have q1 : decide ((8 : Int) < nt) = false := decide_eq_false (by omega)
    have q2 : decide ((8 : Int) < nc) = false := decide_eq_false (by omega)
    have q3 : decide (mu < 0) = true := decide_eq_true (by omega)
    have HB : Hid (R = false) := HBAD.out (by omega)
    clear h0 h1 h2 h3
    clear HBAD
    go_enter Try.func20, Try.ntmps20
    go_wp2_with fail
    go_ret
    exact ⟨congrArg (fun b => Ending.returned (.bool b)) HB.out.symm, (Keeps.refl _ _).alloc _⟩
  by_cases h4 : 8 < mu
  · have q0 : decide ((nt : Int) < 1) = false := decide_eq_false (by omega)
    have q1 : decide ((8 : Int) < nt) = false := decide_eq_false (by omega)
    have q2 : decide ((8 : Int) < nc) = false := decide_eq_false (by omega)
    have q3 : decide (mu < 0) = false := decide_eq_false (by omega)
    have q4 : decide (8 < mu) = true := decide_eq_true (by omega)
    have HB : Hid (R = false) := HBAD.out (by omega)
    clear h0 h1 h2 h3 h4
    clear HBAD
    go_enter Try.func20, Try.ntmps20
    go_wp2_with fail
    go_ret
    exact ⟨congrArg (fun b => Ending.returned (.bool b)) HB.out.symm, (Keeps.refl _ _).alloc _⟩
  have q0 : decide ((nt : Int) < 1) = false := decide_eq_false (by omega)
  have q1 : decide ((8 : Int) < nt) = false := decide_eq_false (by omega)
  have q2 : decide ((8 : Int) < nc) = false := decide_eq_false (by omega)
  have q3 : decide (mu < 0) = false := decide_eq_false (by omega)
  have q4 : decide (8 < mu) = false := decide_eq_false (by omega)
  have n1 : 1 ≤ nt := by omega
  have n2 : nt ≤ 8 := by omega
  have n3 : nc ≤ 8 := by omega
  have HOK : Hid ((∀ j, j < nc → numN' (x.cells.getD j 0) = true) → (∀ i, i < nt → codN x (x.cod i) = true) → R = true) := fun a b => by
    obtain ⟨e1, e2, e3⟩ := HE.out
    rw [HR.out]
    exact right_true (by omega) (by omega) (by omega) (by omega) (by omega) (by rw [← e1]; exact a) (by rw [← e2]; exact b)
  have HBC : Hid (∀ j, j < nc → numN' (x.cells.getD j 0) = false → R = false) := fun j hj h => by rw [HR.out]; exact right_cell (by rw [← HE.out.1]; exact hj) h
  have HBT : Hid (∀ j, j < nt → codN x (x.cod j) = false → R = false) := fun j hj h => by rw [HR.out]; exact right_thr (by rw [← HE.out.2.1]; exact hj) h
  clear h0 h1 h2 h3 h4 HBAD
  go_enter Try.func20, Try.ntmps20
  go_upto_region 3 with fail
  obtain ⟨bi, hbi⟩ : ∃ z, z = w.heap.size := ⟨_, rfl⟩
  have hrow : RowAt (w.alloc (.cells #[.slice ca nc cc, .int .i64 mu, .slice ta nt tc] 25)) bi [.slice ca nc cc, .int .i64 mu, .slice ta nt tc] := by rw [hbi]; exact RowAt.ofBlock (heap_alloc_new w _)
  have hk0 : Keeps NoBlk w (w.alloc (.cells #[.slice ca nc cc, .int .i64 mu, .slice ta nt tc] 25)) := (Keeps.refl _ _).alloc _
  rw [← hbi]
  generalize w.alloc (.cells #[.slice ca nc cc, .int .i64 mu, .slice ta nt tc] 25) = w0 at hrow hk0 ⊢
  have HROW := Lib.hid hrow
  have HK0 := Lib.hid hk0
  have z0 := hrow.cell (k := 0) (v := .slice ca nc cc) rfl
  clear hrow hk0 hbi
  go_wp2_with fail
  go_loopw [40] (fun kv wr => ∃ k : Nat, k ≤ nc ∧ kv = .int .i64 k ∧ Hid (∀ j, j < k → numN' (x.cells.getD j 0) = true) ∧ Hid (Keeps NoBlk w0 wr)) (fun kv _ => nc - (intOf kv).toNat)
  case atStart => exact ⟨0, Nat.zero_le _, rfl, fun j hj => absurd hj (Nat.not_lt_zero _), Keeps.refl _ _⟩
  case round =>
    obtain ⟨k, hk, rfl, hag, hkp⟩ := hrel
    have HKW : Hid (Keeps NoBlk w wr) := HK0.out.trans0 hkp.out
    by_cases hlt : k < nc
    · have i1 : (0 : Int) ≤ k := by omega
      have i2 : (k : Int) < nc := by omega
      obtain ⟨ad, cap, e1, f1⟩ := (HI.out.keeps0 HKW.out).cells.ints
      obtain ⟨g, o, e2, c0⟩ := f1 k (by rw [← HE.out.1]; exact hlt)
      have HN2 : Hid (numN' (x.cells.getD k 0) = true → ∀ j, j < k + 1 → numN' (x.cells.getD j 0) = true) := fun h j hj => by
        by_cases e : j = k
        · subst e; exact h
        · exact hag.out j (by omega)
      have HB2 : Hid (numN' (x.cells.getD k 0) = false → R = false) := fun h => HBC.out k hlt h
      cases e1
      subst e2
      generalize x.cells.getD k 0 = num at c0 HN2 HB2
      clear f1 hag hk
      by_cases hv : numN' num = true
      · have HN3 := Lib.hid (HN2.out hv)
        have HNI : Hid (Calls Try.prog 42 #[.int .i64 num] wr fun e w' => e = .returned (.bool true) ∧ Keeps NoBlk wr w') := by
          have := numberIs_any wr num
          rw [hv] at this
          exact this
        clear HN2 HB2 hv
        go_wp2_with (go_at_call 42; refine HNI.out.mono ?_; rintro e w1 ⟨rfl, g1⟩; have G1 := Lib.hid g1; clear g1)
        exact ⟨⟨k + 1, by omega, by go_num, HN3.out, hkp.out.trans0 G1.out⟩, by simp [intOf]; omega⟩
      · have hv : numN' num = false := by simpa using hv
        have HB : Hid (R = false) := HB2.out hv
        have HNI : Hid (Calls Try.prog 42 #[.int .i64 num] wr fun e w' => e = .returned (.bool false) ∧ Keeps NoBlk wr w') := by
          have := numberIs_any wr num
          rw [hv] at this
          exact this
        clear HN2 HB2 hv
        go_wp2_with (go_at_call 42; refine HNI.out.mono ?_; rintro e w1 ⟨rfl, g1⟩; have G1 := Lib.hid g1; clear g1)
        go_ret
        exact ⟨congrArg (fun b => Ending.returned (.bool b)) HB.out.symm, HKW.out.trans0 G1.out⟩
    · have hkn : nc = k := by omega
      subst hkn
      have HCELLS := hag
      have z2 := (HROW.out.keeps hkp.out (fun h => h)).cell (k := 2) (v := .slice ta nt tc) rfl
      have HKP : Hid (Keeps NoBlk w wr) := HKW
      have HR0 : Hid (RowAt wr bi [.slice ca nc cc, .int .i64 mu, .slice ta nt tc]) := HROW.out.keeps hkp.out (fun h => h)
      clear hlt hk hag z0 HKW HROW
      go_wp2_with fail
      go_loopw [51] (fun kv w2 => ∃ i : Nat, i ≤ nt ∧ kv = .int .i64 i ∧ Hid (∀ j, j < i → codN x (x.cod j) = true) ∧ Hid (Keeps NoBlk wr w2)) (fun kv _ => nt - (intOf kv).toNat)
      case atStart => exact ⟨0, Nat.zero_le _, rfl, fun j hj => absurd hj (Nat.not_lt_zero _), Keeps.refl _ _⟩
      case round =>
        obtain ⟨i, hi, rfl, hag, hkp2⟩ := hrel
        have HKW : Hid (Keeps NoBlk w wr) := HKP.out.trans0 hkp2.out
        by_cases hlt : i < nt
        · have i1 : (0 : Int) ≤ i := by omega
          have i2 : (i : Int) < nt := by omega
          obtain ⟨ad, cap, e1, f1⟩ := (HI.out.keeps0 HKW.out).thr
          obtain ⟨g, o, u, e2, c0, c1, hsrc⟩ := f1 i (by rw [← HE.out.2.1]; exact hlt)
          cases e1
          subst e2
          obtain ⟨c, hc⟩ : ∃ c, c = x.threads.getD i ⟨0, []⟩ := ⟨_, rfl⟩
          have hc' : x.cod i = c := hc.symm
          rw [← hc] at c0 hsrc
          have HN2 : Hid (codN x c = true → ∀ j, j < i + 1 → codN x (x.cod j) = true) := fun h j hj => by
            by_cases e : j = i
            · subst e; rw [hc']; exact h
            · exact hag.out j (by omega)
          have HB2 : Hid (codN x c = false → R = false) := fun h => HBT.out i hlt (by rw [hc']; exact h)
          have HSRC := Lib.hid hsrc
          obtain ⟨ia, ic, rfl, fi⟩ := hsrc.inss
          have FI := Lib.hid fi
          obtain ⟨rg, hrg⟩ : ∃ q, q = c.regs := ⟨_, rfl⟩
          obtain ⟨ni, hni⟩ : ∃ q, q = c.ins.length := ⟨_, rfl⟩
          have HRG : Hid (rg = c.regs) := hrg
          have HNI : Hid (ni = c.ins.length) := hni
          rw [← hrg] at c0
          rw [← hni] at c1 HSRC
          clear f1 hag hi hc hc' hsrc fi hrg hni
          by_cases h0 : rg < 0
          · have p0 : decide (rg < 0) = true := decide_eq_true (by omega)
            have HB : Hid (R = false) := HB2.out (cod_false (by have e1 := HRG.out; have e2 := HNI.out; omega))
            clear h0 HN2 HB2 HSRC FI
            go_wp2_with fail
            go_ret
            exact ⟨congrArg (fun b => Ending.returned (.bool b)) HB.out.symm, HKW.out.alloc _⟩
          by_cases h1 : 64 < rg
          · have p0 : decide (rg < 0) = false := decide_eq_false (by omega)
            have p1 : decide (64 < rg) = true := decide_eq_true (by omega)
            have HB : Hid (R = false) := HB2.out (cod_false (by have e1 := HRG.out; have e2 := HNI.out; omega))
            clear h0 h1 HN2 HB2 HSRC FI
            go_wp2_with fail
            go_ret
            exact ⟨congrArg (fun b => Ending.returned (.bool b)) HB.out.symm, HKW.out.alloc _⟩
          by_cases h2 : ni < 1
          · have p0 : decide (rg < 0) = false := decide_eq_false (by omega)
            have p1 : decide (64 < rg) = false := decide_eq_false (by omega)
            have p2 : decide ((ni : Int) < 1) = true := decide_eq_true (by omega)
            have HB : Hid (R = false) := HB2.out (cod_false (by have e1 := HRG.out; have e2 := HNI.out; omega))
            clear h0 h1 h2 HN2 HB2 HSRC FI
            go_wp2_with fail
            go_ret
            exact ⟨congrArg (fun b => Ending.returned (.bool b)) HB.out.symm, HKW.out.alloc _⟩
          by_cases h3 : 4000 < ni
          · have p0 : decide (rg < 0) = false := decide_eq_false (by omega)
            have p1 : decide (64 < rg) = false := decide_eq_false (by omega)
            have p2 : decide ((ni : Int) < 1) = false := decide_eq_false (by omega)
            have p3 : decide ((4000 : Int) < ni) = true := decide_eq_true (by omega)
            have HB : Hid (R = false) := HB2.out (cod_false (by have e1 := HRG.out; have e2 := HNI.out; omega))
            clear h0 h1 h2 h3 HN2 HB2 HSRC FI
            go_wp2_with fail
            go_ret
            exact ⟨congrArg (fun b => Ending.returned (.bool b)) HB.out.symm, HKW.out.alloc _⟩
          have p0 : decide (rg < 0) = false := decide_eq_false (by omega)
          have p1 : decide (64 < rg) = false := decide_eq_false (by omega)
          have p2 : decide ((ni : Int) < 1) = false := decide_eq_false (by omega)
          have p3 : decide ((4000 : Int) < ni) = false := decide_eq_false (by omega)
          obtain ⟨m, rfl⟩ : ∃ m, ni = m + 1 := ⟨ni - 1, by omega⟩
          obtain ⟨g1, o1, rfl, d0, _, _, _⟩ := FI.out m (by have e2 := HNI.out; omega)
          obtain ⟨lo, hlo⟩ : ∃ q, q = (c.ins.getD m Ins.zero).op := ⟨_, rfl⟩
          rw [← hlo] at d0
          have HLO : Hid (lo = lastOp c) := by show _ = _; rw [hlo]; unfold lastOp Cod.at; rw [← HNI.out]; rfl
          have lg1 : g1 < wr.heap.size := World.block_lt_of_cell? wr _ d0
          have ng1 : g1 ≠ wr.heap.size := by omega
          have m1 : (0 : Int) ≤ m := by omega
          have m2 : (m : Int) ≤ 3999 := by omega
          by_cases hl : lo ≠ 29 ∧ lo ≠ 18
          · have e29 : (lo != 29) = true := bne_iff_ne.2 hl.1
            have e18 : (lo != 18) = true := bne_iff_ne.2 hl.2
            have HB : Hid (R = false) := HB2.out (cod_false (by have e1 := HLO.out; omega))
            clear h0 h1 h2 h3 HN2 HB2 HSRC FI hl hlo
            go_wp2_with fail
            go_ret
            exact ⟨congrArg (fun b => Ending.returned (.bool b)) HB.out.symm, HKW.out.alloc _⟩
          have HCT : Hid ((∀ j, j < m + 1 → insN x c (c.at j) = true) → codN x c = true) := fun h => by
            have e1 := HRG.out; have e2 := HNI.out; have e3 := HLO.out
            exact cod_true (by omega) (by omega) (by omega) (by omega) (by omega) (by rw [← e2]; exact h)
          have HCF : Hid (∀ j, j < m + 1 → insN x c (c.at j) = false → R = false) := fun j hj h => HB2.out (cod_ins (by rw [← HNI.out]; exact hj) h)
          have hl2 : lo = 29 ∨ lo = 18 := by omega
          have hmm : m < 4000 := by omega
          clear h0 h1 h2 h3 hlo hl HB2
          rcases hl2 with rfl | rfl
          all_goals (
            go_upto_region 18 with fail
            obtain ⟨b6, hb6⟩ : ∃ z, z = wr.heap.size := ⟨_, rfl⟩
            have hr6 : RowAt (wr.alloc (.cells #[.int .i64 rg, .slice (some ⟨g1, o1, none⟩) (m + 1) ic] 51)) b6 [.int .i64 rg, .slice (some ⟨g1, o1, none⟩) (m + 1) ic] := by rw [hb6]; exact RowAt.ofBlock (heap_alloc_new wr _)
            have hri : RowAt (wr.alloc (.cells #[.int .i64 rg, .slice (some ⟨g1, o1, none⟩) (m + 1) ic] 51)) bi [.slice ca nc cc, .int .i64 mu, .slice (some ⟨g, o, none⟩) x.threads.length tc] := (HR0.out.keeps hkp2.out (fun h => h)).alloc _
            have hkI : Keeps NoBlk wr (wr.alloc (.cells #[.int .i64 rg, .slice (some ⟨g1, o1, none⟩) (m + 1) ic] 51)) := (Keeps.refl _ _).alloc _
            rw [← hb6]
            generalize wr.alloc (.cells #[.int .i64 rg, .slice (some ⟨g1, o1, none⟩) (m + 1) ic] 51) = wI at hr6 hri hkI ⊢
            have R6 := Lib.hid hr6
            have RI := Lib.hid hri
            have KI := Lib.hid hkI
            have y1 := hr6.cell (k := 1) (v := .slice (some ⟨g1, o1, none⟩) (m + 1) ic) rfl
            clear hr6 hri hkI hb6 d0 c0 c1 lg1 ng1
            go_wp2_with fail
            go_loopw [90] (fun kv w3 => ∃ j : Nat, j ≤ m + 1 ∧ kv = .int .i64 j ∧ Hid (∀ q, q < j → insN x c (c.at q) = true) ∧ Hid (Keeps NoBlk wI w3)) (fun kv _ => m + 1 - (intOf kv).toNat)
            case atStart => exact ⟨0, Nat.zero_le _, rfl, fun j hj => absurd hj (Nat.not_lt_zero _), Keeps.refl _ _⟩
            case round =>
              obtain ⟨j, hj, rfl, hag, hkp3⟩ := hrel
              by_cases hjl : j < m + 1
              · have j1 : (0 : Int) ≤ j := by omega
                have j2 : (j : Int) < (m : Int) + 1 := by omega
                have j2' : (j : Int) < ((m + 1 : Nat) : Int) := by omega
                have KA : Hid (Keeps NoBlk _ wr) := KI.out.trans0 hkp3.out
                obtain ⟨g', o', e', a0, a1, a2, a3⟩ := FI.out j (by rw [← HNI.out]; exact hjl)
                cases e'
                have a0' := KA.out.cell (p := ⟨g1, _, none⟩) (fun h => h) a0
                have a1' := KA.out.cell (p := ⟨g1, _, none⟩) (fun h => h) a1
                have a2' := KA.out.cell (p := ⟨g1, _, none⟩) (fun h => h) a2
                have a3' := KA.out.cell (p := ⟨g1, _, none⟩) (fun h => h) a3
                have x0' := (RI.out.keeps hkp3.out (fun h => h)).cell (k := 0) (v := .slice ca nc cc) rfl
                have x1' := (RI.out.keeps hkp3.out (fun h => h)).cell (k := 1) (v := .int .i64 mu) rfl
                have x2' := (RI.out.keeps hkp3.out (fun h => h)).cell (k := 2) (v := .slice (some ⟨g, o, none⟩) x.threads.length tc) rfl
                have y0' := (R6.out.keeps hkp3.out (fun h => h)).cell (k := 0) (v := .int .i64 rg) rfl
                have y1' := (R6.out.keeps hkp3.out (fun h => h)).cell (k := 1) (v := .slice (some ⟨g1, o1, none⟩) (m + 1) ic) rfl
                have lb : bi < wr.heap.size := World.block_lt_of_cell? wr _ x0'
                have lb6 : b6 < wr.heap.size := World.block_lt_of_cell? wr _ y0'
                have lg : g1 < wr.heap.size := World.block_lt_of_cell? wr _ a0'
                have nb1 : bi ≠ wr.heap.size := by omega
                have nb6 : b6 ≠ wr.heap.size := by omega
                have ng1 : g1 ≠ wr.heap.size := by omega
                have HF : Hid (∀ W, Calls Try.prog 43 #[.agg #[.slice ca nc cc, .int .i64 mu, .slice (some ⟨g, o, none⟩) x.threads.length tc], .agg #[.int .i64 rg, .slice (some ⟨g1, o1, none⟩) (m + 1) ic], .agg #[.int .i64 (c.ins.getD j Ins.zero).op, .int .i64 (c.ins.getD j Ins.zero).a, .int .i64 (c.ins.getD j Ins.zero).b, .int .i64 (c.ins.getD j Ins.zero).c]] W fun e w' => e = .returned (.bool (insN x c (c.at j))) ∧ Keeps NoBlk W w') := fun W => HFT.out W rg _ (m + 1) ic _ _ _ _ c (c.at j) HRG.out HNI.out rfl rfl rfl rfl
                have HN3 : Hid (insN x c (c.at j) = true → ∀ q, q < j + 1 → insN x c (c.at q) = true) := fun h q hq => by
                  by_cases e : q = j
                  · subst e; exact h
                  · exact hag.out q (by omega)
                have HB3 : Hid (insN x c (c.at j) = false → R = false) := fun h => HCF.out j hjl h
                generalize (c.ins.getD j Ins.zero).op = vop at a0' HF
                generalize (c.ins.getD j Ins.zero).a = va at a1' HF
                generalize (c.ins.getD j Ins.zero).b = vb at a2' HF
                generalize (c.ins.getD j Ins.zero).c = vc at a3' HF
                clear a0 a1 a2 a3 hag hj
                cases hv : insN x c (c.at j)
                · have HB : Hid (R = false) := HB3.out hv
                  rw [hv] at HF
                  clear HN3 HB3 hv
                  go_wp2_with (go_at_call 43; refine (HF.out _).mono ?_; rintro e w1 ⟨rfl, g1⟩; have G1 := Lib.hid g1; clear g1)
                  go_ret
                  exact ⟨congrArg (fun b => Ending.returned (.bool b)) HB.out.symm, (HKW.out.trans0 KA.out).trans0 (((Keeps.refl _ _).alloc _).trans0 G1.out)⟩
                · have HN4 := Lib.hid (HN3.out hv)
                  rw [hv] at HF
                  clear HN3 HB3 hv
                  go_wp2_with (go_at_call 43; refine (HF.out _).mono ?_; rintro e w1 ⟨rfl, g1⟩; have G1 := Lib.hid g1; clear g1)
                  exact ⟨⟨j + 1, by omega, by go_num, HN4.out, hkp3.out.trans0 (((Keeps.refl _ _).alloc _).trans0 G1.out)⟩, by simp [intOf]; omega⟩
              · have hjm : j = m + 1 := by omega
                subst hjm
                clear hjl hj
                have HN4 := Lib.hid (HN2.out (HCT.out hag.out))
                go_wp2_with fail
                exact ⟨⟨i + 1, by omega, by go_num, HN4.out, hkp2.out.trans0 (KI.out.trans0 hkp3.out)⟩, by simp [intOf]; omega⟩)
        · have hin : nt = i := by omega
          subst hin
          clear hlt hi
          have HT : Hid (R = true) := HOK.out HCELLS.out hag.out
          go_wp2_with fail
          go_ret
          exact ⟨congrArg (fun b => Ending.returned (.bool b)) HT.out.symm, HKW.out⟩
end Go.Proofs.Ytmkfpkficmmlgaa
