/- The law's spoil. -/
import Derived.Test.YtmkfpkficmmlgaaK38
namespace Go.Proofs.Ytmkfpkficmmlgaa
open Go.RowKit
set_option linter.unusedVariables false
set_option linter.unusedSimpArgs false
set_option linter.unnecessarySimpa false

set_option maxRecDepth 8000 in
set_option maxHeartbeats 4000000 in
theorem spoil_any (w : World) (T : Tags) (id : Nat) (ca ta : Option Addr) (cn cc tn tc : Nat) (x : Img) (h : OwnImg w T id (.slice ca cn cc) (.slice ta tn tc) x) (hr : rightN x = true) :
    Calls Try.prog 9 #[imgV (.slice ca cn cc) (.slice ta tn tc) x] w fun e w' => e = .returned (.tuple #[]) ∧ Keeps (Own T id) w w' := by
  have hp := right_parts hr
  obtain ⟨us, hul, hf, htt, hi⟩ := h.thr
  obtain ⟨ad, cap, e, _, _, h1⟩ := hf
  cases e
  obtain ⟨gt, rfl, _, hrt⟩ := h1 (by omega)
  have hgt : T gt = some (id, .frames) := htt gt rfl
  have hcl : cn = x.cells.length := by obtain ⟨a, q, e, _⟩ := h.cells; cases e; rfl
  have HTOK := Lib.hid h.tok
  have HGT := Lib.hid hgt
  obtain ⟨nt, hnt⟩ : ∃ n, n = x.threads.length := ⟨_, rfl⟩
  have HNT := Lib.hid hnt
  have HRT := Lib.hid hr
  have n2 : nt ≤ 8 := by rw [hnt]; exact hp.1.2
  have n3 : cn ≤ 8 := by rw [hcl]; exact hp.2.1
  have HC : Hid (IRow w T id .cells (.slice ca cn cc) x.cells ∧ cn = x.cells.length) := ⟨h.cells, hcl⟩
  have HRTW := Lib.hid hrt
  have HUL := Lib.hid hul
  have HOI := Lib.hid hi
  obtain ⟨mu, hmu⟩ : ∃ n, n = x.mutexes := ⟨_, rfl⟩
  unfold imgV
  rw [← hmu, ← hnt]
  clear h hr hp hul htt hi h1 hrt hgt hcl hnt hmu
  go_enter Try.func9, Try.ntmps9
  go_upto_region 1 with fail
  obtain ⟨b1, hb1⟩ : ∃ z, z = w.heap.size := ⟨_, rfl⟩
  have hr1 : RowAt (w.alloc (.cells #[.slice ca cn cc, .int .i64 mu, .slice (some ⟨gt, 0, none⟩) nt tc] 25)) b1 [.slice ca cn cc, .int .i64 mu, .slice (some ⟨gt, 0, none⟩) nt tc] := by rw [hb1]; exact RowAt.ofBlock (heap_alloc_new w _)
  have hk0 : Keeps NoBlk w (w.alloc (.cells #[.slice ca cn cc, .int .i64 mu, .slice (some ⟨gt, 0, none⟩) nt tc] 25)) := (Keeps.refl _ _).alloc _
  have HB1 : Hid (T b1 = none) := HTOK.out.free (by omega)
  rw [← hb1]
  generalize w.alloc (.cells #[.slice ca cn cc, .int .i64 mu, .slice (some ⟨gt, 0, none⟩) nt tc] 25) = w0 at hr1 hk0 ⊢
  have R1 := Lib.hid hr1
  have K0 := Lib.hid hk0
  clear hr1 hk0 hb1
  go_wp2_with fail
  go_loopw [2] (fun kv wr => ∃ k : Nat, k ≤ cn ∧ kv = .int .i64 k ∧ Hid (Keeps (fun q => T q = some (id, .cells)) w0 wr) ∧ Hid (∃ xs : List Int, xs.length = cn ∧ IRow wr T id .cells (.slice ca cn cc) xs)) (fun kv _ => cn - (intOf kv).toNat)
  case atStart => exact ⟨0, Nat.zero_le _, rfl, Keeps.refl _ _, x.cells, HC.out.2.symm, HC.out.1.keeps K0.out (fun _ _ h => h)⟩
  case round =>
    obtain ⟨k, hk, rfl, hkp, hxs⟩ := hrel
    have x0 := (R1.out.keeps hkp.out (fun e => by have := HB1.out; rw [e] at this; cases this)).cell (k := 0) (v := .slice ca cn cc) rfl
    by_cases hlt : k < cn
    · have i1 : (0 : Int) ≤ k := by omega
      have i2 : (k : Int) < cn := by omega
      obtain ⟨xs, hxl, hx⟩ := hxs.out
      obtain ⟨g, cap', e1, e2, e3⟩ := hx.at (k := k) (by omega)
      cases e1
      have c0 := e3.cell (ints_get xs k (by omega))
      have f0 := e3.free (k := k) (by rw [ints_len]; omega)
      have HST : Hid (IRow (wr.setCell ⟨g, k, none⟩ (.int .i64 (-77))) T id .cells (.slice (some ⟨g, 0, none⟩) xs.length cc) (xs.set k (-77))) := IRow.set e2 e3 k (by omega) (-77)
      have HE2 := Lib.hid e2
      generalize xs.getD k 0 = old at c0
      clear hk hxs hx e2 e3
      go_wp2_with fail
      exact ⟨⟨k + 1, by omega, by go_num, hkp.out.setCell (p := ⟨g, k, none⟩) (fun _ => HE2.out) _, xs.set k (-77), by simp, HST.out⟩, by simp [intOf]; omega⟩
    · have hkn : cn = k := by omega
      subst hkn
      have HKP := hkp
      have hfg : ∀ q z, T q = some z → z.2 ≠ .cells → ¬ (T q = some (id, .cells)) := fun q z e hz e' => by rw [e] at e'; cases e'; exact hz rfl
      have HRTW2 : Hid (RowAt wr gt (thrCells x.threads us)) := (HRTW.out.keeps K0.out (fun h => h)).keeps hkp.out (hfg gt _ HGT.out (by simp))
      have HOI2 : Hid (∀ j u, us[j]? = some u → OIns wr T id j u (x.cod j).ins) := fun j u e => ((HOI.out j u e).keeps K0.out (fun _ _ h => h)).keeps hkp.out (fun q e => hfg q _ e (by simp))
      have R2 : Hid (RowAt wr b1 [.slice ca cn cc, .int .i64 mu, .slice (some ⟨gt, 0, none⟩) nt tc]) := R1.out.keeps hkp.out (fun e => by have := HB1.out; rw [e] at this; cases this)
      have KW : Hid (Keeps (Own T id) w wr) := (K0.out.mono (fun _ _ h => h.elim)).trans hkp.out (fun q _ e => ⟨_, e, by simp⟩)
      clear hlt hk hxs hfg HC HRTW HOI R1 K0
      go_wp2_with fail
      go_loopw [3] (fun kv w2 => ∃ i : Nat, i ≤ nt ∧ kv = .int .i64 i ∧ Hid (Keeps (Own T id) wr w2) ∧ Hid (∃ L : List Value, L.length = nt * 2 ∧ RowAt w2 gt L ∧ ∀ j, i ≤ j → L[j * 2 + 1]? = us[j]?) ∧ Hid (∀ j u, i ≤ j → us[j]? = some u → OIns w2 T id j u (x.cod j).ins)) (fun kv _ => nt - (intOf kv).toNat)
      case atStart =>
        refine ⟨0, Nat.zero_le _, rfl, Keeps.refl _ _, ⟨_, ?_, HRTW2.out, fun j _ => ?_⟩, fun j u _ e => HOI2.out j u e⟩
        · rw [thr_len _ _ HUL.out, HNT.out]
        · by_cases hj : j < x.threads.length
          · obtain ⟨u, hu⟩ : ∃ u, us[j]? = some u := ⟨_, List.getElem?_eq_getElem (by rw [HUL.out]; exact hj)⟩
            rw [(thr_get x.threads us j x.threads[j] u (List.getElem?_eq_getElem hj) hu).2, hu]
          · rw [List.getElem?_eq_none (by rw [thr_len _ _ HUL.out]; omega), List.getElem?_eq_none (by rw [HUL.out]; omega)]
      case round =>
        obtain ⟨i, hi, rfl, hkp2, hL, hO⟩ := hrel
        have hb1n : ¬ Own T id b1 := fun ⟨t, e, _⟩ => by rw [HB1.out] at e; cases e
        have x2 := (R2.out.keeps hkp2.out hb1n).cell (k := 2) (v := .slice (some ⟨gt, 0, none⟩) nt tc) rfl
        by_cases hlt : i < nt
        · have i1 : (0 : Int) ≤ i := by omega
          have i2 : (i : Int) < nt := by omega
          obtain ⟨L, hLl, hLr, hLu⟩ := hL.out
          obtain ⟨u, hu⟩ : ∃ u, us[i]? = some u := ⟨_, List.getElem?_eq_getElem (by rw [HUL.out, ← HNT.out]; exact hlt)⟩
          obtain ⟨ua, uc, e1, hui⟩ := hO.out i u (Nat.le_refl _) hu
          have hn1 := codN_parts (right_cod HRT.out (i := i) (by rw [← HNT.out]; exact hlt))
          obtain ⟨g, rfl, hgT, hgR⟩ := hui (by omega)
          subst e1
          obtain ⟨nn, hnn⟩ : ∃ n, n = (x.cod i).ins.length := ⟨_, rfl⟩
          have n4 : nn ≤ 4000 := by rw [hnn]; exact hn1.2.1.2
          have hul2 := hLu i (Nat.le_refl _)
          rw [hu, ← hnn] at hul2
          have c1 := hLr.cell hul2
          have HLL : Hid (L.length = nt * 2 ∧ RowAt wr gt L ∧ ∀ j, i ≤ j → L[j * 2 + 1]? = us[j]?) := ⟨hLl, hLr, hLu⟩
          have HG : Hid (T g = some (id, .regs i)) := hgT
          have HTH : Hid (wr.there g 0 (nn * 4)) := by have := hgR.thr; rw [insCells_len, ← hnn] at this; exact this
          clear hL hi hu hui hn1 hgT hgR hnn hul2 hLl hLr hLu
          go_wp2_with fail
          go_loopw [5] (fun kv w3 => ∃ k : Nat, k ≤ nn ∧ kv = .int .i64 k ∧ Hid (Keeps (fun q => T q = some (id, .regs i)) wr w3) ∧ Hid (w3.there g 0 (nn * 4))) (fun kv _ => nn - (intOf kv).toNat)
          case atStart => exact ⟨0, Nat.zero_le _, rfl, Keeps.refl _ _, HTH.out⟩
          case round =>
            obtain ⟨k, hk, rfl, hkp3, hth⟩ := hrel
            by_cases hkl : k < nn
            · have k1 : (0 : Int) ≤ k := by omega
              have k2 : (k : Int) < nn := by omega
              have hcell : ∀ r, r < 4 → ∃ old, wr.cell? ⟨g, k * 4 + r, none⟩ = some old ∧ wr.frozen? ⟨g, k * 4 + r, none⟩ = false := fun r hr => by
                obtain ⟨a, b⟩ := hth.out (k * 4 + r) (by omega)
                rw [Nat.zero_add] at a b
                obtain ⟨old, ho⟩ := Option.isSome_iff_exists.1 a
                exact ⟨old, ho, b⟩
              obtain ⟨o0, d0, f0⟩ := hcell 0 (by decide)
              obtain ⟨o1, d1, f1⟩ := hcell 1 (by decide)
              obtain ⟨o2, d2, f2⟩ := hcell 2 (by decide)
              obtain ⟨o3, d3, f3⟩ := hcell 3 (by decide)
              rw [Nat.add_zero] at d0 f0
              clear hcell hk
              go_wp2_with fail
              have hset : ∀ (W : World) (p : Addr) (u : Value), W.there g 0 (nn * 4) → (W.setCell p u).there g 0 (nn * 4) := fun W p u ht j hj => by
                obtain ⟨a, b⟩ := ht j hj
                refine ⟨?_, by rw [World.frozen?_setCell]; exact b⟩
                by_cases e : p = ⟨g, 0 + j, none⟩
                · subst e
                  rw [World.cell?_setCell_same' _ _ _ a]; rfl
                · rw [World.cell?_setCell_other _ _ _ _ e]; exact a
              exact ⟨⟨k + 1, by omega, by go_num, ((((hkp3.out.setCell (p := ⟨g, k * 4, none⟩) (fun _ => HG.out) _).setCell (p := ⟨g, k * 4 + 1, none⟩) (fun _ => HG.out) _).setCell (p := ⟨g, k * 4 + 2, none⟩) (fun _ => HG.out) _).setCell (p := ⟨g, k * 4 + 3, none⟩) (fun _ => HG.out) _), hset _ _ _ (hset _ _ _ (hset _ _ _ (hset _ _ _ hth.out)))⟩, by simp [intOf]; omega⟩
            · have hkn : nn = k := by omega
              subst hkn
              clear hkl hk hth
              have hfr : ∀ q z, T q = some z → z.2 ≠ .regs i → ¬ (T q = some (id, .regs i)) := fun q z e hz e' => by rw [e] at e'; cases e'; exact hz rfl
              have hL3 := HLL.out.2.1.keeps hkp3.out (hfr gt _ HGT.out (by simp))
              have x2' := hkp3.out.cell (p := ⟨b1, 2, none⟩) (fun e => by have e' : T b1 = some (id, .regs i) := e; rw [HB1.out] at e'; cases e') x2
              have hlen := HLL.out.1
              obtain ⟨o0, ho0⟩ : ∃ v, L[i * 2]? = some v := ⟨_, List.getElem?_eq_getElem (by omega)⟩
              obtain ⟨o1, ho1⟩ : ∃ v, L[i * 2 + 1]? = some v := ⟨_, List.getElem?_eq_getElem (by omega)⟩
              have d0 := hL3.cell ho0
              have d1 := hL3.cell ho1
              have f0 := hL3.free (k := i * 2) (by omega)
              have f1 := hL3.free (k := i * 2 + 1) (by omega)
              have HL3 := Lib.hid hL3
              have hO3 : Hid (∀ j u, i + 1 ≤ j → us[j]? = some u → OIns wr T id j u (x.cod j).ins) := fun j u hj e => (hO.out j u (by omega) e).keeps hkp3.out (fun q e => hfr q _ e (by simp; omega))
              have HLEN := Lib.hid hlen
              clear hL3 hlen ho0 ho1 hfr x2 c1
              go_wp2_with fail
              refine ⟨⟨i + 1, by omega, by go_num, ?_, ⟨(L.set (i * 2) (.int .i64 0)).set (i * 2 + 1) nilV, by simp [HLEN.out], ?_, fun j hj => ?_⟩, fun j u hj e => ?_⟩, by simp [intOf]; omega⟩
              · exact ((hkp2.out.trans hkp3.out (fun q _ e => ⟨_, e, by simp⟩)).setCell (p := ⟨gt, i * 2, none⟩) (fun _ => ⟨_, HGT.out, by simp⟩) _).setCell (p := ⟨gt, i * 2 + 1, none⟩) (fun _ => ⟨_, HGT.out, by simp⟩) _
              · exact (HL3.out.set (i * 2) (by have := HLEN.out; omega) _).set (i * 2 + 1) (by rw [List.length_set]; have := HLEN.out; omega) _
              · rw [List.getElem?_set_ne (by omega), List.getElem?_set_ne (by omega)]
                exact HLL.out.2.2 j (by omega)
              · have hgn : ∀ q, T q = some (id, .regs j) → ¬ (fun q => q = gt) q := fun q e e' => by have e2 : q = gt := e'; rw [e2, HGT.out] at e; cases e
                exact ((hO3.out j u hj e).keeps (Keeps.setCell (S := fun q => q = gt) (p := ⟨gt, i * 2, none⟩) (Keeps.refl _ _) (fun _ => rfl) _) hgn).keeps (Keeps.setCell (S := fun q => q = gt) (p := ⟨gt, i * 2 + 1, none⟩) (Keeps.refl _ _) (fun _ => rfl) _) hgn
        · have hin : nt = i := by omega
          subst hin
          clear hlt hi
          go_wp2_with fail
          refine Great.bodyPost_end0 (by rfl) (by rfl) ?_
          exact ⟨rfl, KW.out.trans hkp2.out (fun _ _ h => h)⟩
end Go.Proofs.Ytmkfpkficmmlgaa
