/- The law's copied. -/
import Derived.Test.YtmkfpkficmmlgaaK37
namespace Go.Proofs.Ytmkfpkficmmlgaa
open Go.RowKit
set_option linter.unusedVariables false
set_option linter.unusedSimpArgs false
set_option linter.unnecessarySimpa false

theorem infoCode : (Try.prog.info? 51).map (fun i => (i.zero, i.size, i.bytes)) = some (some (.agg #[.int .i64 0, .slice none 0 0]), 2, 32) := by kernel_rfl
/-- no slice of it is too great to be copied -/
structure SizeOk (x : Img) : Prop where
  cells : x.cells.length * 8 ≤ 140737488355328
  thr : x.threads.length * 32 ≤ 140737488355328
  ins : ∀ i, i < x.threads.length → (x.cod i).ins.length * 32 ≤ 140737488355328

set_option maxRecDepth 8000 in
set_option maxHeartbeats 4000000 in
theorem copied_any (w : World) (T : Tags) (id : Nat) (cv tv : Value) (x : Img) (h : ImgR w cv tv x) (hok : TOk T w) (hsz : SizeOk x) :
    Calls Try.prog 7 #[imgV cv tv x] w fun e w' => ∃ ca cn cc ta tn tc T', e = .returned (imgV (.slice ca cn cc) (.slice ta tn tc) x) ∧ OwnImg w' T' id (.slice ca cn cc) (.slice ta tn tc) x ∧ ExtI T T' id w ∧ Keeps NoBlk w w' := by
  have HI := Lib.hid h
  obtain ⟨ca, cc, rfl, _⟩ := h.cells.ints
  obtain ⟨ta, tc, rfl, _⟩ := h.thr
  unfold imgV
  obtain ⟨nc, hnc⟩ : ∃ n, n = x.cells.length := ⟨_, rfl⟩
  obtain ⟨nt, hnt⟩ : ∃ n, n = x.threads.length := ⟨_, rfl⟩
  obtain ⟨mu, hmu⟩ : ∃ n, n = x.mutexes := ⟨_, rfl⟩
  have HE : Hid (nc = x.cells.length ∧ nt = x.threads.length ∧ mu = x.mutexes) := ⟨hnc, hnt, hmu⟩
  have HTOK := Lib.hid hok
  have HSZ := Lib.hid hsz
  rw [← hnc, ← hnt] at HI
  rw [← hnc, ← hnt, ← hmu]
  have nc8 : nc * 8 ≤ 140737488355328 := by rw [hnc]; exact hsz.cells
  have nt8 : nt * 32 ≤ 140737488355328 := by rw [hnt]; exact hsz.thr
  obtain ⟨i0, hi0, hz0, hz1, hz2⟩ := info_parts infoInt
  obtain ⟨j0, hj0, hy0, hy1, hy2⟩ := info_parts infoIns
  obtain ⟨k0, hk0, hw0, hw1, hw2⟩ := info_parts infoCode
  have HRES : Hid (∀ (c t : Value) (e : Ending), e = .returned (.agg #[c, .int .i64 mu, t]) → e = .returned (.agg #[c, .int .i64 x.mutexes, t])) := fun c t e he => by rw [he, hmu]
  have HKC : Hid (∀ c t : Value, (Value.agg #[c, .int .i64 mu, t]) = .agg #[c, .int .i64 x.mutexes, t]) := fun c t => by rw [hmu]
  clear h hok hsz hnc hnt hmu
  go_enter Try.func7, Try.ntmps7
  go_upto_region 2 with fail
  have hk0 : Keeps NoBlk w (((w.alloc (.cells #[.slice ca nc cc, .int .i64 mu, .slice ta nt tc] 25)).alloc (.cells #[.slice none 0 0, .int .i64 0, .slice none 0 0] 25)).alloc (.cells #[.slice none 0 0, .int .i64 mu, .slice none 0 0] 25)) := (((Keeps.refl _ _).alloc _).alloc _).alloc _
  have hr1 : RowAt (((w.alloc (.cells #[.slice ca nc cc, .int .i64 mu, .slice ta nt tc] 25)).alloc (.cells #[.slice none 0 0, .int .i64 0, .slice none 0 0] 25)).alloc (.cells #[.slice none 0 0, .int .i64 mu, .slice none 0 0] 25)) w.heap.size [.slice ca nc cc, .int .i64 mu, .slice ta nt tc] := ((RowAt.ofBlock (heap_alloc_new w _)).alloc _).alloc _
  have hr2 : RowAt (((w.alloc (.cells #[.slice ca nc cc, .int .i64 mu, .slice ta nt tc] 25)).alloc (.cells #[.slice none 0 0, .int .i64 0, .slice none 0 0] 25)).alloc (.cells #[.slice none 0 0, .int .i64 mu, .slice none 0 0] 25)) (w.heap.size + 1) [nilV, .int .i64 0, nilV] := (RowAt.ofBlock (heap_alloc2 w _ _)).alloc _
  have hr3 : RowAt (((w.alloc (.cells #[.slice ca nc cc, .int .i64 mu, .slice ta nt tc] 25)).alloc (.cells #[.slice none 0 0, .int .i64 0, .slice none 0 0] 25)).alloc (.cells #[.slice none 0 0, .int .i64 mu, .slice none 0 0] 25)) (w.heap.size + 1 + 1) [nilV, .int .i64 mu, nilV] := RowAt.ofBlock (by have h := heap_alloc_new ((w.alloc (.cells #[.slice ca nc cc, .int .i64 mu, .slice ta nt tc] 25)).alloc (.cells #[.slice none 0 0, .int .i64 0, .slice none 0 0] 25)) (.cells #[.slice none 0 0, .int .i64 mu, .slice none 0 0] 25); simpa [nilV] using h)
  have hl : (((w.alloc (.cells #[.slice ca nc cc, .int .i64 mu, .slice ta nt tc] 25)).alloc (.cells #[.slice none 0 0, .int .i64 0, .slice none 0 0] 25)).alloc (.cells #[.slice none 0 0, .int .i64 mu, .slice none 0 0] 25)).heap.size = w.heap.size + 3 := by simp
  obtain ⟨b1, hb1⟩ : ∃ z, z = w.heap.size := ⟨_, rfl⟩
  obtain ⟨b2, hb2⟩ : ∃ z, z = w.heap.size + 1 := ⟨_, rfl⟩
  obtain ⟨y, hy⟩ : ∃ z, z = w.heap.size + 1 + 1 := ⟨_, rfl⟩
  rw [← hy] at hr3
  rw [← hb2] at hr2
  rw [← hb1] at hr1
  rw [← hy, ← hb2, ← hb1]
  generalize (((w.alloc (.cells #[.slice ca nc cc, .int .i64 mu, .slice ta nt tc] 25)).alloc (.cells #[.slice none 0 0, .int .i64 0, .slice none 0 0] 25)).alloc (.cells #[.slice none 0 0, .int .i64 mu, .slice none 0 0] 25)) = w0 at hk0 hr1 hr2 hr3 hl ⊢
  have HB : Hid (b1 = w.heap.size ∧ b2 = w.heap.size + 1 ∧ y = w.heap.size + 2 ∧ w0.heap.size = w.heap.size + 3) := ⟨hb1, hb2, hy, hl⟩
  have HK0 := Lib.hid hk0
  have R1 := Lib.hid hr1
  have R2 := Lib.hid hr2
  have R3 := Lib.hid hr3
  have x0 := hr1.cell (k := 0) (v := .slice ca nc cc) rfl
  have z0 := hr3.cell (k := 0) (v := nilV) rfl
  have HSRC : Hid (SrcAt w0 (.slice ca nc cc) nc (ints x.cells)) := by have h1 := (HI.out.keeps0 hk0).cells; rw [← HE.out.1] at h1; exact h1
  have HLX : Hid ((ints x.cells).length = nc * 1) := by show _ = _; rw [ints_len, HE.out.1, Nat.mul_one]
  clear hk0 hr1 hr2 hr3 hl hb1 hb2 hy
  go_upto_region 3 with (at_builtin; refine wpList_append_src _ (by rfl) _ _ 22 (by rfl) 0 3 i0 _ 1 8 Try.underlying22 hi0 hz0 hz1 hz2 rfl (by decide) nilV 0 [] (by rfl) (World.ownsRow_nil _ _ _ _) (.slice ca nc cc) nc (ints x.cells) (by rfl) HSRC.out HLX.out (ints_one x.cells) (by unfold maxLen; omega) (by omega) (Nat.zero_le _) ?_; intro c1 q1 w3 hout; have HO := Lib.hid hout; have K3 : Hid (Keeps NoBlk w0 w3) := hout.keeps (Keeps.refl _ _) (fun q e _ => by simp [nilV, Value.ownBlock] at e); have HR3 : Hid (RowAt w3 y [nilV, .int .i64 mu, nilV]) := R3.out.keeps K3.out (fun h => h); have zr3 := HR3.out.cell (k := 0) (v := nilV) rfl; have zf3 := HR3.out.free (k := 0) (by simp); clear hout)
  obtain ⟨T1, hS1⟩ : ∃ T1, CpI w0 (w3.setCell ⟨y, 0, none⟩ (.slice c1 nc q1)) T T1 id y x (.slice c1 nc q1) 0 [] nilV := by
    have hcb : ∀ kb, (Value.slice c1 nc q1).ownBlock = some kb → kb = w0.heap.size := fun kb e => by
      rcases HO.out.2.2 kb (by rw [Nat.zero_add]; exact e) with h1 | h1
      · simp [nilV, Value.ownBlock] at h1
      · exact h1
    obtain ⟨e1, e2, e3, e4⟩ := HB.out
    have hok0 : TOk T w0 := HTOK.out.keeps HK0.out
    have hnt : NewTag T id .cells (.slice c1 nc q1) w0.heap.size := fun kb e => .inr ⟨hok0.free (by rw [hcb kb e]; exact Nat.le_refl _), by rw [hcb kb e]; exact Nat.le_refl _⟩
    have hx := tagV_ext (w := w0) hnt
    have how := HO.out.1
    rw [Nat.zero_add, List.nil_append] at how
    refine ⟨tagV T id .cells (.slice c1 nc q1), hx, ?_, ?_, ?_, ?_, World.ownsRow_nil _ _ _ _, fun kb e => by simp [nilV, Value.ownBlock] at e, fun kb e => by simp [nilV, Value.ownBlock] at e, rfl, fun j u e => by simp at e, ?_⟩
    · exact (tagV_ok (hok0.keeps K3.out) (fun kb e => ownsRow_lt how e)).keeps (Keeps.setCell (S := fun q => q = y) (p := ⟨y, 0, none⟩) (Keeps.refl _ _) (fun _ => rfl) _)
    · unfold tagV
      rw [if_neg (fun e => by have := hcb y e; omega)]
      exact HTOK.out.free (by omega)
    · have h1 := HR3.out.set 0 (by simp) (.slice c1 nc q1)
      rw [HE.out.2.2] at h1
      exact h1
    · refine (IRow.of (B := 0) (by rw [← HE.out.1]; exact FRow.of how (fun _ _ => Nat.zero_le _)) (fun kb e => tagV_own e)).keeps (Keeps.setCell (S := fun q => q = y) (p := ⟨y, 0, none⟩) (Keeps.refl _ _) (fun _ => rfl) _) (fun q e e' => ?_)
      have e2 : q = y := e'
      unfold tagV at e
      rw [if_neg (fun e => by have := hcb q e; omega), HTOK.out.free (by omega)] at e
      cases e
    · exact Keeps.setCell (S := fun q => q = y) (K3.out.mono (fun _ _ h => h.elim)) (p := ⟨y, 0, none⟩) (fun _ => rfl) _
  generalize w3.setCell ⟨y, 0, none⟩ (.slice c1 nc q1) = wN at hS1 ⊢
  have HS1 := Lib.hid hS1
  have HB12 : Hid (b1 ≠ y ∧ b2 ≠ y) := by obtain ⟨e1, e2, e3, e4⟩ := HB.out; exact ⟨by omega, by omega⟩
  have HYW : Hid (w.heap.size ≤ y) := by obtain ⟨e1, e2, e3, e4⟩ := HB.out; show _ ≤ _; omega
  clear hS1 HO HR3 zr3 zf3 x0 z0 HSRC HLX K3 R3
  go_wp2_with fail
  go_loopw [4] (fun kv wr => ∃ (k : Nat) (T' : Tags) (us : List Value) (t : Option Addr) (q : Nat), k ≤ nt ∧ kv = .int .i64 k ∧ Hid (CpI w0 wr T T' id y x (.slice c1 nc q1) k us (.slice t k q))) (fun kv _ => nt - (intOf kv).toNat)
  case atStart => exact ⟨0, T1, [], none, 0, Nat.zero_le _, rfl, HS1.out⟩
  case round =>
    obtain ⟨k, T', us, t, q, hk, rfl, hS⟩ := hrel
    have KW : Hid (Keeps NoBlk w wr) := HK0.out.trans hS.out.keep (fun q hq e => by have := HYW.out; have e' : q = y := e; omega)
    have x2 := (R1.out.keeps hS.out.keep HB12.out.1).cell (k := 2) (v := .slice ta nt tc) rfl
    by_cases hlt : k < nt
    · have i1 : (0 : Int) ≤ k := by omega
      have i2 : (k : Int) < nt := by omega
      have hkx : k < x.threads.length := by rw [← HE.out.2.1]; exact hlt
      have HKX := Lib.hid hkx
      obtain ⟨ad, cap, e1, f1⟩ := (HI.out.keeps0 KW.out).thr
      obtain ⟨g, og, u, e2, c0, c1', hsrc⟩ := f1 k hkx
      have hcd : x.threads.getD k ⟨0, []⟩ = x.cod k := rfl
      rw [hcd] at c0 hsrc
      have hta : ta = ad := by cases e1; rfl
      subst hta
      subst e2
      obtain ⟨ua, un, uc, hu⟩ : ∃ a n c, u = .slice a n c := by obtain ⟨a, q, e, _⟩ := hsrc; exact ⟨a, _, q, e⟩
      subst hu
      obtain ⟨rg, hrg⟩ : ∃ n, n = (x.cod k).regs := ⟨_, rfl⟩
      have HRG : Hid (rg = (x.cod k).regs) := hrg
      have hn32 := HSZ.out.ins k hkx
      obtain ⟨nn, hnn⟩ : ∃ n, n = (x.cod k).ins.length := ⟨_, rfl⟩
      have HNN : Hid (nn = (x.cod k).ins.length) := hnn
      rw [← hrg] at c0
      rw [← hnn] at hsrc hn32
      have HSRC := Lib.hid hsrc
      have lb1 : b1 < wr.heap.size := World.block_lt_of_cell? wr _ x2
      have lg : g < wr.heap.size := World.block_lt_of_cell? wr _ c0
      have nb1 : b1 ≠ wr.heap.size := by omega
      have ng : g ≠ wr.heap.size := by omega
      clear f1 e1 hcd hsrc hrg hnn hkx HS1 hk
      go_upto_region 7 with fail
      obtain ⟨b5, hb5⟩ : ∃ z, z = wr.heap.size := ⟨_, rfl⟩
      have hr5 : RowAt (wr.alloc (.cells #[.int .i64 rg, .slice none 0 0] 51)) b5 [.int .i64 rg, nilV] := by rw [hb5]; exact RowAt.ofBlock (heap_alloc_new wr _)
      have hk5 : Keeps NoBlk wr (wr.alloc (.cells #[.int .i64 rg, .slice none 0 0] 51)) := (Keeps.refl _ _).alloc _
      have HB5 : Hid (wr.heap.size ≤ b5) := by show _ ≤ _; omega
      rw [← hb5]
      generalize wr.alloc (.cells #[.int .i64 rg, .slice none 0 0] 51) = w5 at hr5 hk5 ⊢
      have K5 := Lib.hid hk5
      have R5 := Lib.hid hr5
      have y1 := hr5.cell (k := 1) (v := nilV) rfl
      have x2' := hk5.cell (p := ⟨b1, 2, none⟩) (fun h => h) x2
      have c1'' := hk5.cell (p := ⟨g, _, none⟩) (fun h => h) c1'
      have HLI : Hid ((insCells (x.cod k).ins).length = nn * 4) := by show _ = _; rw [insCells_len, HNN.out]
      clear hr5 hk5 hb5 lb1 lg nb1 ng x2 c0 c1'
      refine wp_region_still_tail 8 (by kernel_rfl) (by kernel_rfl) ?_
      simp only [List.take_succ_cons, List.take_zero, List.drop_succ_cons, List.drop_zero]
      change wpStill _ _ w5.drew _ _ _
      iterate 8 still_step
      refine wpStill_nil ?_
      change wpList _ _ _ _ _ w5.drew
      go_upto_region 8 with (at_builtin; refine wpList_append_src _ (by rfl) _ _ 49 (by rfl) 0 48 j0 _ 4 32 Try.underlying49 hj0 hy0 hy1 hy2 rfl (by decide) nilV 0 [] (by rfl) (World.ownsRow_nil _ _ _ _) (.slice ua un uc) nn (insCells (x.cod k).ins) (by rfl) (HSRC.out.keeps0 (K5.out.drew)) HLI.out (insCells_one _) (by unfold maxLen; omega) (by omega) (Nat.zero_le _) ?_; intro va vc w6 hout; have HO := Lib.hid hout; have K6 : Hid (Keeps NoBlk w5 w6) := hout.keeps ((Keeps.refl _ _).drew) (fun q e _ => by simp [nilV, Value.ownBlock] at e); have HR6 : Hid (RowAt w6 b5 [.int .i64 rg, nilV]) := R5.out.keeps K6.out (fun h => h); have zr6 := HR6.out.cell (k := 1) (v := nilV) rfl; have zf6 := HR6.out.free (k := 1) (by simp); clear hout)
      have how : w6.ownsRow 0 48 4 (.slice va nn vc) nn (insCells (x.cod k).ins) := by
        have h1 := HO.out.1
        rw [Nat.zero_add, List.nil_append] at h1
        exact h1
      have hvb : ∀ kb, (Value.slice va nn vc).ownBlock = some kb → kb = w5.heap.size := fun kb e => by
        rcases HO.out.2.2 kb (by rw [Nat.zero_add]; exact e) with h1 | h1
        · simp [nilV, Value.ownBlock] at h1
        · exact h1
      have hb5l : b5 < w5.heap.size := R5.out.lt (by simp)
      have hs5 : wr.heap.size ≤ w5.heap.size := K5.out.size
      have hr7 : RowAt (w6.setCell ⟨b5, 1, none⟩ (.slice va nn vc)) b5 [.int .i64 rg, .slice va nn vc] := HR6.out.set 1 (by simp) _
      have hk7 : Keeps NoBlk wr (w6.setCell ⟨b5, 1, none⟩ (.slice va nn vc)) := Keeps.setCell (p := ⟨b5, 1, none⟩) (K5.out.trans0 K6.out) (fun hq => by have h1 : b5 < wr.heap.size := hq; have := HB5.out; omega) _
      have hu7 : FRow (w6.setCell ⟨b5, 1, none⟩ (.slice va nn vc)) wr.heap.size (.slice va nn vc) nn (insCells (x.cod k).ins) := ((FRow.of (B := w5.heap.size) how (fun kb e => by rw [hvb kb e]; exact Nat.le_refl _)).keeps (Keeps.setCell (S := fun q => q = b5) (p := ⟨b5, 1, none⟩) (Keeps.refl _ _) (fun _ => rfl) _) (fun q hq e => by have e' : q = b5 := e; omega)).mono hs5
      have hub7 : ∀ kb, (Value.slice va nn vc).ownBlock = some kb → wr.heap.size ≤ kb ∧ kb < (w6.setCell ⟨b5, 1, none⟩ (.slice va nn vc)).heap.size := fun kb e => ⟨by rw [hvb kb e]; exact hs5, Nat.lt_of_lt_of_le (ownsRow_lt how e) (by simp [World.setCell])⟩
      generalize w6.setCell ⟨b5, 1, none⟩ (.slice va nn vc) = w7 at hr7 hk7 hu7 hub7 ⊢
      have HU7 : Hid (FRow w7 wr.heap.size (.slice va nn vc) (x.cod k).ins.length (insCells (x.cod k).ins)) := by have h1 := hu7; rw [HNN.out] at h1 ⊢; exact h1
      have HUB := Lib.hid hub7
      have K7 := Lib.hid hk7
      have R7 := Lib.hid hr7
      have HS7 := Lib.hid (hS.out.keeps hk7 (fun q h => h.elim))
      have y2 := HS7.out.row.cell (k := 2) (v := .slice t k q) rfl
      have v0 := hr7.cell (k := 0) (v := .int .i64 rg) rfl
      have v1 := hr7.cell (k := 1) (v := .slice va nn vc) rfl
      have ly : y < w7.heap.size := HS7.out.row.lt (by simp)
      have l5 : b5 < w7.heap.size := hr7.lt (by simp)
      have ny : y ≠ w7.heap.size := by omega
      have n5 : b5 ≠ w7.heap.size := by omega
      clear hr7 hk7 hu7 hub7 how hvb hb5l hs5 zr6 zf6 HR6 HO y1 x2' c1'' HLI HSRC hn32 R5
      go_wp2_with (at_builtin; refine wpList_append_src _ (by rfl) _ _ 23 (by rfl) 0 51 k0 _ 2 32 Try.underlying23 hk0 hw0 hw1 hw2 rfl (by decide) (.slice t k q) k (thrCells (x.threads.take k) us) (by rfl) (ownsRow_keeps HS7.out.town ((Keeps.refl NoBlk _).alloc _) (fun _ _ h => h)) (.slice (some ⟨w7.heap.size, 0, none⟩) 1 1) 1 [.int .i64 rg, .slice va nn vc] (by rfl) (RowAt.src (RowAt.ofBlock (heap_alloc_new _ _))) rfl (by simp [Value.oneCell']) (by unfold maxLen; omega) (by omega) (Nat.zero_le _) ?_; intro t' q' wB hout; have HO := Lib.hid hout; have KB : Hid (Keeps (fun z => (Value.slice t k q).ownBlock = some z) w7 wB) := hout.keeps ((Keeps.refl _ w7).alloc _) (fun q e _ => e); have HRB : Hid (RowAt wB y [.slice c1 nc q1, .int .i64 x.mutexes, .slice t k q]) := HS7.out.row.keeps KB.out (fun e => by have h1 := HS7.out.ttag y e; rw [HS7.out.yfree] at h1; cases h1); have zrB := HRB.out.cell (k := 2) (v := .slice t k q) rfl; have zfB := HRB.out.free (k := 2) (by simp); clear hout)
      have hout := HO.out
      rw [HRG.out] at hout
      obtain ⟨T3, hS10⟩ := hS.out.step HKX.out (S := NoBlk) (K7.out.alloc (.cells #[.int .i64 rg, .slice va nn vc] 51)) (fun q h => h.elim) (HU7.out.keeps0 ((Keeps.refl _ _).alloc _)) (fun kb e => ⟨(HUB.out kb e).1, Nat.lt_of_lt_of_le (HUB.out kb e).2 (by simp)⟩) (by rw [HRG.out]; exact hout)
      exact ⟨⟨k + 1, T3, _, t', q', by omega, by go_num, hS10⟩, by simp [intOf]; omega⟩
    · have hkn : nt = k := by omega
      subst hkn
      have hr2 := R2.out.keeps hS.out.keep HB12.out.2
      have y0 := hr2.cell (k := 0) (v := nilV) rfl
      have y1 := hr2.cell (k := 1) (v := .int .i64 0) rfl
      have y2 := hr2.cell (k := 2) (v := nilV) rfl
      have g0 := hr2.free (k := 0) (by decide)
      have g1 := hr2.free (k := 1) (by decide)
      have g2 := hr2.free (k := 2) (by decide)
      have hz := hS.out.row
      rw [← HE.out.2.2] at hz
      have v0 := hz.cell (k := 0) (v := .slice c1 nc q1) rfl
      have v1 := hz.cell (k := 1) (v := .int .i64 mu) rfl
      have v2 := hz.cell (k := 2) (v := .slice t nt q) rfl
      have HR2 := Lib.hid hr2
      have hS2 := hS.out
      rw [HE.out.2.1] at hS2
      have HDONE := Lib.hid hS2.done
      have HX : Hid (ExtI T T' id w) := hS.out.ext.later HK0.out.size
      have HYF := Lib.hid hS.out.tok
      have HB2T : Hid (T' b2 = none ∧ w.heap.size ≤ b2) := by
        obtain ⟨e1, e2, e3, e4⟩ := HB.out
        refine ⟨?_, by omega⟩
        cases e : T' b2 with
        | none => rfl
        | some z =>
          rcases hS.out.ext.2 b2 z e with h1 | h1
          · have := HTOK.out b2 z h1; omega
          · omega
      have ENT := Lib.hid HE.out.2.1
      clear hlt hk HS1 hS hS2 hr2 hz
      go_wp2_with fail
      have hrow : RowAt (((wr.setCell ⟨b2, 0, none⟩ (.slice c1 nc q1)).setCell ⟨b2, 1, none⟩ (.int .i64 mu)).setCell ⟨b2, 2, none⟩ (.slice t nt q)) b2 [.slice c1 nc q1, .int .i64 mu, .slice t nt q] := ((HR2.out.set 0 (by simp) _).set 1 (by simp) _).set 2 (by simp) _
      have hks : Keeps (fun q => q = b2) wr (((wr.setCell ⟨b2, 0, none⟩ (.slice c1 nc q1)).setCell ⟨b2, 1, none⟩ (.int .i64 mu)).setCell ⟨b2, 2, none⟩ (.slice t nt q)) := (((Keeps.refl (fun q => q = b2) wr).setCell (p := ⟨b2, 0, none⟩) (fun _ => rfl) _).setCell (p := ⟨b2, 1, none⟩) (fun _ => rfl) _).setCell (p := ⟨b2, 2, none⟩) (fun _ => rfl) _
      generalize ((wr.setCell ⟨b2, 0, none⟩ (.slice c1 nc q1)).setCell ⟨b2, 1, none⟩ (.int .i64 mu)).setCell ⟨b2, 2, none⟩ (.slice t nt q) = wE at hrow hks ⊢
      have hKE : Keeps NoBlk w wE := KW.out.trans hks (fun q hq e => by have e' : q = b2 := e; have := HB2T.out.2; omega)
      refine bodyPost_ret (v := .agg #[.slice c1 nc q1, .int .i64 mu, .slice t nt q]) (by simp [results, Try.results7, go_sem, hrow.cell (k := 0) rfl, hrow.cell (k := 1) rfl, hrow.cell (k := 2) rfl]) rfl ?_
      refine ⟨c1, nc, q1, t, nt, q, T', by rw [HE.out.2.2], ?_, HX.out, hKE⟩
      obtain ⟨us', hl, hf, ht, hi⟩ := HDONE.out.thr
      rw [← ENT.out] at hf ht
      have hnb : ∀ z, T' z ≠ none → ¬ (fun q => q = b2) z := fun z hz e => by have e' : z = b2 := e; rw [e'] at hz; exact hz HB2T.out.1
      refine ⟨HYF.out.keeps hks, HDONE.out.cells.keeps hks (fun z e => hnb z (by rw [e]; simp)), us', hl, ?_, ht, fun j u e => (hi j u e).keeps hks (fun z e => hnb z (by rw [e]; simp))⟩
      rw [← ENT.out]
      obtain ⟨ad, cap, e, h1, h2, h3⟩ := hf
      refine ⟨ad, cap, e, h1, h2, fun hn => ?_⟩
      obtain ⟨g, e1, e2, e3⟩ := h3 hn
      refine ⟨g, e1, e2, e3.keeps hks (hnb g ?_)⟩
      have := ht g (by rw [e, e1]; rfl)
      rw [this]; simp
end Go.Proofs.Ytmkfpkficmmlgaa
