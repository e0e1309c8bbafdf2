/- Layer 3: the threads of a program. -/
import Derived.Test.YtbkkpcignmcjnaaGreatDoorP17
import Derived.Test.YtbkkpcignmcjnaaGreatDoorP10
import Derived.Test.YtbkkpcignmcjnaaGreatDoorP18
namespace Go.Proofs.YtbkkpcignmcjnaaGreatDoor
set_option linter.unusedVariables false
set_option linter.unusedSimpArgs false
set_option linter.unnecessarySimpa false

def psForm : List (List St) → Bool
  | [] => true
  | t :: r => St.formL t && psForm r
def psDeep : List (List St) → Nat
  | [] => 0
  | t :: r => max (St.deepL 1 t) (psDeep r)
def psCnt : List (List St) → Nat
  | [] => 0
  | t :: r => St.cntL t + psCnt r
/-- a thread counts one, too -/
def psSz : List (List St) → Nat
  | [] => 0
  | t :: r => 1 + St.szL t + psSz r
def psNice : List (List St) → Prop
  | [] => True
  | t :: r => St.niceL t ∧ psNice r
theorem psSz_mem {ts : List (List St)} {t : List St} (h : t ∈ ts) : St.szL t < psSz ts := by
  induction ts with
  | nil => cases h
  | cons x r ih =>
    simp only [psSz]
    rcases List.mem_cons.1 h with e | e
    · subst e; omega
    · have := ih e; omega
theorem psNice_mem {ts : List (List St)} (hn : psNice ts) {t : List St} (h : t ∈ ts) : St.niceL t := by
  induction ts with
  | nil => cases h
  | cons x r ih =>
    simp only [psNice] at hn
    rcases List.mem_cons.1 h with e | e
    · subst e; exact hn.1
    · exact ih hn.2 e
theorem psDeep_le (ts : List (List St)) : psDeep ts ≤ 1 + psSz ts := by
  induction ts with
  | nil => simp [psDeep]
  | cons t r ih =>
    have := St.deepL_le 1 t
    simp only [psDeep, psSz]; omega
theorem psCnt_le (ts : List (List St)) : psCnt ts ≤ psSz ts := by
  induction ts with
  | nil => simp [psCnt]
  | cons t r ih =>
    have := St.cntL_le t
    simp only [psCnt, psSz]; omega
theorem psLen_le (ts : List (List St)) : ts.length ≤ psSz ts := by
  induction ts with
  | nil => simp
  | cons t r ih => simp only [psSz, List.length_cons]; omega
theorem psRoom : ∀ (i : Nat) (l : List (List St)), psCnt l + psSz (l.drop i) ≤ psSz l + psCnt (l.drop i)
  | 0, l => by rw [List.drop_zero]; omega
  | i + 1, [] => by simp [psCnt, psSz]
  | i + 1, x :: r => by
    have h1 := psRoom i r
    have h2 := St.cntL_le x
    rw [List.drop_succ_cons]
    simp only [psCnt, psSz]
    omega
/-- the threads, each with this name -/
def ThsAt (w : World) (F : Nat → Prop) (nm : ByteArray) (ts : List (List St)) (ad : Option Addr) : Prop :=
  ts.length ≤ 1000 ∧ ∀ i (hi : i < ts.length), ∃ g o ba bc, ad = some ⟨g, o, none⟩ ∧ F g ∧ w.cell? ⟨g, o + i * 2, none⟩ = some (.string nm) ∧ w.cell? ⟨g, o + i * 2 + 1, none⟩ = some (.slice ba ts[i].length bc) ∧ StsAt w F ts[i] ba
theorem ThsAt.len {w : World} {F : Nat → Prop} {nm : ByteArray} {ts : List (List St)} {ad : Option Addr} (h : ThsAt w F nm ts ad) : ts.length ≤ 1000 := h.1
theorem ThsAt.at {w : World} {F : Nat → Prop} {nm : ByteArray} {ts : List (List St)} {ad : Option Addr} (h : ThsAt w F nm ts ad) {i : Nat} (hi : i < ts.length) :
    ∃ g o ba bc, ad = some ⟨g, o, none⟩ ∧ F g ∧ w.cell? ⟨g, o + i * 2, none⟩ = some (.string nm) ∧ w.cell? ⟨g, o + i * 2 + 1, none⟩ = some (.slice ba ts[i].length bc) ∧ StsAt w F ts[i] ba := h.2 i hi
theorem ThsAt.keeps {S F : Nat → Prop} {w w' : World} {nm : ByteArray} {ts : List (List St)} {ad : Option Addr} (h : ThsAt w F nm ts ad) (hk : Keeps S w w') (hS : ∀ k, F k → ¬ S k) : ThsAt w' F nm ts ad := by
  refine ⟨h.1, fun i hi => ?_⟩
  obtain ⟨g, o, ba, bc, e, hg, c0, c1, hx⟩ := h.2 i hi
  exact ⟨g, o, ba, bc, e, hg, hk.cell (p := ⟨g, _, none⟩) (hS g hg) c0, hk.cell (p := ⟨g, _, none⟩) (hS g hg) c1, hx.keeps hk hS⟩
theorem ThsAt.mono {F F' : Nat → Prop} {w : World} {nm : ByteArray} {ts : List (List St)} {ad : Option Addr} (h : ThsAt w F nm ts ad) (hF : ∀ k, F k → F' k) : ThsAt w F' nm ts ad := by
  refine ⟨h.1, fun i hi => ?_⟩
  obtain ⟨g, o, ba, bc, e, hg, c0, c1, hx⟩ := h.2 i hi
  exact ⟨g, o, ba, bc, e, hF g hg, c0, c1, hx.mono hF⟩
end Go.Proofs.YtbkkpcignmcjnaaGreatDoor

/- Layer 3: the walker of programs, with the closures of form. Printed by gencl3.py. -/
namespace Go.Proofs.YtbkkpcignmcjnaaGreatDoor
open Go.RowKit
set_option linter.unusedVariables false
set_option linter.unusedSimpArgs false
set_option linter.unnecessarySimpa false

set_option maxRecDepth 8000 in
set_option maxHeartbeats 1000000 in
theorem program_f (nm : ByteArray) (ts : List (List St)) (w : World) (F : Nat → Prop) (pca pma ta : Option Addr) (pcn pcc pmn pmc tc c : Nat) (b : Bool) (h : ThsAt w F nm ts ta) (hnn : psNice ts) (hF : ¬ F c) (hc : RowAt w c [(.bool b)]) (hb : psSz ts < 900000000) :
    Calls Tryz.prog 76 #[.agg #[.func (.func 72) #[] #[.pointer (some ⟨c, 0, none⟩)], .func (.func 74) #[] #[.pointer (some ⟨c, 0, none⟩)]], .agg #[.slice pca pcn pcc, .slice pma pmn pmc, .slice ta ts.length tc]] w fun e w' => e = .returned (.tuple #[]) ∧ RowAt w' c [(.bool (b && psForm ts))] ∧ Keeps (fun q => q = c) w w' := by
  have HL := Lib.hid h
  have HF := Lib.hid hF
  have HCR := Lib.hid hc
  have HN := Lib.hid hnn
  have hl : ts.length ≤ 1000000000 := by have := h.len; omega
  have HB := Lib.hid hb
  obtain ⟨tot, ht⟩ : ∃ t : Bool, t = (b && psForm ts) := ⟨_, rfl⟩
  have HT0 := Lib.hid ht
  rw [← ht]
  have hlt0 := hc.lt (by simp)
  have hlt := Lib.hid hlt0
  clear h hF hc hb ht hlt0 hnn
  go_enter Tryz.func76, Tryz.ntmps76
  go_upto_region 1 with fail
  obtain ⟨b3, hb3⟩ : ∃ z, z = w.heap.size := ⟨_, rfl⟩
  obtain ⟨b4, hb4⟩ : ∃ z, z = w.heap.size + 1 := ⟨_, rfl⟩
  have hr3 : RowAt ((w.alloc (.cells #[.func (.func 72) #[] #[.pointer (some ⟨c, 0, none⟩)], .func (.func 74) #[] #[.pointer (some ⟨c, 0, none⟩)]] 116)).alloc (.cells #[.slice pca pcn pcc, .slice pma pmn pmc, .slice ta ts.length tc] 57)) b3 [.func (.func 72) #[] #[.pointer (some ⟨c, 0, none⟩)], .func (.func 74) #[] #[.pointer (some ⟨c, 0, none⟩)]] := by rw [hb3]; exact (RowAt.ofBlock (heap_alloc_new w _)).alloc _
  have hr4 : RowAt ((w.alloc (.cells #[.func (.func 72) #[] #[.pointer (some ⟨c, 0, none⟩)], .func (.func 74) #[] #[.pointer (some ⟨c, 0, none⟩)]] 116)).alloc (.cells #[.slice pca pcn pcc, .slice pma pmn pmc, .slice ta ts.length tc] 57)) b4 [.slice pca pcn pcc, .slice pma pmn pmc, .slice ta ts.length tc] := by rw [hb4]; exact RowAt.ofBlock (heap_alloc2 w _ _)
  have hk1 : Keeps NoBlk w ((w.alloc (.cells #[.func (.func 72) #[] #[.pointer (some ⟨c, 0, none⟩)], .func (.func 74) #[] #[.pointer (some ⟨c, 0, none⟩)]] 116)).alloc (.cells #[.slice pca pcn pcc, .slice pma pmn pmc, .slice ta ts.length tc] 57)) := ((Keeps.refl _ _).alloc _).alloc _
  rw [← hb4, ← hb3]
  generalize (w.alloc (.cells #[.func (.func 72) #[] #[.pointer (some ⟨c, 0, none⟩)], .func (.func 74) #[] #[.pointer (some ⟨c, 0, none⟩)]] 116)).alloc (.cells #[.slice pca pcn pcc, .slice pma pmn pmc, .slice ta ts.length tc] 57) = w1 at hr3 hr4 hk1 ⊢
  have HNE : Hid (b3 ≠ c) := by show _ ≠ _; have := hlt.out; omega
  have R3 := Lib.hid hr3
  have K1 := Lib.hid hk1
  have RC : Hid (RowAt w1 c [(.bool b)]) := HCR.out.keeps hk1 (fun h => h)
  have HLC : Hid (c < w1.heap.size) := RC.out.lt (by simp)
  obtain ⟨d0, d1, d2⟩ := hr4.three
  clear hr3 hr4 hk1 hb3 hb4 HCR
  go_wp2_with fail
  clear d0 d1 d2
  go_loopw [9] (fun iv wr => ∃ (i : Nat) (v : Bool), i ≤ ts.length ∧ iv = .int .i64 i ∧ Hid (RowAt wr c [(.bool v)]) ∧ Hid ((v && psForm (ts.drop i)) = tot) ∧ Hid (Keeps (fun q => q = c) w1 wr)) (fun iv _ => ts.length - (intOf iv).toNat)
  case atStart => exact ⟨0, b, Nat.zero_le _, rfl, RC, by show _ = _; rw [List.drop_zero]; exact HT0.out.symm, Keeps.refl _ _⟩
  case round =>
    obtain ⟨i, v, hi, rfl, HV, HD, HK⟩ := hrel
    by_cases hlt : i < ts.length
    · have i1 : (0 : Int) ≤ i := by omega
      have i2 : (i : Int) < ts.length := by omega
      have hd := HD.out
      rw [drop_at hlt] at hd
      simp only [psForm] at hd
      have hFc : ∀ q, F q → ¬ (fun q => q = c) q := fun q hq e => HF.out (by have e' : q = c := e; rw [← e']; exact hq)
      obtain ⟨g, o, ba, bc, e1, hg, d0, d1, hx⟩ := ((HL.out.keeps K1.out (fun _ _ h => h) : ThsAt w1 F nm ts ta).keeps HK.out hFc).at hlt
      subst e1
      have hsz := psSz_mem (List.getElem_mem hlt)
      have hB := HB.out
      obtain ⟨v1, hv1⟩ : ∃ v1 : Bool, v1 = (v && St.formL ts[i]) := ⟨_, rfl⟩
      have HS : Hid (∀ W, Keeps NoBlk wr W → Calls Tryz.prog 94 #[.agg #[.func (.func 72) #[] #[.pointer (some ⟨c, 0, none⟩)], .func (.func 74) #[] #[.pointer (some ⟨c, 0, none⟩)]], .slice ba ts[i].length bc, .int .i64 1] W fun e w' => e = .returned (.tuple #[]) ∧ RowAt w' c [(.bool v1)] ∧ Keeps (fun q => q = c) W w') := by
        rw [hv1]; exact fun W hk => swOk_f ts[i] W F ba bc c 1 v (hx.keeps hk (fun _ _ h => h)) (psNice_mem HN.out (List.getElem_mem hlt)) HF.out (HV.out.keeps hk (fun h => h)) (by omega)
      have HDN : Hid ((v1 && psForm (ts.drop (i + 1))) = tot) := by
        show _ = _
        rw [hv1]
        rw [← hd]; simp [Bool.and_assoc]
      clear hx hFc hd hsz hB hv1
      generalize ts[i].length = x1 at d1 HS
      go_upto_region 4 with fail
      obtain ⟨b7, hb7⟩ : ∃ z, z = wr.heap.size := ⟨_, rfl⟩
      have hr7 : RowAt (wr.alloc (.cells #[.string nm, .slice ba x1 bc] 62)) b7 [.string nm, .slice ba x1 bc] := by rw [hb7]; exact RowAt.ofBlock (heap_alloc_new wr _)
      have hk7 : Keeps NoBlk wr (wr.alloc (.cells #[.string nm, .slice ba x1 bc] 62)) := (Keeps.refl _ _).alloc _
      rw [← hb7]
      generalize wr.alloc (.cells #[.string nm, .slice ba x1 bc] 62) = w7 at hr7 hk7 ⊢
      have y1 := hr7.cell (k := 1) (v := .slice ba x1 bc) rfl
      have r3 := (R3.out.keeps HK.out (fun e => HNE.out e)).keeps hk7 (fun h => h)
      have q0 := r3.cell (k := 0) (v := .func (.func 72) #[] #[.pointer (some ⟨c, 0, none⟩)]) rfl
      have q1 := r3.cell (k := 1) (v := .func (.func 74) #[] #[.pointer (some ⟨c, 0, none⟩)]) rfl
      have K7 := Lib.hid hk7
      clear hr7 hk7 r3 hb7 d0 d1
      go_wp2_with (go_at_call 94; refine (HS.out _ K7.out).mono ?_; rintro e w8 ⟨rfl, r8, g8⟩; have R8 := Lib.hid r8; have G8 := Lib.hid g8; clear r8 g8)
      go_roundw
      case rel => exact ⟨i + 1, v1, by omega, by go_num, R8, HDN, (HK.out.trans K7.out (fun _ _ h => False.elim h)).trans G8.out (fun _ _ h => h)⟩
      case measure => simp [intOf]; omega
    · obtain rfl : i = ts.length := by omega
      have hd := HD.out
      rw [List.drop_length] at hd
      simp only [psForm] at hd
      have hd2 : v = tot := by rw [← hd]; simp
      subst hd2
      go_wp2_with fail
      go_end0
      exact ⟨rfl, HV.out, (K1.out.mono (S := fun q => q = c) (fun _ _ h => False.elim h)).trans HK.out (fun _ _ h => h)⟩
end Go.Proofs.YtbkkpcignmcjnaaGreatDoor
