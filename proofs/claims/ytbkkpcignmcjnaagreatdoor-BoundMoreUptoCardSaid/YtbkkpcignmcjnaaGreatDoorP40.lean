/- Layer 7: bound's steps and work of a unit. -/
import Derived.Test.YtbkkpcignmcjnaaGreatDoorP39
import Derived.Shelf.Strings.Builder1
import Derived.Shelf.Strings.BuilderF
import Derived.Shelf.Strings.BuilderK
import Derived.Shelf.LaysM
import Derived.Shelf.Strconv.Itoa3
import Derived.Shelf.Strings.Repeat
import Derived.Ground.NamesProg
import Derived.Test.YtbkkpcignmcjnaaGreatDoorProg
namespace Go.Proofs.YtbkkpcignmcjnaaGreatDoor
open Go.RowKit
set_option linter.unusedVariables false
set_option linter.unusedSimpArgs false
set_option linter.unnecessarySimpa false

set_option maxRecDepth 8000 in
set_option maxHeartbeats 4000000 in
theorem whole_any (cs : List Int) (mu : Int) (bs : List Bd) (w : World) (F : Nat → Prop) (uca uta : Option Addr) (ucc utc : Nat) (hbd : BdsAt w F bs uta) (hF : ∀ k, F k → k < w.heap.size) (hok : bsOk bs) (hsz : bsSz bs < 900000000) (hl2 : bs.length < 1000000000) :
    Calls Tryz.prog 18 #[.agg #[.slice uca cs.length ucc, .int .i64 mu, .slice uta bs.length utc]] w fun e w' => ∃ z1 z2, e = .returned (.agg #[z1, z2]) ∧ NumV w' (fun _ => True) 1000000000 (unS bs) z1 ∧ NumV w' (fun _ => True) 1000000000 (unW bs) z2 ∧ Keeps NoBlk w w' := by
  have HBD := Lib.hid hbd
  have HOK := Lib.hid hok
  have HSZ := Lib.hid hsz
  have HFs := Lib.hid hF
  have HLL : Hid (∀ m, m ≤ unW bs + 1 → (dig 1000000000 m).length ≤ 12000000000) := fun m hm => un_dlen (by decide) hok hsz hl2 hm
  obtain ⟨Q, hQ⟩ : ∃ Q : Ending → World → Prop, Q = fun e w' => ∃ z1 z2, e = .returned (.agg #[z1, z2]) ∧ NumV w' (fun _ => True) 1000000000 (unS bs) z1 ∧ NumV w' (fun _ => True) 1000000000 (unW bs) z2 ∧ Keeps NoBlk w w' := ⟨_, rfl⟩
  have HQ := Lib.hid hQ
  rw [← hQ]
  clear hbd hok hsz hF hQ
  go_enter Tryz.func18, Tryz.ntmps18
  go_upto_region 2 with fail
  obtain ⟨b1, hb1⟩ : ∃ z, z = w.heap.size := ⟨_, rfl⟩
  obtain ⟨b2, hb2⟩ : ∃ z, z = w.heap.size + 1 := ⟨_, rfl⟩
  obtain ⟨b3, hb3⟩ : ∃ z, z = w.heap.size + 1 + 1 := ⟨_, rfl⟩
  rw [← hb3, ← hb2, ← hb1]
  obtain ⟨wA, hwA⟩ : ∃ z, z = w.alloc (.cells #[.slice uca cs.length ucc, .int .i64 mu, .slice uta bs.length utc] 25) := ⟨_, rfl⟩
  obtain ⟨wB, hwB⟩ : ∃ z, z = wA.alloc (.cells #[.slice none 0 0, .slice none 0 0] 43) := ⟨_, rfl⟩
  obtain ⟨w1, hw1⟩ : ∃ z, z = wB.alloc (.cells #[.slice none 0 0, .slice none 0 0] 43) := ⟨_, rfl⟩
  rw [← hwA, ← hwB, ← hw1]
  have kA : Keeps NoBlk w wA := by rw [hwA]; exact (Keeps.refl _ _).alloc _
  have kB : Keeps NoBlk wA wB := by rw [hwB]; exact (Keeps.refl _ _).alloc _
  have k1 : Keeps NoBlk wB w1 := by rw [hw1]; exact (Keeps.refl _ _).alloc _
  have sA : wA.heap.size = w.heap.size + 1 := by rw [hwA]; simp
  have sB : wB.heap.size = w.heap.size + 1 + 1 := by rw [hwB]; simp [sA]
  have r1 : RowAt wA b1 [.slice uca cs.length ucc, .int .i64 mu, .slice uta bs.length utc] := by rw [hb1, hwA]; exact RowAt.ofBlock (heap_alloc_new w _)
  have r2 : Cnt wB b2 (.slice none 0 0) (.slice none 0 0) := by rw [hb2, ← sA, hwB]; exact Cnt.ofBlock (heap_alloc_new wA _)
  have r3 : Cnt w1 b3 (.slice none 0 0) (.slice none 0 0) := by rw [hb3, ← sB, hw1]; exact Cnt.ofBlock (heap_alloc_new wB _)
  have R1 := r1.keeps (kB.trans0 k1) (fun h => h)
  have C2 : Hid (Cnt w1 b2 (.slice none 0 0) (.slice none 0 0)) := r2.keeps0 k1
  have C3 := Lib.hid r3
  have K1 : Hid (Keeps NoBlk w w1) := (kA.trans0 kB).trans0 k1
  have HS : Hid (w.heap.size ≤ b2 ∧ w.heap.size ≤ b3 ∧ b2 ≠ b3) := ⟨by omega, by omega, by omega⟩
  obtain ⟨y0, y1, y2⟩ := R1.three
  clear hwA hwB hw1 kA kB k1 sA sB r1 r2 r3 hb1 hb2 hb3 R1
  go_upto_region 3 with fail
  clear y0 y1 y2
  go_loopw [10] (fun iv wr => ∃ i : Nat, i ≤ bs.length ∧ iv = .int .i64 i ∧ Hid (CInv b3 w1 (unS (bs.take i)) (unW (bs.take i)) wr)) (fun iv _ => bs.length - (intOf iv).toNat)
  case atStart => exact ⟨0, Nat.zero_le _, rfl, none, 0, 0, none, 0, 0, C3.out, NumV.zero _ _ _, NumV.zero _ _ _, Keeps.refl _ _⟩
  case round =>
    obtain ⟨i, hi, rfl, HI⟩ := hrel
    obtain ⟨a1, l1, c1, a2, l2, c2, hc, hn, hm, hk⟩ := HI.out
    have HC := Lib.hid hc
    have HN := Lib.hid hn
    have HM := Lib.hid hm
    have HK := Lib.hid hk
    have KW : Hid (Keeps NoBlk w wr) := K1.out.trans hk (fun q hq e => by have e' : q = b3 := e; have := HS.out; omega)
    clear hc hn hm hk HI
    by_cases hlt : i < bs.length
    · have i1 : (0 : Int) ≤ i := by omega
      have i2 : (i : Int) < bs.length := by omega
      obtain ⟨g, o, ba, bc, e1, hg, d0, d1, hx⟩ := (HBD.out.keeps KW.out (fun _ _ h => h)) i hlt
      subst e1
      have hokb := HOK.out _ (List.getElem_mem hlt)
      have hszb : Ac.szL bs[i].acts < 1000000000 := by have := bsSz_mem (List.getElem_mem hlt); have := HSZ.out; omega
      have HTT : Hid (∀ W, Keeps NoBlk wr W → Calls Tryz.prog 33 #[.slice ba bs[i].acts.length bc] W fun e w' => ∃ z1 z2, e = .returned (.agg #[z1, z2]) ∧ NumV w' (fun _ => True) 1000000000 (Ac.stpL bs[i].acts) z1 ∧ NumV w' (fun _ => True) 1000000000 (Ac.wrkL bs[i].acts) z2 ∧ Keeps NoBlk W w') := fun W hk => bActsOk _ W F ba bc (hx.keeps hk (fun _ _ h => h)) (fun k h => Nat.lt_of_lt_of_le (Nat.lt_of_lt_of_le (HFs.out k h) KW.out.size) hk.size) hszb hokb
      have HTS := Lib.hid (unS_take hlt)
      have HTW := Lib.hid (unW_take hlt)
      have HPS : Hid (unS (bs.take i) + (Ac.stpL bs[i].acts + 1) ≤ unW bs) := by have h1 := unS_part bs (i + 1); have h2 := unS_le bs; rw [unS_take hlt] at h1; show _ ≤ _; omega
      have HPW : Hid (unW (bs.take i) + (Ac.wrkL bs[i].acts + 1) ≤ unW bs) := by have h1 := unW_part bs (i + 1); rw [unW_take hlt] at h1; show _ ≤ _; omega
      clear hx hokb hszb
      generalize Ac.stpL bs[i].acts = ts at HTT HTS HPS
      generalize Ac.wrkL bs[i].acts = tw at HTT HTW HPW
      generalize bs[i].acts.length = x1 at d1 HTT
      generalize bs[i].regs = x0 at d0
      go_upto_region 5 with fail
      obtain ⟨b5, hb5⟩ : ∃ z, z = wr.heap.size := ⟨_, rfl⟩
      have hr5 : RowAt (wr.alloc (.cells #[.int .i64 x0, .slice ba x1 bc] 34)) b5 [.int .i64 x0, .slice ba x1 bc] := by rw [hb5]; exact RowAt.ofBlock (heap_alloc_new wr _)
      have hk5 : Keeps NoBlk wr (wr.alloc (.cells #[.int .i64 x0, .slice ba x1 bc] 34)) := (Keeps.refl _ _).alloc _
      rw [← hb5]
      generalize wr.alloc (.cells #[.int .i64 x0, .slice ba x1 bc] 34) = w5 at hr5 hk5 ⊢
      obtain ⟨y0, y1⟩ := hr5.two
      have K5 := Lib.hid hk5
      clear hr5 hk5 hb5 d0 d1
      go_upto_region 6 with (go_at_call 33; refine (HTT.out _ K5.out).mono ?_; rintro e w6 ⟨u1, u2, rfl, n1, n2, g6⟩; have U1 := Lib.hid n1; have U2 := Lib.hid n2; obtain ⟨p1, r1, rfl, _⟩ := n1; generalize (dig 1000000000 ts).length = q1 at U1 ⊢; obtain ⟨p2, r2, rfl, _⟩ := n2; generalize (dig 1000000000 tw).length = q2 at U2 ⊢; have G6 : Hid (Keeps NoBlk wr w6) := K5.out.trans0 g6; clear g6 y0 y1)
      obtain ⟨b6, hb6⟩ : ∃ z, z = w6.heap.size := ⟨_, rfl⟩
      have hc6 : Cnt (w6.alloc (.cells #[.slice p1 q1 r1, .slice p2 q2 r2] 43)) b6 (.slice p1 q1 r1) (.slice p2 q2 r2) := by rw [hb6]; exact Cnt.ofBlock (heap_alloc_new w6 _)
      have hkX : Keeps NoBlk w6 (w6.alloc (.cells #[.slice p1 q1 r1, .slice p2 q2 r2] 43)) := (Keeps.refl _ _).alloc _
      rw [← hb6]
      generalize w6.alloc (.cells #[.slice p1 q1 r1, .slice p2 q2 r2] 43) = wX at hc6 hkX ⊢
      have hk := G6.out.trans0 hkX
      have CX := Lib.hid (HC.out.keeps0 hk)
      have NX := Lib.hid (HN.out.keeps0 hk)
      have MX := Lib.hid (HM.out.keeps0 hk)
      have UX1 := Lib.hid (U1.out.keeps0 hkX)
      have UX2 := Lib.hid (U2.out.keeps0 hkX)
      have KX : Hid (Keeps (fun k => k = b3) w1 wX) := HK.out.trans hk (fun _ _ h => h.elim)
      obtain ⟨y60, y61⟩ := hc6.row.two
      obtain ⟨t0, t1⟩ := CX.out.row.two
      clear hc6 hkX hk hb6 HC HN HM HK U1 U2 G6 K5
      have HDC : Hid (∀ (a b c d : Nat) (W : World) (s v u1 u2 : Value), (a ≤ unW bs ∧ b ≤ unW bs ∧ c ≤ unW bs ∧ d ≤ unW bs) → NumV W (fun _ => True) 1000000000 a s → NumV W (fun _ => True) 1000000000 b v → NumV W (fun _ => True) 1000000000 c u1 → NumV W (fun _ => True) 1000000000 d u2 →
          Calls Tryz.prog 34 #[.agg #[s, v], u1, u2] W fun e w' => ∃ z1 z2, e = .returned (.agg #[z1, z2]) ∧ NumV w' (fun _ => True) 1000000000 (a + c) z1 ∧ NumV w' (fun _ => True) 1000000000 (b + d) z2 ∧ Keeps NoBlk W w') := fun a b c d W s v u1 u2 h h1 h2 h3 h4 => countPlus_any a b c d W s v u1 u2 h1 h2 h3 h4 (by have := HLL.out a (by omega); omega) (by have := HLL.out b (by omega); omega) (by have := HLL.out c (by omega); omega) (by have := HLL.out d (by omega); omega)
      have E1 : Hid (1 ≤ unW bs) := by have := HPW.out; show _ ≤ _; omega
      go_upto_region 7 with (first
        | (go_at_call 25; have _tag := O8; refine (smallV 1 (by decide) _).mono ?_; rintro e w9 ⟨z9, rfl, n9, g9⟩; have O9 : Hid (NumV w9 (fun _ => True) 1000000000 1 z9) := n9.mono (fun _ _ => trivial); have O89 := Lib.hid (O8.out.keeps0 g9); have N9 := Lib.hid (N8.out.keeps0 g9); have M9 := Lib.hid (M8.out.keeps0 g9); have G9 : Hid (Keeps NoBlk wX w9) := G8.out.trans0 g9; clear g9 n9 _tag)
        | (go_at_call 25; refine (smallV 1 (by decide) _).mono ?_; rintro e w8 ⟨z8, rfl, n8, g8⟩; have O8 : Hid (NumV w8 (fun _ => True) 1000000000 1 z8) := n8.mono (fun _ _ => trivial); have N8 := Lib.hid (N7.out.keeps0 g8); have M8 := Lib.hid (M7.out.keeps0 g8); have G8 : Hid (Keeps NoBlk wX w8) := G7.out.trans0 g8; clear g8 n8)
        | (go_at_call 34; have _tag := N9; refine (HDC.out (unS (bs.take i) + ts) (unW (bs.take i) + tw) 1 1 _ _ _ _ _ (by have := HPS.out; have := HPW.out; omega) N9.out M9.out O89.out O9.out).mono ?_; rintro e w10 ⟨z11, z12, rfl, n10, m10, g10⟩; have N10 := Lib.hid n10; have M10 := Lib.hid m10; obtain ⟨p3, r3, rfl, _⟩ := n10; generalize (dig 1000000000 (unS (bs.take i) + ts + 1)).length = q3 at N10 ⊢; obtain ⟨p4, r4, rfl, _⟩ := m10; generalize (dig 1000000000 (unW (bs.take i) + tw + 1)).length = q4 at M10 ⊢; have G10 : Hid (Keeps NoBlk wX w10) := G9.out.trans0 g10; have C10 := Lib.hid (CX.out.keeps0 G10.out); have c := C10.out.row.two; obtain ⟨t0, t1⟩ := c; have f0 := C10.out.row.free (k := 0) (by simp); have f1 := C10.out.row.free (k := 1) (by simp); clear g10 _tag)
        | (go_at_call 34; refine (HDC.out (unS (bs.take i)) (unW (bs.take i)) ts tw _ _ _ _ _ (by have := HPS.out; have := HPW.out; omega) NX.out MX.out UX1.out UX2.out).mono ?_; rintro e w7 ⟨z5, z6, rfl, n7, m7, g7⟩; have N7 := Lib.hid n7; have M7 := Lib.hid m7; have G7 := Lib.hid g7; clear g7 n7 m7 t0 t1 y60 y61))
      go_wp2_with fail
      go_roundw
      case rel =>
        refine ⟨i + 1, by omega, by go_num, ?_⟩
        show CInv _ _ _ _ _
        rw [HTS.out, HTW.out, ← Nat.add_assoc, ← Nat.add_assoc]
        exact CInv.put C10.out N10.out M10.out (KX.out.trans G10.out (fun _ _ h => h.elim))
      case measure => simp [intOf]; omega
    · obtain rfl : i = bs.length := by omega
      have h1 := HN.out
      have h2 := HM.out
      rw [List.take_length] at h1 h2
      have HE1 := Lib.hid h1
      have HE2 := Lib.hid h2
      clear h1 h2 HN HM
      obtain ⟨t0, t1⟩ := HC.out.row.two
      have C2r : Hid (Cnt wr b2 (.slice none 0 0) (.slice none 0 0)) := C2.out.keeps HK.out (fun e => HS.out.2.2 e)
      obtain ⟨u0, u1⟩ := C2r.out.row.two
      have f0 := C2r.out.row.free (k := 0) (by simp)
      have f1 := C2r.out.row.free (k := 1) (by simp)
      go_wp2_with fail
      obtain ⟨hrow, hks⟩ := C2r.out.put (a1 := a1) (l1 := l1) (c1 := c1) (a2 := a2) (l2 := l2) (c2 := c2)
      generalize (wr.setCell ⟨b2, 0, none⟩ (.slice a1 l1 c1)).setCell ⟨b2, 1, none⟩ (.slice a2 l2 c2) = wE at hrow hks ⊢
      refine bodyPost_ret (v := .agg #[.slice a1 l1 c1, .slice a2 l2 c2]) (by simp [results, Tryz.results18, go_sem, hrow.row.cell (k := 0) rfl, hrow.row.cell (k := 1) rfl]) rfl ?_
      rw [HQ.out]
      exact ⟨_, _, rfl, HE1.out.stored C2r.out hks, HE2.out.stored C2r.out hks, KW.out.trans hks (fun q hq e => by have e' : q = b2 := e; have := HS.out; omega)⟩
end Go.Proofs.YtbkkpcignmcjnaaGreatDoor

/- The library's contracts at this dump: laid by the shelf's tools (lay-shelf, lay-plain); WriteString's laying by hand. -/
namespace Go.Proofs
open Go.Shelf
def Tryz.lays166_ren : Go.Shelf.Ren := ⟨fun | 166 => 37 | 240 => 61 | 276 => 90 | n => n, fun | 70 => 72 | 9 => 9 | 0 => 0 | 72 => 75 | 37 => 73 | 3 => 3 | 4 => 4 | 5 => 5 | 20 => 20 | 75 => 79 | 80 => 45 | 164 => 128 | n => n, fun | n => n⟩
theorem Tryz.lays166 : Go.Proofs.Lays.n166 Tryz.prog Tryz.lays166_ren := {
  mixed := by kernel_rfl
  f166 := Tryz.func37.trans (congrArg some (by kernel_rfl))
  f240 := Tryz.func61.trans (congrArg some (by kernel_rfl))
  f276 := Tryz.func90.trans (congrArg some (by kernel_rfl))
  t0 := Tryz.underlying0
  a0 := Tryz.isAgg0
  z0 := Tryz.sizeOf0
  v0 := Tryz.zeroValue0
  t3 := Tryz.underlying3
  a3 := Tryz.isAgg3
  z3 := Tryz.sizeOf3
  v3 := Tryz.zeroValue3
  t4 := Tryz.underlying4
  a4 := Tryz.isAgg4
  z4 := Tryz.sizeOf4
  v4 := Tryz.zeroValue4
  t9 := Tryz.underlying9
  a9 := Tryz.isAgg9
  z9 := Tryz.sizeOf9
  v9 := Tryz.zeroValue9
  t20 := Tryz.underlying20
  a20 := Tryz.isAgg20
  z20 := Tryz.sizeOf20
  v20 := Tryz.zeroValue20
  t37 := Tryz.underlying73
  a37 := Tryz.isAgg73
  z37 := Tryz.sizeOf73
  v37 := Tryz.zeroValue73
  t70 := Tryz.underlying72
  a70 := Tryz.isAgg72
  z70 := Tryz.sizeOf72
  v70 := Tryz.zeroValue72
  t72 := Tryz.underlying75
  a72 := Tryz.isAgg75
  z72 := Tryz.sizeOf75
  v72 := Tryz.zeroValue75
  t75 := Tryz.underlying79
  a75 := Tryz.isAgg79
  z75 := Tryz.sizeOf79
  v75 := Tryz.zeroValue79
  t164 := Tryz.underlying128
  a164 := Tryz.isAgg128
  z164 := Tryz.sizeOf128
  v164 := Tryz.zeroValue128 }
theorem Tryz.Builder_Extra_166 : Builder.Extra Tryz.prog Tryz.lays166_ren := {
  sizeBuilder := by kernel_rfl
  liesBuilder := by kernel_rfl
  t5 := Tryz.underlying5
  a5 := Tryz.isAgg5
  z5 := Tryz.sizeOf5
  v5 := Tryz.zeroValue5
  infoByte := by kernel_rfl
  cellsByte := by kernel_rfl
  sizeByte := by kernel_rfl
  neB5 := by decide }
open Go.RowKit in
theorem Tryz.Builder_WriteString_k (B b : Nat) (bs : List Value) (s : ByteArray) (w : World) (h : Lib.IsBuilderF 75 5 B b bs w) (hlen : bs.length + s.size ≤ 140737488355328) (hBw : B ≤ w.heap.size) :
    Calls Tryz.prog 37 #[.pointer (some ⟨b, 0, none⟩), .string s] w fun e w' => e = .returned (.tuple #[.int .i64 s.size, .nilIface]) ∧ (Lib.BuilderAtF 75 5 B b (.pointer (some ⟨b, 0, none⟩)) (bs ++ Lib.strCells s) w' ∧ Below B w w' ∧ Lib.OthersKept 5 (some b) w w') := Any.Builder_WriteString_k Tryz.lays166 Tryz.Builder_Extra_166 B b bs s w h hlen hBw
def Tryz.lays169_ren : Go.Shelf.Ren := ⟨fun | 169 => 38 | n => n, fun | 70 => 72 | 9 => 9 | 0 => 0 | 72 => 75 | 37 => 73 | 127 => 104 | 3 => 3 | 5 => 5 | n => n, fun | n => n⟩
theorem Tryz.lays169 : Go.Proofs.Lays.n169 Tryz.prog Tryz.lays169_ren := {
  mixed := by kernel_rfl
  f169 := Tryz.func38.trans (congrArg some (by kernel_rfl))
  t0 := Tryz.underlying0
  a0 := Tryz.isAgg0
  z0 := Tryz.sizeOf0
  v0 := Tryz.zeroValue0
  t3 := Tryz.underlying3
  a3 := Tryz.isAgg3
  z3 := Tryz.sizeOf3
  v3 := Tryz.zeroValue3
  t9 := Tryz.underlying9
  a9 := Tryz.isAgg9
  z9 := Tryz.sizeOf9
  v9 := Tryz.zeroValue9
  t37 := Tryz.underlying73
  a37 := Tryz.isAgg73
  z37 := Tryz.sizeOf73
  v37 := Tryz.zeroValue73
  t70 := Tryz.underlying72
  a70 := Tryz.isAgg72
  z70 := Tryz.sizeOf72
  v70 := Tryz.zeroValue72
  t72 := Tryz.underlying75
  a72 := Tryz.isAgg75
  z72 := Tryz.sizeOf75
  v72 := Tryz.zeroValue75
  t127 := Tryz.underlying104
  a127 := Tryz.isAgg104
  z127 := Tryz.sizeOf104
  v127 := Tryz.zeroValue104 }
theorem Tryz.Builder_Extra_169 : Builder.Extra Tryz.prog Tryz.lays169_ren := {
  sizeBuilder := by kernel_rfl
  liesBuilder := by kernel_rfl
  t5 := Tryz.underlying5
  a5 := Tryz.isAgg5
  z5 := Tryz.sizeOf5
  v5 := Tryz.zeroValue5
  infoByte := by kernel_rfl
  cellsByte := by kernel_rfl
  sizeByte := by kernel_rfl
  neB5 := by decide }
open Go.RowKit in
theorem Tryz.Builder_String_any_k (B b : Nat) (l : List UInt8) (w : World) (h : Lib.IsBuilderF 75 5 B b (Lib.byteCells l) w) (hBw : B ≤ w.heap.size) :
    Calls Tryz.prog 38 #[.pointer (some ⟨b, 0, none⟩)] w fun e w' => e = .returned (.string ⟨l.toArray⟩) ∧ (Lib.IsBuilderF 75 5 B b (Lib.byteCells l) w' ∧ Below B w w' ∧ Lib.OthersKept 5 (some b) w w') := Any.Builder_String_any_k Tryz.lays169 Tryz.Builder_Extra_169 B b l w h hBw
def Tryz.laysM171_ren : Go.Shelf.Ren := ⟨fun | 171 => 35 | 243 => 56 | 246 => 85 | 283 => 95 | 284 => 96 | 285 => 97 | 286 => 98 | 129 => 105 | 317 => 104 | 318 => 106 | 319 => 107 | 320 => 108 | 337 => 120 | 338 => 121 | n => n, fun | 3 => 3 | 9 => 9 | 2 => 2 | 4 => 4 | 171 => 144 | 0 => 0 | 53 => 125 | 37 => 73 | 5 => 5 | 173 => 147 | 212 => 157 | 51 => 122 | 20 => 20 | 213 => 158 | 46 => 99 | 232 => 176 | 233 => 177 | n => n, fun | 17 => 0 | 18 => 2 | 19 => 3 | n => n⟩
theorem Tryz.laysM171 : Go.Proofs.LaysM.n171 Tryz.prog Tryz.laysM171_ren := {
  mixed := by kernel_rfl
  f129 := Tryz.func105.trans (congrArg some (by kernel_rfl))
  f171 := Tryz.func35.trans (congrArg some (by kernel_rfl))
  f243 := Tryz.func56.trans (congrArg some (by kernel_rfl))
  f246 := Tryz.func85.trans (congrArg some (by kernel_rfl))
  f283 := Tryz.func95.trans (congrArg some (by kernel_rfl))
  f284 := Tryz.func96.trans (congrArg some (by kernel_rfl))
  f285 := Tryz.func97.trans (congrArg some (by kernel_rfl))
  f286 := Tryz.func98.trans (congrArg some (by kernel_rfl))
  f317 := Tryz.func104.trans (congrArg some (by kernel_rfl))
  f318 := Tryz.func106.trans (congrArg some (by kernel_rfl))
  f319 := Tryz.func107.trans (congrArg some (by kernel_rfl))
  f320 := Tryz.func108.trans (congrArg some (by kernel_rfl))
  f337 := Tryz.func120.trans (congrArg some (by kernel_rfl))
  f338 := Tryz.func121.trans (congrArg some (by kernel_rfl))
  t0 := Tryz.underlying0
  a0 := Tryz.isAgg0
  z0 := Tryz.sizeOf0
  v0 := Tryz.zeroValue0
  t2 := Tryz.underlying2
  a2 := Tryz.isAgg2
  z2 := Tryz.sizeOf2
  v2 := Tryz.zeroValue2
  t3 := Tryz.underlying3
  a3 := Tryz.isAgg3
  z3 := Tryz.sizeOf3
  v3 := Tryz.zeroValue3
  t4 := Tryz.underlying4
  a4 := Tryz.isAgg4
  z4 := Tryz.sizeOf4
  v4 := Tryz.zeroValue4
  t5 := Tryz.underlying5
  a5 := Tryz.isAgg5
  z5 := Tryz.sizeOf5
  v5 := Tryz.zeroValue5
  t9 := Tryz.underlying9
  a9 := Tryz.isAgg9
  z9 := Tryz.sizeOf9
  v9 := Tryz.zeroValue9
  t20 := Tryz.underlying20
  a20 := Tryz.isAgg20
  z20 := Tryz.sizeOf20
  v20 := Tryz.zeroValue20
  t37 := Tryz.underlying73
  a37 := Tryz.isAgg73
  z37 := Tryz.sizeOf73
  v37 := Tryz.zeroValue73
  t46 := Tryz.underlying99
  a46 := Tryz.isAgg99
  z46 := Tryz.sizeOf99
  v46 := Tryz.zeroValue99
  t51 := Tryz.underlying122
  a51 := Tryz.isAgg122
  z51 := Tryz.sizeOf122
  v51 := Tryz.zeroValue122
  t53 := Tryz.underlying125
  a53 := Tryz.isAgg125
  z53 := Tryz.sizeOf125
  v53 := Tryz.zeroValue125
  t171 := Tryz.underlying144
  a171 := Tryz.isAgg144
  z171 := Tryz.sizeOf144
  v171 := Tryz.zeroValue144
  t173 := Tryz.underlying147
  a173 := Tryz.isAgg147
  z173 := Tryz.sizeOf147
  v173 := Tryz.zeroValue147
  t212 := Tryz.underlying157
  a212 := Tryz.isAgg157
  z212 := Tryz.sizeOf157
  v212 := Tryz.zeroValue157
  t213 := Tryz.underlying158
  a213 := Tryz.isAgg158
  z213 := Tryz.sizeOf158
  t232 := Tryz.underlying176
  a232 := Tryz.isAgg176
  z232 := Tryz.sizeOf176
  v232 := Tryz.zeroValue176
  t233 := Tryz.underlying177
  a233 := Tryz.isAgg177
  z233 := Tryz.sizeOf177
  v233 := Tryz.zeroValue177
  g17 := by kernel_rfl
  g18 := by kernel_rfl
  g19 := by kernel_rfl
  i0 := by kernel_rfl
  i2 := by kernel_rfl
  i3 := by kernel_rfl
  i4 := by kernel_rfl
  i5 := by kernel_rfl
  i9 := by kernel_rfl
  i20 := by kernel_rfl
  i37 := by kernel_rfl
  i46 := by kernel_rfl
  i51 := by kernel_rfl
  i53 := by kernel_rfl
  i171 := by kernel_rfl
  i173 := by kernel_rfl
  i212 := by kernel_rfl
  i232 := by kernel_rfl
  i233 := by kernel_rfl
  m17 := by kernel_rfl
  m18 := by kernel_rfl
  m19 := by kernel_rfl }
open Go.RowKit Go.Sort Go.Lib in
theorem Tryz.strconv_Itoa (n : Int) (h0 : -9223372036854775808 ≤ n) (h1 : n ≤ 9223372036854775807) (w : World) (htab : Lib.TabIs Tryz.prog w "internal/strconv.uint64pow10" .u64 Lib.pow10Tab) :
    Calls Tryz.prog 35 #[.int .i64 n] w fun e w' => e = .returned (.string ⟨(Lib.itoa n).toArray⟩) ∧ ∃ k os, w' = grow (w.drewN k) os := Any.strconv_Itoa Tryz.laysM171 n h0 h1 w htab
def Tryz.lays105_ren : Go.Shelf.Ren := ⟨fun | 105 => 36 | 212 => 57 | 99 => 58 | 165 => 59 | 166 => 37 | 170 => 60 | 169 => 38 | 263 => 86 | 264 => 87 | 206 => 88 | 240 => 61 | 241 => 89 | 276 => 90 | 277 => 99 | n => n, fun | 9 => 9 | 3 => 3 | 4 => 4 | 20 => 20 | 0 => 0 | 46 => 99 | 109 => 100 | 5 => 5 | 72 => 75 | 76 => 80 | 51 => 122 | 146 => 123 | 53 => 125 | 148 => 126 | 70 => 72 | 37 => 73 | 75 => 79 | 127 => 104 | 164 => 128 | 80 => 45 | n => n, fun | n => n⟩
theorem Tryz.lays105 : Go.Proofs.Lays.n105 Tryz.prog Tryz.lays105_ren := {
  mixed := by kernel_rfl
  f99 := Tryz.func58.trans (congrArg some (by kernel_rfl))
  f105 := Tryz.func36.trans (congrArg some (by kernel_rfl))
  f165 := Tryz.func59.trans (congrArg some (by kernel_rfl))
  f166 := Tryz.func37.trans (congrArg some (by kernel_rfl))
  f169 := Tryz.func38.trans (congrArg some (by kernel_rfl))
  f170 := Tryz.func60.trans (congrArg some (by kernel_rfl))
  f206 := Tryz.func88.trans (congrArg some (by kernel_rfl))
  f212 := Tryz.func57.trans (congrArg some (by kernel_rfl))
  f240 := Tryz.func61.trans (congrArg some (by kernel_rfl))
  f241 := Tryz.func89.trans (congrArg some (by kernel_rfl))
  f263 := Tryz.func86.trans (congrArg some (by kernel_rfl))
  f264 := Tryz.func87.trans (congrArg some (by kernel_rfl))
  f276 := Tryz.func90.trans (congrArg some (by kernel_rfl))
  f277 := Tryz.func99.trans (congrArg some (by kernel_rfl))
  t0 := Tryz.underlying0
  a0 := Tryz.isAgg0
  z0 := Tryz.sizeOf0
  v0 := Tryz.zeroValue0
  t3 := Tryz.underlying3
  a3 := Tryz.isAgg3
  z3 := Tryz.sizeOf3
  v3 := Tryz.zeroValue3
  t4 := Tryz.underlying4
  a4 := Tryz.isAgg4
  z4 := Tryz.sizeOf4
  v4 := Tryz.zeroValue4
  t5 := Tryz.underlying5
  a5 := Tryz.isAgg5
  z5 := Tryz.sizeOf5
  v5 := Tryz.zeroValue5
  t9 := Tryz.underlying9
  a9 := Tryz.isAgg9
  z9 := Tryz.sizeOf9
  v9 := Tryz.zeroValue9
  t20 := Tryz.underlying20
  a20 := Tryz.isAgg20
  z20 := Tryz.sizeOf20
  v20 := Tryz.zeroValue20
  t37 := Tryz.underlying73
  a37 := Tryz.isAgg73
  z37 := Tryz.sizeOf73
  v37 := Tryz.zeroValue73
  t46 := Tryz.underlying99
  a46 := Tryz.isAgg99
  z46 := Tryz.sizeOf99
  v46 := Tryz.zeroValue99
  t51 := Tryz.underlying122
  a51 := Tryz.isAgg122
  z51 := Tryz.sizeOf122
  v51 := Tryz.zeroValue122
  t53 := Tryz.underlying125
  a53 := Tryz.isAgg125
  z53 := Tryz.sizeOf125
  v53 := Tryz.zeroValue125
  t70 := Tryz.underlying72
  a70 := Tryz.isAgg72
  z70 := Tryz.sizeOf72
  v70 := Tryz.zeroValue72
  t72 := Tryz.underlying75
  a72 := Tryz.isAgg75
  z72 := Tryz.sizeOf75
  v72 := Tryz.zeroValue75
  t75 := Tryz.underlying79
  a75 := Tryz.isAgg79
  z75 := Tryz.sizeOf79
  v75 := Tryz.zeroValue79
  t76 := Tryz.underlying80
  a76 := Tryz.isAgg80
  z76 := Tryz.sizeOf80
  v76 := Tryz.zeroValue80
  t109 := Tryz.underlying100
  a109 := Tryz.isAgg100
  z109 := Tryz.sizeOf100
  v109 := Tryz.zeroValue100
  t127 := Tryz.underlying104
  a127 := Tryz.isAgg104
  z127 := Tryz.sizeOf104
  v127 := Tryz.zeroValue104
  t146 := Tryz.underlying123
  a146 := Tryz.isAgg123
  z146 := Tryz.sizeOf123
  v146 := Tryz.zeroValue123
  t148 := Tryz.underlying126
  a148 := Tryz.isAgg126
  z148 := Tryz.sizeOf126
  v148 := Tryz.zeroValue126
  t164 := Tryz.underlying128
  a164 := Tryz.isAgg128
  z164 := Tryz.sizeOf128
  v164 := Tryz.zeroValue128 }
theorem Tryz.Builder_Extra_105 : Builder.Extra Tryz.prog Tryz.lays105_ren := {
  sizeBuilder := by kernel_rfl
  liesBuilder := by kernel_rfl
  t5 := Tryz.underlying5
  a5 := Tryz.isAgg5
  z5 := Tryz.sizeOf5
  v5 := Tryz.zeroValue5
  infoByte := by kernel_rfl
  cellsByte := by kernel_rfl
  sizeByte := by kernel_rfl
  neB5 := by decide }
open Go.RowKit Go.Sort Go.Lib in
theorem Tryz.strings_Repeat (s : ByteArray) (c : Nat) (w : World) (hc : c ≤ 9223372036854775807) (hlen : s.size * c ≤ 140737488355328) :
    Calls Tryz.prog 36 #[.string s, .int .i64 c] w fun e w' => e = .returned (.string ⟨(Lib.repeatL s.data.toList c).toArray⟩) ∧ Below w.heap.size w w' := Any.strings_Repeat Tryz.lays105 Tryz.Builder_Extra_105 s c w hc hlen
end Go.Proofs
