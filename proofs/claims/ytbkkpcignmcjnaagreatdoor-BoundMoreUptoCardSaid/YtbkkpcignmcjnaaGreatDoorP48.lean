/- Layer 7: a unit in memory, and what is asked of it; the unit of the document's example. -/
import Derived.Test.YtbkkpcignmcjnaaGreatDoorP47
namespace Go.Proofs.YtbkkpcignmcjnaaGreatDoor
open Go.RowKit
set_option linter.unusedVariables false
set_option linter.unusedSimpArgs false
set_option linter.unnecessarySimpa false

/-- a unit lies so -/
structure UnAt (w : World) (F : Nat → Prop) (cs : List Int) (bs : List Bd) (uca uta : Option Addr) : Prop where
  nums : NumsAt w F cs uca
  bds : BdsAt w F bs uta
  low : ∀ k, F k → k < w.heap.size
/-- it is small enough -/
structure UnOk (cs : List Int) (bs : List Bd) : Prop where
  kinds : ∀ b, b ∈ bs → Ac.kindsL b.acts
  sz : bsSz bs < 900000000
  l1 : cs.length < 1000000000
  l2 : bs.length < 1000000000
theorem UnAt.keeps {S F : Nat → Prop} {w w' : World} {cs : List Int} {bs : List Bd} {uca uta : Option Addr} (h : UnAt w F cs bs uca uta) (hk : Keeps S w w') (hS : ∀ k, F k → ¬ S k) : UnAt w' F cs bs uca uta :=
  ⟨h.nums.keeps hk hS, h.bds.keeps hk hS, fun k hF => Nat.lt_of_lt_of_le (h.low k hF) hk.size⟩
theorem UnAt.keeps0 {F : Nat → Prop} {w w' : World} {cs : List Int} {bs : List Bd} {uca uta : Option Addr} (h : UnAt w F cs bs uca uta) (hk : Keeps NoBlk w w') : UnAt w' F cs bs uca uta := h.keeps hk (fun _ _ h => h)
section
variable {cs : List Int} {mu : Int} {bs : List Bd} {w : World} {F : Nat → Prop} {uca uta : Option Addr} {ucc utc : Nat}
theorem UnAt.steps (h : UnAt w F cs bs uca uta) (ok : UnOk cs bs) (ht : TabP w) : Calls Tryz.prog 8 #[.agg #[.slice uca cs.length ucc, .int .i64 mu, .slice uta bs.length utc]] w fun e w' => e = .returned (.string (tell (rightU ⟨cs, mu, bs⟩) (unS bs))) ∧ Keeps NoBlk w w' :=
  boundSteps_any cs mu bs w F uca uta ucc utc h.nums h.bds h.low ok.kinds ok.sz ok.l1 ok.l2 ht
theorem UnAt.work (h : UnAt w F cs bs uca uta) (ok : UnOk cs bs) (ht : TabP w) : Calls Tryz.prog 9 #[.agg #[.slice uca cs.length ucc, .int .i64 mu, .slice uta bs.length utc]] w fun e w' => e = .returned (.string (tell (rightU ⟨cs, mu, bs⟩) (unW bs))) ∧ Keeps NoBlk w w' :=
  boundWork_any cs mu bs w F uca uta ucc utc h.nums h.bds h.low ok.kinds ok.sz ok.l1 ok.l2 ht
theorem UnAt.within (h : UnAt w F cs bs uca uta) (ok : UnOk cs bs) : Calls Tryz.prog 13 #[.agg #[.slice uca cs.length ucc, .int .i64 mu, .slice uta bs.length utc]] w fun e w' => e = .returned (.int .i64 (withinU (rightU ⟨cs, mu, bs⟩) (unS bs) (unW bs))) ∧ Keeps NoBlk w w' :=
  boundWithin_any cs mu bs w F uca uta ucc utc h.nums h.bds h.low ok.kinds ok.sz ok.l1 ok.l2
theorem UnAt.rsteps (h : UnAt w F cs bs uca uta) (ok : UnOk cs bs) : Calls Tryz.prog 10 #[.agg #[.slice uca cs.length ucc, .int .i64 mu, .slice uta bs.length utc]] w fun e w' => e = .returned (.string (tell (rightU ⟨cs, mu, bs⟩) (unS bs))) ∧ Keeps NoBlk w w' :=
  refSteps_any cs mu bs w F uca uta ucc utc h.nums h.bds h.low ok.sz ok.l1 ok.l2
theorem UnAt.rwork (h : UnAt w F cs bs uca uta) (ok : UnOk cs bs) : Calls Tryz.prog 11 #[.agg #[.slice uca cs.length ucc, .int .i64 mu, .slice uta bs.length utc]] w fun e w' => e = .returned (.string (tell (rightU ⟨cs, mu, bs⟩) (unW bs))) ∧ Keeps NoBlk w w' :=
  refWork_any cs mu bs w F uca uta ucc utc h.nums h.bds h.low ok.sz ok.l1 ok.l2
theorem UnAt.rwithin (h : UnAt w F cs bs uca uta) (ok : UnOk cs bs) : Calls Tryz.prog 12 #[.agg #[.slice uca cs.length ucc, .int .i64 mu, .slice uta bs.length utc]] w fun e w' => e = .returned (.int .i64 (withinU (rightU ⟨cs, mu, bs⟩) (unS bs) (unW bs))) ∧ Keeps NoBlk w w' :=
  refWithin_any cs mu bs w F uca uta ucc utc h.nums h.bds h.low ok.sz ok.l1 ok.l2
theorem UnAt.right (h : UnAt w F cs bs uca uta) (ok : UnOk cs bs) : Calls Tryz.prog 14 #[.agg #[.slice uca cs.length ucc, .int .i64 mu, .slice uta bs.length utc]] w fun e w' => e = .returned (.bool (rightU ⟨cs, mu, bs⟩)) ∧ Keeps NoBlk w w' :=
  refRight_any cs mu bs w F uca uta ucc utc h.nums h.bds h.low ok.sz ok.l1 ok.l2
end
/-! ### Statements in fresh rows -/
theorem AcsAt.empty (w : World) (F : Nat → Prop) (ad : Option Addr) : AcsAt w F [] ad := ⟨fun _ => [], fun i hi => absurd hi (Nat.not_lt_zero _), fun i y e => by simp at e⟩
theorem ExsAt.empty (w : World) (F : Nat → Prop) (ad : Option Addr) : ExsAt w F [] ad := ⟨fun _ => [], fun i hi => absurd hi (Nat.not_lt_zero _), fun i y e => by simp at e⟩
/-- one statement in a row of its own -/
theorem AcsAt.one {w : World} {F : Nat → Prop} {g : Nat} (x : Ac) {xa ta ea : Option Addr} {xc tc ec : Nat} (hx : ExsAt w F x.ex.args xa) (ht : AcsAt w F x.thn ta) (he : AcsAt w F x.els ea) (hg : F g)
    (hr : RowAt w g [.int .i64 x.kind, .int .i64 x.reg, .int .i64 x.obj, .int .i64 x.ex.kind, .int .i64 x.ex.num, .string x.ex.nm, .slice xa x.ex.args.length xc, .int .i64 x.count, .slice ta x.thn.length tc, .slice ea x.els.length ec]) : AcsAt w F [x] (some ⟨g, 0, none⟩) := by
  refine ⟨fun _ => [.int .i64 x.kind, .int .i64 x.reg, .int .i64 x.obj, .int .i64 x.ex.kind, .int .i64 x.ex.num, .string x.ex.nm, .slice xa x.ex.args.length xc, .int .i64 x.count, .slice ta x.thn.length tc, .slice ea x.els.length ec], fun i hi => ?_, fun i y e => ?_⟩
  · have hi0 : i = 0 := by simpa using hi
    subst hi0
    refine ⟨g, 0, rfl, hg, rfl, fun j v hj => ?_⟩
    have := hr.cell hj
    simpa using this
  · rcases i with _ | i
    · obtain rfl : x = y := by simpa using e
      exact AcAt.ofCells x hx ht he
    · simp at e
theorem noNm_size : noNm.size = 0 := rfl
def Ex.zero : Ex := .mk 0 0 noNm []
/-- the example's statement, and the loop around it -/
def demoW : Ac := .mk 3 0 0 (.mk 1 4 noNm []) 0 [] []
def demoR (c : Int) : Ac := .mk 11 0 0 Ex.zero c [demoW] []
theorem demoAt {w : World} {F : Nat → Prop} {c0 a1 a2 th : Nat} (c : Int) (h0 : RowAt w c0 [.int .i64 0])
    (h1 : RowAt w a1 [.int .i64 3, .int .i64 0, .int .i64 0, .int .i64 1, .int .i64 4, .string noNm, .slice none 0 0, .int .i64 0, .slice none 0 0, .slice none 0 0])
    (h2 : RowAt w a2 [.int .i64 11, .int .i64 0, .int .i64 0, .int .i64 0, .int .i64 0, .string noNm, .slice none 0 0, .int .i64 c, .slice (some ⟨a1, 0, none⟩) 1 1, .slice none 0 0])
    (h3 : RowAt w th [.int .i64 0, .slice (some ⟨a2, 0, none⟩) 1 1]) (f0 : F c0) (f1 : F a1) (f2 : F a2) (f3 : F th) (hF : ∀ k, F k → k < w.heap.size) : UnAt w F [0] [⟨0, [demoR c]⟩] (some ⟨c0, 0, none⟩) (some ⟨th, 0, none⟩) := by
  refine ⟨fun i hi => ?_, fun i hi => ?_, hF⟩
  · have hi0 : i = 0 := by simpa using hi
    subst hi0
    exact ⟨c0, 0, rfl, f0, h0.cell (k := 0) rfl⟩
  · have hi0 : i = 0 := by simpa using hi
    subst hi0
    have hw : AcsAt w F [demoW] (some ⟨a1, 0, none⟩) := AcsAt.one demoW (xa := none) (ta := none) (ea := none) (xc := 0) (tc := 0) (ec := 0) (ExsAt.empty _ _ _) (AcsAt.empty _ _ _) (AcsAt.empty _ _ _) f1 h1
    exact ⟨th, 0, some ⟨a2, 0, none⟩, 1, rfl, f3, h3.cell (k := 0) rfl, h3.cell (k := 1) rfl, AcsAt.one (demoR c) (xa := none) (ta := some ⟨a1, 0, none⟩) (ea := none) (xc := 0) (tc := 1) (ec := 0) (ExsAt.empty _ _ _) hw (AcsAt.empty _ _ _) f2 h2⟩
theorem demoOk (c : Int) : UnOk [0] [⟨0, [demoR c]⟩] := by
  refine ⟨fun b hb => ?_, by simp [bsSz, demoR, demoW, Ex.zero, Ac.szL, Ac.sz, Ex.cnt, Ex.cntL], by decide, by simp⟩
  obtain rfl : b = ⟨0, [demoR c]⟩ := by simpa using hb
  simp [Ac.kindsL, Ac.kinds, kOk, demoR, demoW]
theorem demo10R : rightU ⟨[0], 0, [⟨0, [demoR 10]⟩]⟩ = true := by decide
theorem demo60R : rightU ⟨[0], 0, [⟨0, [demoR 60]⟩]⟩ = true := by decide
theorem demo10S : unS [⟨0, [demoR 10]⟩] = 11 := by decide
theorem demo10W : unW [⟨0, [demoR 10]⟩] = 32 := by decide
theorem demo60S : unS [⟨0, [demoR 60]⟩] = 61 := by decide
theorem tell11 : tell true 11 = ⟨#[49, 49]⟩ := by
  have e : decL 11 = [49, 49] := by rw [decL_step (by decide), decL_small (by decide)]; rfl
  unfold tell; rw [e]; rfl
theorem tell32 : tell true 32 = ⟨#[51, 50]⟩ := by
  have e : decL 32 = [51, 50] := by rw [decL_step (by decide), decL_small (by decide)]; rfl
  unfold tell; rw [e]; rfl
end Go.Proofs.YtbkkpcignmcjnaaGreatDoor

/- Layer 7: the document's example. Printed by genshown.py. -/
namespace Go.Proofs.YtbkkpcignmcjnaaGreatDoor
open Go.RowKit
set_option linter.unusedVariables false
set_option linter.unusedSimpArgs false
set_option linter.unnecessarySimpa false

theorem demo10T : withinU true (unS [⟨0, [demoR 10]⟩]) (unW [⟨0, [demoR 10]⟩]) = 0 := by decide
theorem demo60T : withinU true (unS [⟨0, [demoR 60]⟩]) (unW [⟨0, [demoR 60]⟩]) = 70 := by decide
set_option maxRecDepth 8000 in
set_option maxHeartbeats 4000000 in
theorem shown_any (w : World) (ht : TabP w) : Calls Tryz.prog 7 #[] w fun e w' => e = .returned (.bool true) ∧ Keeps NoBlk w w' := by
  have HT := Lib.hid ht
  clear ht
  go_enter Tryz.func7, Tryz.ntmps7
  go_upto_region 3 with fail
  obtain ⟨b1, hb1⟩ : ∃ z, z = w.heap.size := ⟨_, rfl⟩
  obtain ⟨c0, hc0⟩ : ∃ z, z = w.heap.size + 1 := ⟨_, rfl⟩
  obtain ⟨a1, ha1⟩ : ∃ z, z = w.heap.size + 1 + 1 := ⟨_, rfl⟩
  obtain ⟨a2, ha2⟩ : ∃ z, z = w.heap.size + 1 + 1 + 1 := ⟨_, rfl⟩
  obtain ⟨th, hth⟩ : ∃ z, z = w.heap.size + 1 + 1 + 1 + 1 := ⟨_, rfl⟩
  obtain ⟨bu, hbu⟩ : ∃ z, z = w.heap.size + 1 + 1 + 1 + 1 + 1 := ⟨_, rfl⟩
  rw [← hbu, ← hth, ← ha2, ← ha1, ← hc0, ← hb1]
  obtain ⟨wq0, hw0⟩ : ∃ z, z = w.alloc (.cells #[.int .i64 3, .int .i64 0, .int .i64 0, .int .i64 1, .int .i64 4, .string { data := #[] }, .slice none 0 0, .int .i64 0, .slice none 0 0, .slice none 0 0] 39) := ⟨_, rfl⟩
  obtain ⟨wq1, hw1⟩ : ∃ z, z = wq0.alloc (.cells #[.int .i64 0] 3) := ⟨_, rfl⟩
  obtain ⟨wq2, hw2⟩ : ∃ z, z = wq1.alloc (.cells #[.int .i64 3, .int .i64 0, .int .i64 0, .int .i64 1, .int .i64 4, .string { data := #[] }, .slice none 0 0, .int .i64 0, .slice none 0 0, .slice none 0 0] 39) := ⟨_, rfl⟩
  obtain ⟨wq3, hw3⟩ : ∃ z, z = wq2.alloc (.cells #[.int .i64 11, .int .i64 0, .int .i64 0, .int .i64 0, .int .i64 0, .string { data := #[] }, .slice none 0 0, .int .i64 10, .slice (some ⟨a1, 0, none⟩) 1 1, .slice none 0 0] 39) := ⟨_, rfl⟩
  obtain ⟨wq4, hw4⟩ : ∃ z, z = wq3.alloc (.cells #[.int .i64 0, .slice (some ⟨a2, 0, none⟩) 1 1] 34) := ⟨_, rfl⟩
  obtain ⟨w1, hw5⟩ : ∃ z, z = wq4.alloc (.cells #[.slice (some ⟨c0, 0, none⟩) 1 1, .int .i64 0, .slice (some ⟨th, 0, none⟩) 1 1] 25) := ⟨_, rfl⟩
  rw [← hw0, ← hw1, ← hw2, ← hw3, ← hw4, ← hw5]
  have kq0 : Keeps NoBlk w wq0 := by rw [hw0]; exact (Keeps.refl _ _).alloc _
  have kq1 : Keeps NoBlk wq0 wq1 := by rw [hw1]; exact (Keeps.refl _ _).alloc _
  have kq2 : Keeps NoBlk wq1 wq2 := by rw [hw2]; exact (Keeps.refl _ _).alloc _
  have kq3 : Keeps NoBlk wq2 wq3 := by rw [hw3]; exact (Keeps.refl _ _).alloc _
  have kq4 : Keeps NoBlk wq3 wq4 := by rw [hw4]; exact (Keeps.refl _ _).alloc _
  have kq5 : Keeps NoBlk wq4 w1 := by rw [hw5]; exact (Keeps.refl _ _).alloc _
  have sq0 : wq0.heap.size = w.heap.size + 1 := by rw [hw0]; simp
  have sq1 : wq1.heap.size = w.heap.size + 1 + 1 := by rw [hw1]; simp [sq0]
  have sq2 : wq2.heap.size = w.heap.size + 1 + 1 + 1 := by rw [hw2]; simp [sq1]
  have sq3 : wq3.heap.size = w.heap.size + 1 + 1 + 1 + 1 := by rw [hw3]; simp [sq2]
  have sq4 : wq4.heap.size = w.heap.size + 1 + 1 + 1 + 1 + 1 := by rw [hw4]; simp [sq3]
  have sq5 : w1.heap.size = w.heap.size + 1 + 1 + 1 + 1 + 1 + 1 := by rw [hw5]; simp [sq4]
  have rq0 : RowAt wq0 b1 [.int .i64 3, .int .i64 0, .int .i64 0, .int .i64 1, .int .i64 4, .string { data := #[] }, .slice none 0 0, .int .i64 0, .slice none 0 0, .slice none 0 0] := by rw [hb1, hw0]; exact RowAt.ofBlock (heap_alloc_new w _)
  have rq1 : RowAt wq1 c0 [.int .i64 0] := by rw [hc0, ← sq0, hw1]; exact RowAt.ofBlock (heap_alloc_new wq0 _)
  have rq2 : RowAt wq2 a1 [.int .i64 3, .int .i64 0, .int .i64 0, .int .i64 1, .int .i64 4, .string { data := #[] }, .slice none 0 0, .int .i64 0, .slice none 0 0, .slice none 0 0] := by rw [ha1, ← sq1, hw2]; exact RowAt.ofBlock (heap_alloc_new wq1 _)
  have rq3 : RowAt wq3 a2 [.int .i64 11, .int .i64 0, .int .i64 0, .int .i64 0, .int .i64 0, .string { data := #[] }, .slice none 0 0, .int .i64 10, .slice (some ⟨a1, 0, none⟩) 1 1, .slice none 0 0] := by rw [ha2, ← sq2, hw3]; exact RowAt.ofBlock (heap_alloc_new wq2 _)
  have rq4 : RowAt wq4 th [.int .i64 0, .slice (some ⟨a2, 0, none⟩) 1 1] := by rw [hth, ← sq3, hw4]; exact RowAt.ofBlock (heap_alloc_new wq3 _)
  have rq5 : RowAt w1 bu [.slice (some ⟨c0, 0, none⟩) 1 1, .int .i64 0, .slice (some ⟨th, 0, none⟩) 1 1] := by rw [hbu, ← sq4, hw5]; exact RowAt.ofBlock (heap_alloc_new wq4 _)
  have Rb1 := Lib.hid (rq0.keeps ((((kq1.trans0 kq2).trans0 kq3).trans0 kq4).trans0 kq5) (fun h => h))
  have Rc0 := Lib.hid (rq1.keeps (((kq2.trans0 kq3).trans0 kq4).trans0 kq5) (fun h => h))
  have Ra1 := Lib.hid (rq2.keeps ((kq3.trans0 kq4).trans0 kq5) (fun h => h))
  have Ra2 := Lib.hid (rq3.keeps (kq4.trans0 kq5) (fun h => h))
  have Rth := Lib.hid (rq4.keeps kq5 (fun h => h))
  have Rbu := Lib.hid rq5
  have Kw1 : Hid (Keeps NoBlk w w1) := (((((kq0.trans0 kq1).trans0 kq2).trans0 kq3).trans0 kq4).trans0 kq5)
  have Sw1 : Hid (b1 = w.heap.size ∧ c0 = w.heap.size + 1 ∧ a1 = w.heap.size + 1 + 1 ∧ a2 = w.heap.size + 1 + 1 + 1 ∧ th = w.heap.size + 1 + 1 + 1 + 1 ∧ bu = w.heap.size + 1 + 1 + 1 + 1 + 1 ∧ w1.heap.size = w.heap.size + 1 + 1 + 1 + 1 + 1 + 1) := ⟨hb1, hc0, ha1, ha2, hth, hbu, sq5⟩
  clear hw0 kq0 sq0 rq0 hw1 kq1 sq1 rq1 hw2 kq2 sq2 rq2 hw3 kq3 sq3 rq3 hw4 kq4 sq4 rq4 hw5 kq5 sq5 rq5 hb1 hc0 ha1 ha2 hth hbu
  obtain ⟨F, hF⟩ : ∃ F : Nat → Prop, F = fun k => k = c0 ∨ k = a1 ∨ k = a2 ∨ k = th := ⟨_, rfl⟩
  have HU : Hid (UnAt w1 F [0] [⟨0, [demoR 10]⟩] (some ⟨c0, 0, none⟩) (some ⟨th, 0, none⟩)) := demoAt 10 Rc0.out Ra1.out Ra2.out Rth.out (by rw [hF]; exact .inl rfl) (by rw [hF]; exact .inr (.inl rfl)) (by rw [hF]; exact .inr (.inr (.inl rfl))) (by rw [hF]; exact .inr (.inr (.inr rfl))) (fun k hk => by rw [hF] at hk; have := Sw1.out; rcases hk with h | h | h | h <;> omega)
  have HTW : Hid (∀ W, Keeps NoBlk w W → TabP W) := fun W hk => HT.out.keeps (below_keeps hk)
  have RU := Rbu
  have H1 : Hid (∀ W, Keeps NoBlk w1 W → Calls Tryz.prog 8 #[.agg #[.slice (some ⟨c0, 0, none⟩) 1 1, .int .i64 0, .slice (some ⟨th, 0, none⟩) 1 1]] W fun e w' => e = .returned (.string { data := #[49, 49] }) ∧ Keeps NoBlk W w') := fun W hk => by
    have h := (HU.out.keeps0 hk).steps (mu := 0) (ucc := 1) (utc := 1) (demoOk 10) (HTW.out W (Kw1.out.trans0 hk))
    rw [demo10R, demo10S, tell11] at h
    exact h
  have H2 : Hid (∀ W, Keeps NoBlk w1 W → Calls Tryz.prog 9 #[.agg #[.slice (some ⟨c0, 0, none⟩) 1 1, .int .i64 0, .slice (some ⟨th, 0, none⟩) 1 1]] W fun e w' => e = .returned (.string { data := #[51, 50] }) ∧ Keeps NoBlk W w') := fun W hk => by
    have h := (HU.out.keeps0 hk).work (mu := 0) (ucc := 1) (utc := 1) (demoOk 10) (HTW.out W (Kw1.out.trans0 hk))
    rw [demo10R, demo10W, tell32] at h
    exact h
  have H3 : Hid (∀ W, Keeps NoBlk w1 W → Calls Tryz.prog 13 #[.agg #[.slice (some ⟨c0, 0, none⟩) 1 1, .int .i64 0, .slice (some ⟨th, 0, none⟩) 1 1]] W fun e w' => e = .returned (.int .i64 0) ∧ Keeps NoBlk W w') := fun W hk => by
    have h := (HU.out.keeps0 hk).within (mu := 0) (ucc := 1) (utc := 1) (demoOk 10)
    rw [demo10R, demo10T] at h
    exact h
  have K0 : Hid (Keeps NoBlk w1 w1) := Keeps.refl _ _
  obtain ⟨y0, y1, y2⟩ := RU.out.three
  go_upto_region 4 with (go_at_call 8; refine (H1.out _ K0.out).mono ?_; rintro e w2 ⟨rfl, g0⟩; have c := (RU.out.keeps (K0.out.trans0 g0) (fun h => h)).three; clear y0 y1 y2; obtain ⟨y0, y1, y2⟩ := c; have K2 : Hid (Keeps NoBlk w1 w2) := K0.out.trans0 g0; clear g0)
  go_upto_region 5 with (go_at_call 9; refine (H2.out _ K2.out).mono ?_; rintro e w3 ⟨rfl, g0⟩; have c := (RU.out.keeps (K2.out.trans0 g0) (fun h => h)).three; clear y0 y1 y2; obtain ⟨y0, y1, y2⟩ := c; have K3 : Hid (Keeps NoBlk w1 w3) := K2.out.trans0 g0; clear g0)
  go_upto_region 6 with (go_at_call 13; refine (H3.out _ K3.out).mono ?_; rintro e w4 ⟨rfl, g0⟩; have c := (RU.out.keeps (K3.out.trans0 g0) (fun h => h)).three; clear y0 y1 y2; obtain ⟨y0, y1, y2⟩ := c; have K4 : Hid (Keeps NoBlk w1 w4) := K3.out.trans0 g0; clear g0)
  have R2 := Lib.hid (Ra2.out.keeps K4.out (fun h => h))
  obtain ⟨t0, t1⟩ := (Rth.out.keeps K4.out (fun h => h)).two
  have t7 := R2.out.cell (k := 7) (v := .int .i64 10) rfl
  have f7 := R2.out.free (k := 7) (by simp)
  go_upto_region 7 with fail
  have hk5 : Keeps (fun q => q = a2) w4 (w4.setCell ⟨a2, 7, none⟩ (.int .i64 60)) := (Keeps.refl (fun q => q = a2) w4).setCell (p := ⟨a2, 7, none⟩) (fun _ => rfl) _
  have hr5 : RowAt (w4.setCell ⟨a2, 7, none⟩ (.int .i64 60)) a2 [.int .i64 11, .int .i64 0, .int .i64 0, .int .i64 0, .int .i64 0, .string { data := #[] }, .slice none 0 0, .int .i64 60, .slice (some ⟨a1, 0, none⟩) 1 1, .slice none 0 0] := R2.out.set 7 (by simp) _
  have hu5 : RowAt (w4.setCell ⟨a2, 7, none⟩ (.int .i64 60)) bu [.slice (some ⟨c0, 0, none⟩) 1 1, .int .i64 0, .slice (some ⟨th, 0, none⟩) 1 1] := (RU.out.keeps K4.out (fun h => h)).keeps hk5 (fun e => by have e' : bu = a2 := e; have := Sw1.out; omega)
  generalize w4.setCell ⟨a2, 7, none⟩ (.int .i64 60) = w5 at hk5 hr5 hu5 ⊢
  have HU5 : Hid (UnAt w5 F [0] [⟨0, [demoR 60]⟩] (some ⟨c0, 0, none⟩) (some ⟨th, 0, none⟩)) := demoAt 60 ((Rc0.out.keeps K4.out (fun h => h)).keeps hk5 (fun e => by have e' : c0 = a2 := e; have := Sw1.out; omega)) ((Ra1.out.keeps K4.out (fun h => h)).keeps hk5 (fun e => by have e' : a1 = a2 := e; have := Sw1.out; omega)) hr5 ((Rth.out.keeps K4.out (fun h => h)).keeps hk5 (fun e => by have e' : th = a2 := e; have := Sw1.out; omega)) (by rw [hF]; exact .inl rfl) (by rw [hF]; exact .inr (.inl rfl)) (by rw [hF]; exact .inr (.inr (.inl rfl))) (by rw [hF]; exact .inr (.inr (.inr rfl))) (fun k hk => by rw [hF] at hk; have := Sw1.out; have := K4.out.size; have := hk5.size; rcases hk with h | h | h | h <;> omega)
  have K5 : Hid (Keeps NoBlk w w5) := (Kw1.out.trans0 K4.out).trans hk5 (fun q hq e => by have e' : q = a2 := e; have := Sw1.out; omega)
  have H5 : Hid (Calls Tryz.prog 13 #[.agg #[.slice (some ⟨c0, 0, none⟩) 1 1, .int .i64 0, .slice (some ⟨th, 0, none⟩) 1 1]] w5 fun e w' => e = .returned (.int .i64 70) ∧ Keeps NoBlk w5 w') := by
    have h := HU5.out.within (mu := 0) (ucc := 1) (utc := 1) (demoOk 60)
    rw [demo60R, demo60T] at h
    exact h
  clear y0 y1 y2 t0 t1 t7 f7 hk5 hr5
  obtain ⟨y0, y1, y2⟩ := hu5.three
  clear hu5
  go_wp2_with (go_at_call 13; refine H5.out.mono ?_; rintro e w6 ⟨rfl, g0⟩; have K6 : Hid (Keeps NoBlk w w6) := K5.out.trans0 g0; clear g0)
  go_ret
  exact ⟨rfl, K6.out⟩
end Go.Proofs.YtbkkpcignmcjnaaGreatDoor

/- Layer 7: the walks of two laws. Printed by genlaw7.py. -/
namespace Go.Proofs.YtbkkpcignmcjnaaGreatDoor
open Go.RowKit
set_option linter.unusedVariables false
set_option linter.unusedSimpArgs false
set_option linter.unnecessarySimpa false

set_option maxRecDepth 8000 in
set_option maxHeartbeats 4000000 in
theorem boundTells_any {cs : List Int} {mu : Int} {bs : List Bd} {w : World} {F : Nat → Prop} {uca uta : Option Addr} {ucc utc : Nat} (h : UnAt w F cs bs uca uta) (ok : UnOk cs bs) (ht : TabP w) :
    Calls Tryz.prog 3 #[.agg #[.slice uca cs.length ucc, .int .i64 mu, .slice uta bs.length utc]] w fun e w' => e = .returned (.bool true) ∧ Keeps NoBlk w w' := by
  have HS : Hid (∀ W, Keeps NoBlk w W → Calls Tryz.prog 7 #[] W fun e w' => e = .returned (.bool true) ∧ Keeps NoBlk W w') := fun W hk => shown_any W (ht.keeps (below_keeps hk))
  have HA : Hid (∀ W, Keeps NoBlk w W → Calls Tryz.prog 8 #[.agg #[.slice uca cs.length ucc, .int .i64 mu, .slice uta bs.length utc]] W fun e w' => e = .returned (.string (tell (rightU ⟨cs, mu, bs⟩) (unS bs))) ∧ Keeps NoBlk W w') := fun W hk => (h.keeps0 hk).steps ok (ht.keeps (below_keeps hk))
  have HB : Hid (∀ W, Keeps NoBlk w W → Calls Tryz.prog 9 #[.agg #[.slice uca cs.length ucc, .int .i64 mu, .slice uta bs.length utc]] W fun e w' => e = .returned (.string (tell (rightU ⟨cs, mu, bs⟩) (unW bs))) ∧ Keeps NoBlk W w') := fun W hk => (h.keeps0 hk).work ok (ht.keeps (below_keeps hk))
  have HC : Hid (∀ W, Keeps NoBlk w W → Calls Tryz.prog 10 #[.agg #[.slice uca cs.length ucc, .int .i64 mu, .slice uta bs.length utc]] W fun e w' => e = .returned (.string (tell (rightU ⟨cs, mu, bs⟩) (unS bs))) ∧ Keeps NoBlk W w') := fun W hk => (h.keeps0 hk).rsteps ok
  have HD : Hid (∀ W, Keeps NoBlk w W → Calls Tryz.prog 11 #[.agg #[.slice uca cs.length ucc, .int .i64 mu, .slice uta bs.length utc]] W fun e w' => e = .returned (.string (tell (rightU ⟨cs, mu, bs⟩) (unW bs))) ∧ Keeps NoBlk W w') := fun W hk => (h.keeps0 hk).rwork ok
  generalize tell (rightU ⟨cs, mu, bs⟩) (unS bs) = s at HA HC
  generalize tell (rightU ⟨cs, mu, bs⟩) (unW bs) = m at HB HD
  generalize cs.length = n0 at HA HB HC HD ⊢
  generalize bs.length = n2 at HA HB HC HD ⊢
  clear h ok ht
  go_enter Tryz.func3, Tryz.ntmps3
  go_upto_region 1 with fail
  obtain ⟨b1, hb1⟩ : ∃ z, z = w.heap.size := ⟨_, rfl⟩
  have hr1 : RowAt (w.alloc (.cells #[.slice uca n0 ucc, .int .i64 mu, .slice uta n2 utc] 25)) b1 [.slice uca n0 ucc, .int .i64 mu, .slice uta n2 utc] := by rw [hb1]; exact RowAt.ofBlock (heap_alloc_new w _)
  have hk1 : Keeps NoBlk w (w.alloc (.cells #[.slice uca n0 ucc, .int .i64 mu, .slice uta n2 utc] 25)) := (Keeps.refl _ _).alloc _
  rw [← hb1]
  generalize w.alloc (.cells #[.slice uca n0 ucc, .int .i64 mu, .slice uta n2 utc] 25) = w1 at hr1 hk1 ⊢
  have R1 := Lib.hid hr1
  have K1 := Lib.hid hk1
  obtain ⟨y0, y1, y2⟩ := hr1.three
  clear hr1 hk1 hb1
  go_upto_region 2 with (go_at_call 7; refine (HS.out _ K1.out).mono ?_; rintro e w2 ⟨rfl, g0⟩; have K2 : Hid (Keeps NoBlk w w2) := K1.out.trans0 g0; have c := (R1.out.keeps g0 (fun h => h)).three; clear y0 y1 y2; obtain ⟨y0, y1, y2⟩ := c; have R1 := Lib.hid (R1.out.keeps g0 (fun h => h)); clear g0)
  go_upto_region 3 with (go_at_call 8; refine (HA.out _ K2.out).mono ?_; rintro e w3 ⟨rfl, g0⟩; have K3 : Hid (Keeps NoBlk w w3) := K2.out.trans0 g0; have c := (R1.out.keeps g0 (fun h => h)).three; clear y0 y1 y2; obtain ⟨y0, y1, y2⟩ := c; have R1 := Lib.hid (R1.out.keeps g0 (fun h => h)); clear g0)
  go_upto_region 4 with (go_at_call 9; refine (HB.out _ K3.out).mono ?_; rintro e w4 ⟨rfl, g0⟩; have K4 : Hid (Keeps NoBlk w w4) := K3.out.trans0 g0; have c := (R1.out.keeps g0 (fun h => h)).three; clear y0 y1 y2; obtain ⟨y0, y1, y2⟩ := c; have R1 := Lib.hid (R1.out.keeps g0 (fun h => h)); clear g0)
  go_upto_region 5 with (go_at_call 10; refine (HC.out _ K4.out).mono ?_; rintro e w5 ⟨rfl, g0⟩; have K5 : Hid (Keeps NoBlk w w5) := K4.out.trans0 g0; have c := (R1.out.keeps g0 (fun h => h)).three; clear y0 y1 y2; obtain ⟨y0, y1, y2⟩ := c; have R1 := Lib.hid (R1.out.keeps g0 (fun h => h)); clear g0)
  go_wp2_with (go_at_call 11; refine (HD.out _ K5.out).mono ?_; rintro e w6 ⟨rfl, g0⟩; have K6 : Hid (Keeps NoBlk w w6) := K5.out.trans0 g0; have c := (R1.out.keeps g0 (fun h => h)).three; clear y0 y1 y2; obtain ⟨y0, y1, y2⟩ := c; have R1 := Lib.hid (R1.out.keeps g0 (fun h => h)); clear g0)
  go_ret
  exact ⟨by simp, K6.out⟩

set_option maxRecDepth 8000 in
set_option maxHeartbeats 4000000 in
theorem boundWithinLaw_any {cs : List Int} {mu : Int} {bs : List Bd} {w : World} {F : Nat → Prop} {uca uta : Option Addr} {ucc utc : Nat} (h : UnAt w F cs bs uca uta) (ok : UnOk cs bs) (ht : TabP w) :
    Calls Tryz.prog 4 #[.agg #[.slice uca cs.length ucc, .int .i64 mu, .slice uta bs.length utc]] w fun e w' => e = .returned (.bool true) ∧ Keeps NoBlk w w' := by
  have HS : Hid (∀ W, Keeps NoBlk w W → Calls Tryz.prog 7 #[] W fun e w' => e = .returned (.bool true) ∧ Keeps NoBlk W w') := fun W hk => shown_any W (ht.keeps (below_keeps hk))
  have HA : Hid (∀ W, Keeps NoBlk w W → Calls Tryz.prog 12 #[.agg #[.slice uca cs.length ucc, .int .i64 mu, .slice uta bs.length utc]] W fun e w' => e = .returned (.int .i64 (withinU (rightU ⟨cs, mu, bs⟩) (unS bs) (unW bs))) ∧ Keeps NoBlk W w') := fun W hk => (h.keeps0 hk).rwithin ok
  have HB : Hid (∀ W, Keeps NoBlk w W → Calls Tryz.prog 13 #[.agg #[.slice uca cs.length ucc, .int .i64 mu, .slice uta bs.length utc]] W fun e w' => e = .returned (.int .i64 (withinU (rightU ⟨cs, mu, bs⟩) (unS bs) (unW bs))) ∧ Keeps NoBlk W w') := fun W hk => (h.keeps0 hk).within ok
  generalize withinU (rightU ⟨cs, mu, bs⟩) (unS bs) (unW bs) = s at HA HB
  generalize cs.length = n0 at HA HB ⊢
  generalize bs.length = n2 at HA HB ⊢
  clear h ok ht
  go_enter Tryz.func4, Tryz.ntmps4
  go_upto_region 1 with fail
  obtain ⟨b1, hb1⟩ : ∃ z, z = w.heap.size := ⟨_, rfl⟩
  have hr1 : RowAt (w.alloc (.cells #[.slice uca n0 ucc, .int .i64 mu, .slice uta n2 utc] 25)) b1 [.slice uca n0 ucc, .int .i64 mu, .slice uta n2 utc] := by rw [hb1]; exact RowAt.ofBlock (heap_alloc_new w _)
  have hk1 : Keeps NoBlk w (w.alloc (.cells #[.slice uca n0 ucc, .int .i64 mu, .slice uta n2 utc] 25)) := (Keeps.refl _ _).alloc _
  rw [← hb1]
  generalize w.alloc (.cells #[.slice uca n0 ucc, .int .i64 mu, .slice uta n2 utc] 25) = w1 at hr1 hk1 ⊢
  have R1 := Lib.hid hr1
  have K1 := Lib.hid hk1
  obtain ⟨y0, y1, y2⟩ := hr1.three
  clear hr1 hk1 hb1
  go_upto_region 2 with (go_at_call 7; refine (HS.out _ K1.out).mono ?_; rintro e w2 ⟨rfl, g0⟩; have K2 : Hid (Keeps NoBlk w w2) := K1.out.trans0 g0; have c := (R1.out.keeps g0 (fun h => h)).three; clear y0 y1 y2; obtain ⟨y0, y1, y2⟩ := c; have R1 := Lib.hid (R1.out.keeps g0 (fun h => h)); clear g0)
  go_upto_region 3 with (go_at_call 12; refine (HA.out _ K2.out).mono ?_; rintro e w3 ⟨rfl, g0⟩; have K3 : Hid (Keeps NoBlk w w3) := K2.out.trans0 g0; have c := (R1.out.keeps g0 (fun h => h)).three; clear y0 y1 y2; obtain ⟨y0, y1, y2⟩ := c; have R1 := Lib.hid (R1.out.keeps g0 (fun h => h)); clear g0)
  go_wp2_with (go_at_call 13; refine (HB.out _ K3.out).mono ?_; rintro e w4 ⟨rfl, g0⟩; have K4 : Hid (Keeps NoBlk w w4) := K3.out.trans0 g0; have c := (R1.out.keeps g0 (fun h => h)).three; clear y0 y1 y2; obtain ⟨y0, y1, y2⟩ := c; have R1 := Lib.hid (R1.out.keeps g0 (fun h => h)); clear g0)
  go_ret
  exact ⟨by simp, K4.out⟩
end Go.Proofs.YtbkkpcignmcjnaaGreatDoor
