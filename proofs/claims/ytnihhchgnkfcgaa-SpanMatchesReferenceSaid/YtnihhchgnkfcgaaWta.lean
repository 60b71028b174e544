/- The walks of the reference's functions with errors. -/
import Derived.Test.YtnihhchgnkfcgaaWt
import Derived.Test.YtnihhchgnkfcgaaPj
import Derived.Test.YtnihhchgnkfcgaaPi
import Derived.Test.YtnihhchgnkfcgaaWrt
-- USEBDN
set_option linter.unusedSimpArgs false
set_option linter.unusedVariables false
namespace Go.Proofs.Ytnihhchgnkfcgaa
open Go.ChangeShapes Go.WideShapes Go.ChangeAt Go.RowKit
attribute [local go_sem high] run_min_mm run_max_mm

theorem rof_any (lo hi st : Int) (w : World) (b1 : st ≤ 9223372036854775807) :
    Calls Try.prog 26 #[.int .i64 lo, .int .i64 hi, .int .i64 st] w fun e w' => e = .returned (spe (ofM lo hi st)) ∧ Below w.heap.size w w' := by
  by_cases hh : nearB lo = true ∧ nearB hi = true ∧ lo ≤ hi ∧ 1 ≤ st
  · obtain ⟨hA, hB, h1, h2⟩ := hh
    obtain ⟨a1, a2⟩ := (nearB_iff lo).1 hA
    obtain ⟨c1, c2⟩ := (nearB_iff hi).1 hB
    have r0 := Int.mul_ediv_add_emod (hi - lo) st
    have r1 := Int.emod_nonneg (hi - lo) (b := st) (by omega)
    have r2 := Int.mul_nonneg (a := st) (b := (hi - lo) / st) (by omega) (Int.ediv_nonneg (by omega) (by omega))
    have hD := Lib.hid (show ofM lo hi st = ⟨madeM lo (lo + (hi - lo) / st * st) st, 0⟩ by
      unfold ofM
      rw [if_pos (by simp [hA, hB, h1, h2])]
      congr 2
      rw [Int.mul_comm ((hi - lo) / st)]
      omega)
    have q1 : 0 ≤ (hi - lo) / st * st := by rw [Int.mul_comm]; omega
    have q2 : (hi - lo) / st * st ≤ 2199023255552 := by rw [Int.mul_comm]; omega
    have d1 : decide (hi < lo) = false := by simpa using h1
    have d2 : decide (st < 1) = false := by simpa using h2
    have hne : ¬ st = 0 := by omega
    clear a2 r0 r1 r2
    go_enter Try.func26, Try.ntmps26
    go_wp2_with (first | (go_at_call 44; refine (rnear_any _ _).mono ?_; rintro e w' ⟨rfl, rfl⟩) | (go_at_call 41; refine (rmade_any _ _ _ _).mono ?_; rintro e w1 ⟨rfl, hb⟩; obtain ⟨hc, hf⟩ := bcell hb; have hz := hb.size; (try simp at hz); have z0 : w.heap.size < w1.heap.size := (by omega); have c0 := fun o => hc (w.heap.size) o (by go_size); have f0 := fun o => hf (w.heap.size) o (by go_size); have hB := bup (B := w.heap.size) (w := w) (by (repeat' (first | (with_reducible exact Below.refl _ _) | (with_reducible assumption) | (with_reducible refine Below.alloc ?_ ?_ _) | (with_reducible refine Below.drew ?_) | (with_reducible refine bdn ?_ _) | (with_reducible refine Below.setCell ?_ ?_ _) | go_size))) hb (by go_size); clear hb))
    exact bodyPost_ret (v := spe ⟨madeM lo (lo + (hi - lo) / st * st) st, 0⟩) (by simp [results, Try.results26, go_sem, *]) rfl ⟨by rw [hD.out], by (repeat' (first | (with_reducible exact Below.refl _ _) | (with_reducible assumption) | (with_reducible refine Below.alloc ?_ ?_ _) | (with_reducible refine Below.drew ?_) | (with_reducible refine bdn ?_ _) | (with_reducible refine Below.setCell ?_ ?_ _) | go_size))⟩
  · have hD := Lib.hid (show ofM lo hi st = ⟨zsp, 1⟩ by
      unfold ofM
      rw [if_neg]
      simpa [and_assoc] using hh)
    have HH := Lib.hid hh; clear hh
    cases hA : nearB lo
    · go_enter Try.func26, Try.ntmps26
      go_wp2_with (go_at_call 44; refine (rnear_any _ _).mono ?_; rintro e w' ⟨rfl, rfl⟩)
      exact bodyPost_ret (v := .agg #[.int .i64 0, .int .i64 0, .int .i64 0, .int .i64 1]) (by simp [results, Try.results26, go_sem]) rfl ⟨by rw [hD.out]; rfl, bl1 _ _⟩
    · cases hB : nearB hi
      · go_enter Try.func26, Try.ntmps26
        go_wp2_with (go_at_call 44; refine (rnear_any _ _).mono ?_; rintro e w' ⟨rfl, rfl⟩)
        exact bodyPost_ret (v := .agg #[.int .i64 0, .int .i64 0, .int .i64 0, .int .i64 1]) (by simp [results, Try.results26, go_sem]) rfl ⟨by rw [hD.out]; rfl, bl1 _ _⟩
      · by_cases h1 : lo ≤ hi
        · have h2 : st < 1 := by
            have := HH.out
            simp only [hA, hB, h1, true_and] at this
            omega
          have d1 : decide (hi < lo) = false := by simpa using h1
          go_enter Try.func26, Try.ntmps26
          go_wp2_with (go_at_call 44; refine (rnear_any _ _).mono ?_; rintro e w' ⟨rfl, rfl⟩)
          exact bodyPost_ret (v := .agg #[.int .i64 0, .int .i64 0, .int .i64 0, .int .i64 1]) (by simp [results, Try.results26, go_sem]) rfl ⟨by rw [hD.out]; rfl, bl1 _ _⟩
        · have d1 : decide (hi < lo) = true := by simp; omega
          clear h1
          go_enter Try.func26, Try.ntmps26
          go_wp2_with (go_at_call 44; refine (rnear_any _ _).mono ?_; rintro e w' ⟨rfl, rfl⟩)
          exact bodyPost_ret (v := .agg #[.int .i64 0, .int .i64 0, .int .i64 0, .int .i64 1]) (by simp [results, Try.results26, go_sem]) rfl ⟨by rw [hD.out]; rfl, bl1 _ _⟩

/-- Two spans that came in, and the result's variable. -/
structure RefC (w : World) (s t : Sp) (z : Obj) (W : World) : Prop where
  below : Below w.heap.size w W
  big : w.heap.size + 3 ≤ W.heap.size
  fs : Is3 W w.heap.size s
  ft : Is3 W (w.heap.size + 1) t
  fz : W.heap[w.heap.size + 2]? = some z
theorem RefC.step {w : World} {s t : Sp} {z : Obj} : ∀ W W', RefC w s t z W → Below W.heap.size W W' → RefC w s t z W' := fun W W' h hb =>
  ⟨h.below.trans (hb.mono (by have := h.big; omega)), Nat.le_trans h.big hb.size, h.fs.step hb, h.ft.step hb, by rw [hb.block _ (Mild.lt_of_block h.fz)]; exact h.fz⟩
theorem refC_start (w : World) (s t : Sp) (z : Obj) : RefC w s t z (((w.alloc (.cells #[.int .i64 s.lo, .int .i64 s.hi, .int .i64 s.st] 28)).alloc (.cells #[.int .i64 t.lo, .int .i64 t.hi, .int .i64 t.st] 28)).alloc z) := by
  have b1 : Below w.heap.size w (w.alloc (.cells #[.int .i64 s.lo, .int .i64 s.hi, .int .i64 s.st] 28)) := (Below.refl _ _).alloc (Nat.le_refl _) _
  have s1 : (w.alloc (.cells #[.int .i64 s.lo, .int .i64 s.hi, .int .i64 s.st] 28)).heap.size = w.heap.size + 1 := by simp
  have i1 : Is3 (w.alloc (.cells #[.int .i64 s.lo, .int .i64 s.hi, .int .i64 s.st] 28)) w.heap.size s := ⟨by simp, by simp, by simp⟩
  generalize w.alloc _ = w1 at *
  have b2 : Below w1.heap.size w1 (w1.alloc (.cells #[.int .i64 t.lo, .int .i64 t.hi, .int .i64 t.st] 28)) := (Below.refl _ _).alloc (Nat.le_refl _) _
  have s2 : (w1.alloc (.cells #[.int .i64 t.lo, .int .i64 t.hi, .int .i64 t.st] 28)).heap.size = w1.heap.size + 1 := by simp
  have i2 : Is3 (w1.alloc (.cells #[.int .i64 t.lo, .int .i64 t.hi, .int .i64 t.st] 28)) w1.heap.size t := ⟨by simp, by simp, by simp⟩
  have i1' := i1.step b2
  generalize w1.alloc _ = w2 at *
  have b3 : Below w2.heap.size w2 (w2.alloc z) := (Below.refl _ _).alloc (Nat.le_refl _) _
  have s3 : (w2.alloc z).heap.size = w2.heap.size + 1 := by simp
  rw [s1] at i2
  refine ⟨(b1.trans (b2.mono (by omega))).trans (b3.mono (by omega)), by omega, i1'.step b3, i2.step b3, ?_⟩
  have := alloc_at w2 z
  rwa [s2, s1] at this
/-- A span stored last. -/
theorem tail28 {ops : Array Oper} {Q : Exit → Act → World → Prop} {rest : List Oper} {a : Act} {w : World} {ptr src : Tmp} {ty : TypeId} {pos : String} {after : Array Edge} (p : Sp) (b : Nat) (hW : w.heap[b]? = some zobj) (h1 : Mild2.slot a ptr = Mild2.ptrTo b) (h2 : Mild2.slot a src = spv p)
    (h : ∀ w', Mild2.Touch b w w' → w'.heap[b]? = some (.cells #[.int .i64 p.lo, .int .i64 p.hi, .int .i64 p.st] 28) → wpList Try.prog ops Q rest a w') : wpList Try.prog ops Q (⟨none, .store 28 (.tmp ptr) (.tmp src), ty, pos, after, none⟩ :: rest) a w := by
  obtain ⟨u, W', hrun, hu, ht, hb⟩ := st28 ptr src ty pos after p.lo p.hi p.st a b w h1 h2 hW
  exact wpList_st rfl rfl hrun hu (h W' ht hb)

theorem radd_any (s t : Sp) (w : World) (hs : Bd s) (ht : Bd t) :
    Calls Try.prog 33 #[spv s, spv t] w fun e w' => e = .returned (spe (addM s t)) ∧ Below w.heap.size w w' := by
  obtain ⟨h0, h1, h2, h3, h4⟩ := hs
  obtain ⟨k0, k1, k2, k3, k4⟩ := ht
  go_enter Try.func33, Try.ntmps33
  go_wp2_with fail
  refine Mild.region_mild 16 [] (RefC w s t zspe) (by kernel_rfl) 21 (by kernel_rfl) rfl (by simp) RefC.step (refC_start w s t zspe) (by simp) ?H
  apply Exists.intro
  refine ⟨?HW, ?HT⟩
  case HW =>
    intro W hW
    obtain ⟨g0, g1, g2⟩ := hW.fs; obtain ⟨p0, p1, p2⟩ := hW.ft; clear hW
    simp only [List.take_succ_cons, List.take_zero]
    repeat (apply Mild.walkM_q rfl; (go_wp2_with (first | (go_at_call 21; (with_reducible refine (rgcd_any s.st t.st _ (by omega) (by omega) (by omega) (by omega)).mono ?_); rintro e w1 ⟨rfl, hb⟩) | (go_at_call 53; (with_reducible refine (rbounded_any (s.lo + t.lo) (s.hi + t.hi) (gcdM s.st t.st) _).mono ?_); rintro e w1 ⟨rfl, hb⟩))); (first | refine ⟨rfl, rfl, Below.refl _ _, ?_⟩ | refine ⟨rfl, rfl, hb, ?_⟩))
    exact Mild.walkM_end rfl
  case HT =>
    intro F w9 hC u1 u2
    clear u1 u2
    simp only [List.drop_succ_cons, List.drop_zero, Mild.putAll, List.foldl_cons, List.foldl_nil, Mild.ptrTo, Act.put, List.setIfInBounds_toArray, List.set_cons_zero, List.set_cons_succ]
    refine tail43 (boundedM (s.lo + t.lo) (s.hi + t.hi) (gcdM s.st t.st)) (w.heap.size + 2) hC.fz rfl rfl ?_
    intro w10 htc hb
    obtain ⟨⟨c0, c1, c2⟩, c3⟩ := is43_of hb
    have hB := below_touch hC.below (by omega) htc
    clear hC hb htc
    go_wp2_with fail
    exact bodyPost_ret (v := spe (boundedM (s.lo + t.lo) (s.hi + t.hi) (gcdM s.st t.st))) (by simp [results, Try.results33, go_sem, *]) rfl ⟨rfl, hB⟩
theorem rsub_any (s t : Sp) (w : World) (hs : Bd s) (ht : Bd t) :
    Calls Try.prog 35 #[spv s, spv t] w fun e w' => e = .returned (spe (subM s t)) ∧ Below w.heap.size w w' := by
  obtain ⟨h0, h1, h2, h3, h4⟩ := hs
  obtain ⟨k0, k1, k2, k3, k4⟩ := ht
  go_enter Try.func35, Try.ntmps35
  go_wp2_with fail
  refine Mild.region_mild 16 [] (RefC w s t zspe) (by kernel_rfl) 21 (by kernel_rfl) rfl (by simp) RefC.step (refC_start w s t zspe) (by simp) ?H
  apply Exists.intro
  refine ⟨?HW, ?HT⟩
  case HW =>
    intro W hW
    obtain ⟨g0, g1, g2⟩ := hW.fs; obtain ⟨p0, p1, p2⟩ := hW.ft; clear hW
    simp only [List.take_succ_cons, List.take_zero]
    repeat (apply Mild.walkM_q rfl; (go_wp2_with (first | (go_at_call 21; (with_reducible refine (rgcd_any s.st t.st _ (by omega) (by omega) (by omega) (by omega)).mono ?_); rintro e w1 ⟨rfl, hb⟩) | (go_at_call 53; (with_reducible refine (rbounded_any (s.lo - t.hi) (s.hi - t.lo) (gcdM s.st t.st) _).mono ?_); rintro e w1 ⟨rfl, hb⟩))); (first | refine ⟨rfl, rfl, Below.refl _ _, ?_⟩ | refine ⟨rfl, rfl, hb, ?_⟩))
    exact Mild.walkM_end rfl
  case HT =>
    intro F w9 hC u1 u2
    clear u1 u2
    simp only [List.drop_succ_cons, List.drop_zero, Mild.putAll, List.foldl_cons, List.foldl_nil, Mild.ptrTo, Act.put, List.setIfInBounds_toArray, List.set_cons_zero, List.set_cons_succ]
    refine tail43 (boundedM (s.lo - t.hi) (s.hi - t.lo) (gcdM s.st t.st)) (w.heap.size + 2) hC.fz rfl rfl ?_
    intro w10 htc hb
    obtain ⟨⟨c0, c1, c2⟩, c3⟩ := is43_of hb
    have hB := below_touch hC.below (by omega) htc
    clear hC hb htc
    go_wp2_with fail
    exact bodyPost_ret (v := spe (boundedM (s.lo - t.hi) (s.hi - t.lo) (gcdM s.st t.st))) (by simp [results, Try.results35, go_sem, *]) rfl ⟨rfl, hB⟩
theorem rjoin_any (s t : Sp) (w : World) (hs : Vld s) (ht : Vld t) :
    Calls Try.prog 38 #[spv s, spv t] w fun e w' => e = .returned (spv (joinM s t)) ∧ Below w.heap.size w w' := by
  have h0 := hs.st0; have h1 := hs.stle; have h2 := hs.lo; have h3 := hs.le; have h4 := hs.hi
  have k0 := ht.st0; have k1 := ht.stle; have k2 := ht.lo; have k3 := ht.le; have k4 := ht.hi
  have gb : 0 ≤ gcdM s.st t.st ∧ gcdM s.st t.st ≤ 2199023255552 := by
    refine ⟨gcdM_nonneg _ _, ?_⟩
    by_cases z : t.st = 0
    · rw [z, gcdM_zero h0]; omega
    · have := gcdM_le (a := s.st) (b := t.st) (by omega); omega
  obtain ⟨gb1, gb2⟩ := gb
  go_enter Try.func38, Try.ntmps38
  go_wp2_with fail
  refine Mild.region_mild 22 [] (RefC w s t zobj) (by kernel_rfl) 27 (by kernel_rfl) rfl (by simp) RefC.step (refC_start w s t zobj) (by simp) ?H
  apply Exists.intro
  refine ⟨?HW, ?HT⟩
  case HW =>
    intro W hW
    obtain ⟨g0, g1, g2⟩ := hW.fs; obtain ⟨p0, p1, p2⟩ := hW.ft; clear hW
    simp only [List.take_succ_cons, List.take_zero]
    repeat (apply Mild.walkM_q rfl; (go_wp2_with (first | (go_at_call 21; (with_reducible refine (rgcd_any s.st t.st _ (by omega) (by omega) (by omega) (by omega)).mono ?_); rintro e w1 ⟨rfl, hb⟩) | (go_at_call 21; (with_reducible refine (rgcd_any (gcdM s.st t.st) (s.lo - t.lo) _ (by omega) (by omega) (by omega) (by omega)).mono ?_); rintro e w1 ⟨rfl, hb⟩) | (go_at_call 41; (with_reducible refine (rmade_any (min s.lo t.lo) (max s.hi t.hi) (gcdM (gcdM s.st t.st) (s.lo - t.lo)) _).mono ?_); rintro e w1 ⟨rfl, hb⟩))); (first | refine ⟨rfl, rfl, Below.refl _ _, ?_⟩ | refine ⟨rfl, rfl, hb, ?_⟩))
    exact Mild.walkM_end rfl
  case HT =>
    intro F w9 hC u1 u2
    clear u1 u2
    simp only [List.drop_succ_cons, List.drop_zero, Mild.putAll, List.foldl_cons, List.foldl_nil, Mild.ptrTo, Act.put, List.setIfInBounds_toArray, List.set_cons_zero, List.set_cons_succ]
    refine tail28 (madeM (min s.lo t.lo) (max s.hi t.hi) (gcdM (gcdM s.st t.st) (s.lo - t.lo))) (w.heap.size + 2) hC.fz rfl rfl ?_
    intro w10 htc hb
    obtain ⟨c0, c1, c2⟩ := is3_of hb
    have hB := below_touch hC.below (by omega) htc
    clear hC hb htc
    go_wp2_with fail
    exact bodyPost_ret (v := spv (madeM (min s.lo t.lo) (max s.hi t.hi) (gcdM (gcdM s.st t.st) (s.lo - t.lo)))) (by simp [results, Try.results38, go_sem, *]) rfl ⟨rfl, hB⟩
end Go.Proofs.Ytnihhchgnkfcgaa
