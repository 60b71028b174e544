/- The walk of the reference's meet. -/
import Derived.Test.YtnihhchgnkfcgaaWtd
import Derived.Deep.DeepCutAuto
-- USEBDN
set_option linter.unusedSimpArgs false
set_option linter.unusedVariables false
namespace Go.Proofs.Ytnihhchgnkfcgaa
open Go.ChangeShapes Go.WideShapes Go.ChangeAt Go.RowKit
attribute [local go_sem high] run_min_mm run_max_mm
set_option maxRecDepth 100000 in
set_option maxHeartbeats 2000000 in
theorem rmeet_oneA (w : World) (s t : Sp) (hs : Vld s) (ht : Vld t) (h3 : s.st ≤ 16777216) (h4 : t.st ≤ 16777216) (hz0 : s.st = 0) :
    Calls Try.prog 39 #[spv s, spv t] w fun e w' => e = .returned (met (meetM s t)) ∧ Below w.heap.size w w' := by
  have hS := meet_unique hs ht (by omega) (by omega) (rmeet_one hs ht s.lo (.inl ⟨hz0, rfl⟩))
  have a1 := hs.lo; have a2 := hs.hi; have a3 := hs.le; have a4 := hs.st0; have AP := Lib.hid hs.pos
  have b1 := ht.lo; have b2 := ht.hi; have b3 := ht.le; have b4 := ht.st0; have BP := Lib.hid ht.pos
  have z1 : (s.st == 0) = true := by simp [hz0]
  have z2 : (s.st != 0) = false := by simp [hz0]
  clear hz0
  cases ha : hasB s s.lo
  · have hD := Lib.hid (show meetM s t = (zsp, false) by rw [hS, ha]; rfl)
    clear hS
    go_enter Try.func39, Try.ntmps39
    go_upto_region 1 with fail
    have HC := Lib.hid (refC_start w s t zmet)
    generalize ((w.alloc _).alloc _).alloc _ = W0 at *
    obtain ⟨g0, g1, g2⟩ := HC.out.fs; obtain ⟨p0, p1, p2⟩ := HC.out.ft; have c4 := Mild.cell_of_block HC.out.fz; have f4 := Mild.free_of_block HC.out.fz; have hB := HC.out.below; have hz := HC.out.big
    go_wp2_with (first | (go_at_call 27; (with_reducible refine (rhas_any s s.lo _ a4 AP.out (by omega) (by omega) (by omega)).mono ?_); rw [ha]; rintro e w1 ⟨rfl, hb⟩; replace HC := Lib.hid (RefC.step _ _ HC.out hb); clear g0 g1 g2 p0 p1 p2 c4 f4 hB hz hb; obtain ⟨g0, g1, g2⟩ := HC.out.fs; obtain ⟨p0, p1, p2⟩ := HC.out.ft; have c4 := Mild.cell_of_block HC.out.fz; have f4 := Mild.free_of_block HC.out.fz; have hB := HC.out.below; have hz := HC.out.big))
    exact bodyPost_ret (v := .agg #[.int .i64 0, .int .i64 0, .int .i64 0, .bool false]) (by simp [results, Try.results39, go_sem, *]; done) rfl ⟨by rw [hD.out]; rfl, by (repeat' (first | (with_reducible exact Below.refl _ _) | (with_reducible assumption) | (with_reducible refine Below.alloc ?_ ?_ _) | (with_reducible refine Below.drew ?_) | (with_reducible refine bdn ?_ _) | (with_reducible refine Below.setCell ?_ ?_ _) | go_size))⟩
  · cases hb2 : hasB t s.lo
    · have hD := Lib.hid (show meetM s t = (zsp, false) by rw [hS, ha, hb2]; rfl)
      clear hS
      go_enter Try.func39, Try.ntmps39
      go_upto_region 1 with fail
      have HC := Lib.hid (refC_start w s t zmet)
      generalize ((w.alloc _).alloc _).alloc _ = W0 at *
      obtain ⟨g0, g1, g2⟩ := HC.out.fs; obtain ⟨p0, p1, p2⟩ := HC.out.ft; have c4 := Mild.cell_of_block HC.out.fz; have f4 := Mild.free_of_block HC.out.fz; have hB := HC.out.below; have hz := HC.out.big
      go_wp2_with (first | (go_at_call 27; (with_reducible refine (rhas_any s s.lo _ a4 AP.out (by omega) (by omega) (by omega)).mono ?_); rw [ha]; rintro e w1 ⟨rfl, hb⟩; replace HC := Lib.hid (RefC.step _ _ HC.out hb); clear g0 g1 g2 p0 p1 p2 c4 f4 hB hz hb; obtain ⟨g0, g1, g2⟩ := HC.out.fs; obtain ⟨p0, p1, p2⟩ := HC.out.ft; have c4 := Mild.cell_of_block HC.out.fz; have f4 := Mild.free_of_block HC.out.fz; have hB := HC.out.below; have hz := HC.out.big) | (go_at_call 27; (with_reducible refine (rhas_any t s.lo _ b4 BP.out (by omega) (by omega) (by omega)).mono ?_); rw [hb2]; rintro e w1 ⟨rfl, hb⟩; replace HC := Lib.hid (RefC.step _ _ HC.out hb); clear g0 g1 g2 p0 p1 p2 c4 f4 hB hz hb; obtain ⟨g0, g1, g2⟩ := HC.out.fs; obtain ⟨p0, p1, p2⟩ := HC.out.ft; have c4 := Mild.cell_of_block HC.out.fz; have f4 := Mild.free_of_block HC.out.fz; have hB := HC.out.below; have hz := HC.out.big))
      exact bodyPost_ret (v := .agg #[.int .i64 0, .int .i64 0, .int .i64 0, .bool false]) (by simp [results, Try.results39, go_sem, *]; done) rfl ⟨by rw [hD.out]; rfl, by (repeat' (first | (with_reducible exact Below.refl _ _) | (with_reducible assumption) | (with_reducible refine Below.alloc ?_ ?_ _) | (with_reducible refine Below.drew ?_) | (with_reducible refine bdn ?_ _) | (with_reducible refine Below.setCell ?_ ?_ _) | go_size))⟩
    · have hD := Lib.hid (show meetM s t = (madeM s.lo s.lo 0, true) by rw [hS, ha, hb2]; rfl)
      clear hS
      go_enter Try.func39, Try.ntmps39
      go_upto_region 1 with fail
      have HC := Lib.hid (refC_start w s t zmet)
      generalize ((w.alloc _).alloc _).alloc _ = W0 at *
      obtain ⟨g0, g1, g2⟩ := HC.out.fs; obtain ⟨p0, p1, p2⟩ := HC.out.ft; have c4 := Mild.cell_of_block HC.out.fz; have f4 := Mild.free_of_block HC.out.fz; have hB := HC.out.below; have hz := HC.out.big
      go_wp2_with (first | (go_at_call 27; (with_reducible refine (rhas_any s s.lo _ a4 AP.out (by omega) (by omega) (by omega)).mono ?_); rw [ha]; rintro e w1 ⟨rfl, hb⟩; replace HC := Lib.hid (RefC.step _ _ HC.out hb); clear g0 g1 g2 p0 p1 p2 c4 f4 hB hz hb; obtain ⟨g0, g1, g2⟩ := HC.out.fs; obtain ⟨p0, p1, p2⟩ := HC.out.ft; have c4 := Mild.cell_of_block HC.out.fz; have f4 := Mild.free_of_block HC.out.fz; have hB := HC.out.below; have hz := HC.out.big) | (go_at_call 27; (with_reducible refine (rhas_any t s.lo _ b4 BP.out (by omega) (by omega) (by omega)).mono ?_); rw [hb2]; rintro e w1 ⟨rfl, hb⟩; replace HC := Lib.hid (RefC.step _ _ HC.out hb); clear g0 g1 g2 p0 p1 p2 c4 f4 hB hz hb; obtain ⟨g0, g1, g2⟩ := HC.out.fs; obtain ⟨p0, p1, p2⟩ := HC.out.ft; have c4 := Mild.cell_of_block HC.out.fz; have f4 := Mild.free_of_block HC.out.fz; have hB := HC.out.below; have hz := HC.out.big) | (go_at_call 41; (with_reducible refine (rmade_any s.lo s.lo 0 _).mono ?_); rintro e w1 ⟨rfl, hb⟩; replace HC := Lib.hid (RefC.step _ _ HC.out hb); clear g0 g1 g2 p0 p1 p2 c4 f4 hB hz hb; obtain ⟨g0, g1, g2⟩ := HC.out.fs; obtain ⟨p0, p1, p2⟩ := HC.out.ft; have c4 := Mild.cell_of_block HC.out.fz; have f4 := Mild.free_of_block HC.out.fz; have hB := HC.out.below; have hz := HC.out.big))
      exact bodyPost_ret (v := met (madeM s.lo s.lo 0, true)) (by simp [results, Try.results39, go_sem, *]; done) rfl ⟨by rw [hD.out], by (repeat' (first | (with_reducible exact Below.refl _ _) | (with_reducible assumption) | (with_reducible refine Below.alloc ?_ ?_ _) | (with_reducible refine Below.drew ?_) | (with_reducible refine bdn ?_ _) | (with_reducible refine Below.setCell ?_ ?_ _) | go_size))⟩
set_option maxRecDepth 100000 in
set_option maxHeartbeats 2000000 in
theorem rmeet_oneB (w : World) (s t : Sp) (hs : Vld s) (ht : Vld t) (h3 : s.st ≤ 16777216) (h4 : t.st ≤ 16777216) (hz1 : ¬ s.st = 0) (hz0 : t.st = 0) :
    Calls Try.prog 39 #[spv s, spv t] w fun e w' => e = .returned (met (meetM s t)) ∧ Below w.heap.size w w' := by
  have hS := meet_unique hs ht (by omega) (by omega) (rmeet_one hs ht t.lo (.inr ⟨hz0, rfl⟩))
  have a1 := hs.lo; have a2 := hs.hi; have a3 := hs.le; have a4 := hs.st0; have AP := Lib.hid hs.pos
  have b1 := ht.lo; have b2 := ht.hi; have b3 := ht.le; have b4 := ht.st0; have BP := Lib.hid ht.pos
  have z1 : (s.st == 0) = false := by simp [hz1]
  have z2 : (s.st != 0) = true := by simp [hz1]
  have z3 : (t.st == 0) = true := by simp [hz0]
  clear hz0 hz1
  cases ha : hasB s t.lo
  · have hD := Lib.hid (show meetM s t = (zsp, false) by rw [hS, ha]; rfl)
    clear hS
    go_enter Try.func39, Try.ntmps39
    go_upto_region 1 with fail
    have HC := Lib.hid (refC_start w s t zmet)
    generalize ((w.alloc _).alloc _).alloc _ = W0 at *
    obtain ⟨g0, g1, g2⟩ := HC.out.fs; obtain ⟨p0, p1, p2⟩ := HC.out.ft; have c4 := Mild.cell_of_block HC.out.fz; have f4 := Mild.free_of_block HC.out.fz; have hB := HC.out.below; have hz := HC.out.big
    go_wp2_with (first | (go_at_call 27; (with_reducible refine (rhas_any s t.lo _ a4 AP.out (by omega) (by omega) (by omega)).mono ?_); rw [ha]; rintro e w1 ⟨rfl, hb⟩; replace HC := Lib.hid (RefC.step _ _ HC.out hb); clear g0 g1 g2 p0 p1 p2 c4 f4 hB hz hb; obtain ⟨g0, g1, g2⟩ := HC.out.fs; obtain ⟨p0, p1, p2⟩ := HC.out.ft; have c4 := Mild.cell_of_block HC.out.fz; have f4 := Mild.free_of_block HC.out.fz; have hB := HC.out.below; have hz := HC.out.big))
    exact bodyPost_ret (v := .agg #[.int .i64 0, .int .i64 0, .int .i64 0, .bool false]) (by simp [results, Try.results39, go_sem, *]; done) rfl ⟨by rw [hD.out]; rfl, by (repeat' (first | (with_reducible exact Below.refl _ _) | (with_reducible assumption) | (with_reducible refine Below.alloc ?_ ?_ _) | (with_reducible refine Below.drew ?_) | (with_reducible refine bdn ?_ _) | (with_reducible refine Below.setCell ?_ ?_ _) | go_size))⟩
  · cases hb2 : hasB t t.lo
    · have hD := Lib.hid (show meetM s t = (zsp, false) by rw [hS, ha, hb2]; rfl)
      clear hS
      go_enter Try.func39, Try.ntmps39
      go_upto_region 1 with fail
      have HC := Lib.hid (refC_start w s t zmet)
      generalize ((w.alloc _).alloc _).alloc _ = W0 at *
      obtain ⟨g0, g1, g2⟩ := HC.out.fs; obtain ⟨p0, p1, p2⟩ := HC.out.ft; have c4 := Mild.cell_of_block HC.out.fz; have f4 := Mild.free_of_block HC.out.fz; have hB := HC.out.below; have hz := HC.out.big
      go_wp2_with (first | (go_at_call 27; (with_reducible refine (rhas_any s t.lo _ a4 AP.out (by omega) (by omega) (by omega)).mono ?_); rw [ha]; rintro e w1 ⟨rfl, hb⟩; replace HC := Lib.hid (RefC.step _ _ HC.out hb); clear g0 g1 g2 p0 p1 p2 c4 f4 hB hz hb; obtain ⟨g0, g1, g2⟩ := HC.out.fs; obtain ⟨p0, p1, p2⟩ := HC.out.ft; have c4 := Mild.cell_of_block HC.out.fz; have f4 := Mild.free_of_block HC.out.fz; have hB := HC.out.below; have hz := HC.out.big) | (go_at_call 27; (with_reducible refine (rhas_any t t.lo _ b4 BP.out (by omega) (by omega) (by omega)).mono ?_); rw [hb2]; rintro e w1 ⟨rfl, hb⟩; replace HC := Lib.hid (RefC.step _ _ HC.out hb); clear g0 g1 g2 p0 p1 p2 c4 f4 hB hz hb; obtain ⟨g0, g1, g2⟩ := HC.out.fs; obtain ⟨p0, p1, p2⟩ := HC.out.ft; have c4 := Mild.cell_of_block HC.out.fz; have f4 := Mild.free_of_block HC.out.fz; have hB := HC.out.below; have hz := HC.out.big))
      exact bodyPost_ret (v := .agg #[.int .i64 0, .int .i64 0, .int .i64 0, .bool false]) (by simp [results, Try.results39, go_sem, *]; done) rfl ⟨by rw [hD.out]; rfl, by (repeat' (first | (with_reducible exact Below.refl _ _) | (with_reducible assumption) | (with_reducible refine Below.alloc ?_ ?_ _) | (with_reducible refine Below.drew ?_) | (with_reducible refine bdn ?_ _) | (with_reducible refine Below.setCell ?_ ?_ _) | go_size))⟩
    · have hD := Lib.hid (show meetM s t = (madeM t.lo t.lo 0, true) by rw [hS, ha, hb2]; rfl)
      clear hS
      go_enter Try.func39, Try.ntmps39
      go_upto_region 1 with fail
      have HC := Lib.hid (refC_start w s t zmet)
      generalize ((w.alloc _).alloc _).alloc _ = W0 at *
      obtain ⟨g0, g1, g2⟩ := HC.out.fs; obtain ⟨p0, p1, p2⟩ := HC.out.ft; have c4 := Mild.cell_of_block HC.out.fz; have f4 := Mild.free_of_block HC.out.fz; have hB := HC.out.below; have hz := HC.out.big
      go_wp2_with (first | (go_at_call 27; (with_reducible refine (rhas_any s t.lo _ a4 AP.out (by omega) (by omega) (by omega)).mono ?_); rw [ha]; rintro e w1 ⟨rfl, hb⟩; replace HC := Lib.hid (RefC.step _ _ HC.out hb); clear g0 g1 g2 p0 p1 p2 c4 f4 hB hz hb; obtain ⟨g0, g1, g2⟩ := HC.out.fs; obtain ⟨p0, p1, p2⟩ := HC.out.ft; have c4 := Mild.cell_of_block HC.out.fz; have f4 := Mild.free_of_block HC.out.fz; have hB := HC.out.below; have hz := HC.out.big) | (go_at_call 27; (with_reducible refine (rhas_any t t.lo _ b4 BP.out (by omega) (by omega) (by omega)).mono ?_); rw [hb2]; rintro e w1 ⟨rfl, hb⟩; replace HC := Lib.hid (RefC.step _ _ HC.out hb); clear g0 g1 g2 p0 p1 p2 c4 f4 hB hz hb; obtain ⟨g0, g1, g2⟩ := HC.out.fs; obtain ⟨p0, p1, p2⟩ := HC.out.ft; have c4 := Mild.cell_of_block HC.out.fz; have f4 := Mild.free_of_block HC.out.fz; have hB := HC.out.below; have hz := HC.out.big) | (go_at_call 41; (with_reducible refine (rmade_any t.lo t.lo 0 _).mono ?_); rintro e w1 ⟨rfl, hb⟩; replace HC := Lib.hid (RefC.step _ _ HC.out hb); clear g0 g1 g2 p0 p1 p2 c4 f4 hB hz hb; obtain ⟨g0, g1, g2⟩ := HC.out.fs; obtain ⟨p0, p1, p2⟩ := HC.out.ft; have c4 := Mild.cell_of_block HC.out.fz; have f4 := Mild.free_of_block HC.out.fz; have hB := HC.out.below; have hz := HC.out.big))
      exact bodyPost_ret (v := met (madeM t.lo t.lo 0, true)) (by simp [results, Try.results39, go_sem, *]; done) rfl ⟨by rw [hD.out], by (repeat' (first | (with_reducible exact Below.refl _ _) | (with_reducible assumption) | (with_reducible refine Below.alloc ?_ ?_ _) | (with_reducible refine Below.drew ?_) | (with_reducible refine bdn ?_ _) | (with_reducible refine Below.setCell ?_ ?_ _) | go_size))⟩
set_option maxRecDepth 100000 in
set_option maxHeartbeats 4000000 in
theorem rmeet_pos (w : World) (s t : Sp) (hs : Vld s) (ht : Vld t) (h3 : s.st ≤ 16777216) (h4 : t.st ≤ 16777216) (s1 : 1 ≤ s.st) (t1 : 1 ≤ t.st) :
    Calls Try.prog 39 #[spv s, spv t] w fun e w' => e = .returned (met (meetM s t)) ∧ Below w.heap.size w w' := by
  have a1 := hs.lo; have a2 := hs.hi; have a3 := hs.le
  have b1 := ht.lo; have b2 := ht.hi; have b3 := ht.le
  have z1 : (s.st == 0) = false := by simp; omega
  have z3 : (t.st == 0) = false := by simp; omega
  obtain ⟨g, hg⟩ : ∃ g, g = gcdM s.st t.st := ⟨_, rfl⟩
  have gg1 : 1 ≤ g := by rw [hg]; exact gcdM_pos (by omega)
  have gg2 : g ≤ t.st := by rw [hg]; exact gcdM_le t1
  have gne : ¬ g = 0 := by omega
  have HG := Lib.hid hg
  by_cases hd : g ∣ t.lo - s.lo
  · have hmd : (t.lo - s.lo).tmod g = 0 := Int.tmod_eq_zero_of_dvd hd
    obtain ⟨m, hm⟩ : ∃ m, m = t.st / g := ⟨_, rfl⟩
    obtain ⟨S, hS⟩ : ∃ S, S = s.st / g := ⟨_, rfl⟩
    obtain ⟨d, hdn⟩ : ∃ d, d = (t.lo - s.lo) / g := ⟨_, rfl⟩
    have dsg : g ∣ s.st := by rw [hg]; exact gcdM_dvd_left _ _
    have dtg : g ∣ t.st := by rw [hg]; exact gcdM_dvd_right _ _
    have r1 : t.st.tdiv g = m := by rw [hm]; exact Int.tdiv_eq_ediv_of_nonneg (by omega)
    have r1' : t.st / g = m := hm.symm
    have r2 : s.st.tdiv g = S := by rw [hS]; exact Int.tdiv_eq_ediv_of_nonneg (by omega)
    have r2' : s.st / g = S := hS.symm
    have r3 : (t.lo - s.lo).tdiv g = d := by rw [hdn]; exact Int.tdiv_eq_ediv_of_dvd hd
    have m1 : 1 ≤ m := by
      obtain ⟨x, hx⟩ := dtg
      rw [hm, hx, Int.mul_ediv_cancel_left _ (by omega)]
      have : g * 0 < g * x := by omega
      have := Int.lt_of_mul_lt_mul_left this (by omega)
      omega
    have m2 : m ≤ 16777216 := by rw [hm]; have := Int.ediv_le_self g (show 0 ≤ t.st by omega); omega
    have S0 : 0 ≤ S := by rw [hS]; exact Int.ediv_nonneg (by omega) (by omega)
    have S2 : S ≤ 16777216 := by rw [hS]; have := Int.ediv_le_self g (show 0 ≤ s.st by omega); omega
    have d1 : -4398046511104 ≤ d ∧ d ≤ 4398046511104 := by
      have := ediv_bd (a := t.lo - s.lo) gg1
      rw [← hdn] at this
      omega
    obtain ⟨d1, d2⟩ := d1
    have hcop : gcdM S m = 1 := by rw [hS, hm]; exact gcd_parts hg gg1
    have HI := Lib.hid (show ∀ w, Calls Try.prog 57 #[.int .i64 S, .int .i64 m] w fun e w' => e = .returned (.int .i64 (invM S m)) ∧ Below w.heap.size w w' from fun w => rinv_any S m w S0 (by omega) m1 (by omega) hcop)
    obtain ⟨inv, hinv⟩ : ∃ x, x = invM S m := ⟨_, rfl⟩
    have hIs : IsInv S m inv := by
      have R0 := inv_start m1 hcop
      have : ∃ x, IsInv S m x := by
        obtain ⟨x, y, hxy⟩ := bezout S0 (show 0 ≤ m by omega)
        rw [hcop] at hxy
        refine ⟨x % m, Int.emod_nonneg _ (by omega), Int.emod_lt_of_pos _ (by omega), ?_⟩
        have e6 := Int.mul_ediv_add_emod x m
        refine ⟨-y - S * (x / m), ?_⟩
        have h2 : S * (x % m) = S * x - m * (S * (x / m)) := by
          have : x % m = x - m * (x / m) := by omega
          rw [this, Int.mul_sub]
          congr 1
          rw [← Int.mul_assoc, Int.mul_comm S m, Int.mul_assoc]
        rw [h2, Int.mul_sub, Int.mul_neg]
        omega
      rw [hinv]
      unfold invM
      rw [dif_pos this]
      exact Classical.choose_spec this
    rw [← hinv] at HI
    clear hinv
    have i0 := hIs.1; have i1 := hIs.2.1
    obtain ⟨q1, q2, q3, q4, q5⟩ := rest_eq d m1
    have x1 := Int.lt_tmod_of_pos d (b := m) (by omega)
    have x2 := Int.tmod_lt_of_pos d (b := m) (by omega)
    have e1 : d.tmod m % m = d % m := by rw [← q1, Int.add_emod_right]
    have MM := Lib.hid (show ∀ w, Calls Try.prog 56 #[.int .i64 (d.tmod m % m), .int .i64 inv, .int .i64 m] w fun e w' => e = .returned (.int .i64 (d % m * inv % m)) ∧ w = w' from fun w => by
      rw [e1]; exact rmulmod_any (d % m) inv m w q4 q5 i0 m1 (by omega) (by omega))
    obtain ⟨k0, hk0⟩ : ∃ k, k = d % m * inv % m := ⟨_, rfl⟩
    have k00 : 0 ≤ k0 := by rw [hk0]; exact Int.emod_nonneg _ (by omega)
    have k01 : k0 < m := by rw [hk0]; exact Int.emod_lt_of_pos _ (by omega)
    rw [← hk0] at MM
    have RMk := Lib.hid (show ∀ k, k = rK s t m k0 → meetM s t = rmeetM s t m k from fun k hk =>
      meet_unique hs ht (by omega) (by omega) (rmeet_set (g := g) (inv := inv) (k0 := k0) hs ht s1 t1 ⟨hg, hm, by rw [← hS]; exact hIs.2.2, by rw [hk0, hdn]; rfl, hk⟩ hd))
    obtain ⟨le, hle⟩ : ∃ l, l = rLeast s t := ⟨_, rfl⟩
    have hle2 : (t.lo - s.lo + s.st - 1) / s.st = le := hle.symm
    have mne : ¬ m = 0 := by omega
    have sne : ¬ s.st = 0 := by omega
    clear hg hm hS hdn hcop hIs hk0 q1 q2 q3 q4 q5 e1 hd dsg dtg
    go_enter Try.func39, Try.ntmps39
    go_upto_region 1 with fail
    have HC := Lib.hid (refC_start w s t zmet)
    generalize ((w.alloc _).alloc _).alloc _ = W0 at *
    obtain ⟨g0, g1, g2⟩ := HC.out.fs; obtain ⟨p0, p1, p2⟩ := HC.out.ft; have c4 := Mild.cell_of_block HC.out.fz; have f4 := Mild.free_of_block HC.out.fz; have hB := HC.out.below; have hz := HC.out.big
    go_wp2_with (go_at_call 21; (with_reducible refine (rgcd_any s.st t.st _ (by omega) (by omega) (by omega) (by omega)).mono ?_); rw [← HG.out]; rintro e w1 ⟨rfl, hb⟩; replace HC := Lib.hid (RefC.step _ _ HC.out hb); clear g0 g1 g2 p0 p1 p2 c4 f4 hB hz hb; obtain ⟨g0, g1, g2⟩ := HC.out.fs; obtain ⟨p0, p1, p2⟩ := HC.out.ft; have c4 := Mild.cell_of_block HC.out.fz; have f4 := Mild.free_of_block HC.out.fz; have hB := HC.out.below; have hz := HC.out.big)
    clear g0 g1 g2 p0 p1 p2 c4 f4 hB hz
    refine Mild.region_mild 21 [] (RefC w s t zmet) (by kernel_rfl) 172 (by kernel_rfl) rfl (by simp) RefC.step HC.out (by simp) ?H
    apply Exists.intro
    refine ⟨?HW, ?HT⟩
    case HW =>
      intro W hW
      obtain ⟨g0, ga, gb⟩ := hW.fs; obtain ⟨p0, p1, p2⟩ := hW.ft; clear hW
      simp only [List.take_succ_cons, List.take_zero]
      repeat (apply Mild.walkM_q rfl; (go_wp2_with (first | (go_at_call 57; (with_reducible refine (HI.out _).mono ?_); rintro e w1 ⟨rfl, hb⟩) | (go_at_call 56; (with_reducible refine (MM.out _).mono ?_); rintro e w1 ⟨rfl, rfl⟩))); (first | refine ⟨rfl, rfl, Below.refl _ _, ?_⟩ | refine ⟨rfl, rfl, hb, ?_⟩))
      exact Mild.walkM_end rfl
    case HT =>
      intro F w9 hC u1 u2
      clear u1 u2
      simp only [List.drop_succ_cons, List.drop_zero, Mild.putAll, List.foldl_cons, List.foldl_nil, Mild.ptrTo, Act.put, List.setIfInBounds_toArray, List.set_cons_zero, List.set_cons_succ]
      clear F HC HI MM
      have HC := Lib.hid hC
      clear hC
      go_upto_region 13 with fail
      rename_i K1 hK1 K2 hK2
      have HK : ∀ (x0 x1 x5 x6 x9 x10 x11 x12 x13 x14 x15 x16 x17 x18 x19 x20 x21 x22 x23 x24 x25 x26 x27 x28 x29 x30 x31 x32 x33 x34 x35 x36 x37 x38 x39 x40 x41 x42 x43 x44 x45 x46 x47 x48 x49 x50 x51 x52 x53 x54 x55 x56 x57 x58 x59 x60 x61 x62 x63 x64 x65 x66 x67 x68 x69 x70 x71 x72 x73 x74 x75 x76 x77 x78 x79 x80 x81 x82 x83 x84 x85 x86 x87 x88 x89 x90 x91 x92 x93 x94 x95 x96 x97 x98 x99 x100 x101 x102 x103 x104 x105 x106 x107 x108 x109 x110 x111 x112 x113 x114 x115 x116 x117 x118 x119 x120 x121 x122 x123 x124 x125 x126 x127 x128 x129 x130 x131 x132 x133 x134 x135 x136 x137 x138 x139 x140 x141 x142 x143 x144 x145 x146 x147 x148 x149 x150 x151 x152 x153 x154 x155 x156 x157 x158 x159 x160 x161 x162 x163 x164 x165 x166 x167 x168 x169 x170 x171 : Value) (k : Int) (W : World), Hid (RefC w s t zmet W ∧ 0 ≤ k ∧ k ≤ 4398046511104 ∧ meetM s t = rmeetM s t m k) → K1 ⟨List.toArray (x0 :: x1 :: .pointer (some ⟨w.heap.size, 0, none⟩) :: .pointer (some ⟨w.heap.size + 1, 0, none⟩) :: .pointer (some ⟨w.heap.size + 2, 0, none⟩) :: x5 :: x6 :: .int .i64 m :: .int .i64 k :: x9 :: x10 :: x11 :: x12 :: x13 :: x14 :: x15 :: x16 :: x17 :: x18 :: x19 :: x20 :: x21 :: x22 :: x23 :: x24 :: x25 :: x26 :: x27 :: x28 :: x29 :: x30 :: x31 :: x32 :: x33 :: x34 :: x35 :: x36 :: x37 :: x38 :: x39 :: x40 :: x41 :: x42 :: x43 :: x44 :: x45 :: x46 :: x47 :: x48 :: x49 :: x50 :: x51 :: x52 :: x53 :: x54 :: x55 :: x56 :: x57 :: x58 :: x59 :: x60 :: x61 :: x62 :: x63 :: x64 :: x65 :: x66 :: x67 :: x68 :: x69 :: x70 :: x71 :: x72 :: x73 :: x74 :: x75 :: x76 :: x77 :: x78 :: x79 :: x80 :: x81 :: x82 :: x83 :: x84 :: x85 :: x86 :: x87 :: x88 :: x89 :: x90 :: x91 :: x92 :: x93 :: x94 :: x95 :: x96 :: x97 :: x98 :: x99 :: x100 :: x101 :: x102 :: x103 :: x104 :: x105 :: x106 :: x107 :: x108 :: x109 :: x110 :: x111 :: x112 :: x113 :: x114 :: x115 :: x116 :: x117 :: x118 :: x119 :: x120 :: x121 :: x122 :: x123 :: x124 :: x125 :: x126 :: x127 :: x128 :: x129 :: x130 :: x131 :: x132 :: x133 :: x134 :: x135 :: x136 :: x137 :: x138 :: x139 :: x140 :: x141 :: x142 :: x143 :: x144 :: x145 :: x146 :: x147 :: x148 :: x149 :: x150 :: x151 :: x152 :: x153 :: x154 :: x155 :: x156 :: x157 :: x158 :: x159 :: x160 :: x161 :: x162 :: x163 :: x164 :: x165 :: x166 :: x167 :: x168 :: x169 :: x170 :: x171 :: []), []⟩ W := fun x0 x1 x5 x6 x9 x10 x11 x12 x13 x14 x15 x16 x17 x18 x19 x20 x21 x22 x23 x24 x25 x26 x27 x28 x29 x30 x31 x32 x33 x34 x35 x36 x37 x38 x39 x40 x41 x42 x43 x44 x45 x46 x47 x48 x49 x50 x51 x52 x53 x54 x55 x56 x57 x58 x59 x60 x61 x62 x63 x64 x65 x66 x67 x68 x69 x70 x71 x72 x73 x74 x75 x76 x77 x78 x79 x80 x81 x82 x83 x84 x85 x86 x87 x88 x89 x90 x91 x92 x93 x94 x95 x96 x97 x98 x99 x100 x101 x102 x103 x104 x105 x106 x107 x108 x109 x110 x111 x112 x113 x114 x115 x116 x117 x118 x119 x120 x121 x122 x123 x124 x125 x126 x127 x128 x129 x130 x131 x132 x133 x134 x135 x136 x137 x138 x139 x140 x141 x142 x143 x144 x145 x146 x147 x148 x149 x150 x151 x152 x153 x154 x155 x156 x157 x158 x159 x160 x161 x162 x163 x164 x165 x166 x167 x168 x169 x170 x171 k W h => hK1 _ _ (by
        obtain ⟨y1, y2, y3, y4⟩ := h.out
        have h9 := rmeet_tail w W s t m k x0 x1 x5 x6 x9 x10 x11 x12 x13 x14 x15 x16 x17 x18 x19 x20 x21 x22 x23 x24 x25 x26 x27 x28 x29 x30 x31 x32 x33 x34 x35 x36 x37 x38 x39 x40 x41 x42 x43 x44 x45 x46 x47 x48 x49 x50 x51 x52 x53 x54 x55 x56 x57 x58 x59 x60 x61 x62 x63 x64 x65 x66 x67 x68 x69 x70 x71 x72 x73 x74 x75 x76 x77 x78 x79 x80 x81 x82 x83 x84 x85 x86 x87 x88 x89 x90 x91 x92 x93 x94 x95 x96 x97 x98 x99 x100 x101 x102 x103 x104 x105 x106 x107 x108 x109 x110 x111 x112 x113 x114 x115 x116 x117 x118 x119 x120 x121 x122 x123 x124 x125 x126 x127 x128 x129 x130 x131 x132 x133 x134 x135 x136 x137 x138 x139 x140 x141 x142 x143 x144 x145 x146 x147 x148 x149 x150 x151 x152 x153 x154 x155 x156 x157 x158 x159 x160 x161 x162 x163 x164 x165 x166 x167 x168 x169 x170 x171 hs ht s1 m1 h3 m2 y2 y3 y1
        rw [← y4] at h9
        exact h9)
      clear hK1
      obtain ⟨g0, ga, gb⟩ := HC.out.fs
      obtain ⟨p0, p1, p2⟩ := HC.out.ft
      by_cases c1 : s.lo < t.lo
      · have l0 : 1 ≤ le ∧ le ≤ 4398046511103 - 16777216 := by
          have := ceil_spec (a := t.lo - s.lo) s1
          rw [hle2] at this
          refine ⟨?_, ?_⟩
          · have h5 : s.st * 0 < s.st * le := by omega
            have := Int.lt_of_mul_lt_mul_left h5 (by omega)
            omega
          · have h5 := Int.ediv_le_self s.st (show 0 ≤ t.lo - s.lo + s.st - 1 by omega)
            rw [hle2] at h5
            omega
        obtain ⟨l1, l2⟩ := l0
        by_cases c2 : k0 < le
        · obtain ⟨c, hcn⟩ : ∃ c, c = (le - k0 + m - 1) / m := ⟨_, rfl⟩
          have cs := ceil_spec (a := le - k0) m1
          rw [← hcn, Int.mul_comm] at cs
          have hc2 : (le - k0 + m - 1) / m = c := hcn.symm
          have n0 : 0 ≤ c * m := by omega
          have n1 : c * m ≤ 4398046511103 := by omega
          have HE : Hid (RefC w s t zmet w9 ∧ 0 ≤ k0 + c * m ∧ k0 + c * m ≤ 4398046511104 ∧ meetM s t = rmeetM s t m (k0 + c * m)) := Lib.hid ⟨HC.out, by omega, by omega, RMk.out _ (by unfold rK; rw [← hle, if_pos ⟨c1, c2⟩, hcn])⟩
          clear HC RMk hcn cs hle
          go_wp2_with fail
          all_goals exact HE
        · have HE : Hid (RefC w s t zmet w9 ∧ 0 ≤ k0 ∧ k0 ≤ 4398046511104 ∧ meetM s t = rmeetM s t m k0) := Lib.hid ⟨HC.out, by omega, by omega, RMk.out _ (by unfold rK; rw [← hle, if_neg (by omega)])⟩
          have dc2 : decide (k0 < le) = false := by simpa using c2
          clear HC RMk hle c2
          go_wp2_with fail
          all_goals exact HE
      · have HE : Hid (RefC w s t zmet w9 ∧ 0 ≤ k0 ∧ k0 ≤ 4398046511104 ∧ meetM s t = rmeetM s t m k0) := Lib.hid ⟨HC.out, by omega, by omega, RMk.out _ (by unfold rK; rw [if_neg (by omega)])⟩
        have dc1 : decide (s.lo < t.lo) = false := by simpa using c1
        clear HC RMk hle c1 hle2
        go_wp2_with fail
        all_goals exact HE
  · have hmd : ((t.lo - s.lo).tmod g != 0) = true := by
      rw [bne_iff_ne]; intro h; exact hd (Int.dvd_of_tmod_eq_zero h)
    have hD := Lib.hid (show meetM s t = (zsp, false) from meet_unique hs ht (by omega) (by omega) (rmeet_far hg hd))
    clear hg hd
    go_enter Try.func39, Try.ntmps39
    go_upto_region 1 with fail
    have HC := Lib.hid (refC_start w s t zmet)
    generalize ((w.alloc _).alloc _).alloc _ = W0 at *
    obtain ⟨g0, g1, g2⟩ := HC.out.fs; obtain ⟨p0, p1, p2⟩ := HC.out.ft; have c4 := Mild.cell_of_block HC.out.fz; have f4 := Mild.free_of_block HC.out.fz; have hB := HC.out.below; have hz := HC.out.big
    go_wp2_with (go_at_call 21; (with_reducible refine (rgcd_any s.st t.st _ (by omega) (by omega) (by omega) (by omega)).mono ?_); rw [← HG.out]; rintro e w1 ⟨rfl, hb⟩; replace HC := Lib.hid (RefC.step _ _ HC.out hb); clear g0 g1 g2 p0 p1 p2 c4 f4 hB hz hb; obtain ⟨g0, g1, g2⟩ := HC.out.fs; obtain ⟨p0, p1, p2⟩ := HC.out.ft; have c4 := Mild.cell_of_block HC.out.fz; have f4 := Mild.free_of_block HC.out.fz; have hB := HC.out.below; have hz := HC.out.big)
    exact bodyPost_ret (v := .agg #[.int .i64 0, .int .i64 0, .int .i64 0, .bool false]) (by simp [results, Try.results39, go_sem, *]; done) rfl ⟨by rw [hD.out]; rfl, by (repeat' (first | (with_reducible exact Below.refl _ _) | (with_reducible assumption) | (with_reducible refine Below.alloc ?_ ?_ _) | (with_reducible refine Below.drew ?_) | (with_reducible refine bdn ?_ _) | (with_reducible refine Below.setCell ?_ ?_ _) | go_size))⟩
theorem rmeet_any (s t : Sp) (w : World) (hs : Vld s) (ht : Vld t) (h3 : s.st ≤ 16777216) (h4 : t.st ≤ 16777216) :
    Calls Try.prog 39 #[spv s, spv t] w fun e w' => e = .returned (met (meetM s t)) ∧ Below w.heap.size w w' := by
  have a := hs.st0; have b := ht.st0
  by_cases h1 : s.st = 0
  · exact rmeet_oneA w s t hs ht h3 h4 h1
  · by_cases h2 : t.st = 0
    · exact rmeet_oneB w s t hs ht h3 h4 h1 h2
    · exact rmeet_pos w s t hs ht h3 h4 (by omega) (by omega)
end Go.Proofs.Ytnihhchgnkfcgaa

