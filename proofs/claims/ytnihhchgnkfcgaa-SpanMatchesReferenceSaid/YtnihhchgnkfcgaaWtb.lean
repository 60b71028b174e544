/- The walks of the reference's products and remainders. -/
import Derived.Test.YtnihhchgnkfcgaaWta
import Derived.Deep.DeepCutAuto
-- USEBDN
set_option linter.unusedSimpArgs false
set_option linter.unusedVariables false
namespace Go.Proofs.Ytnihhchgnkfcgaa
open Go.ChangeShapes Go.WideShapes Go.ChangeAt Go.RowKit
attribute [local go_sem high] run_min_mm run_max_mm
theorem cap_small {n : Int} (h1 : -4611686018427387904 ≤ n) (h2 : n ≤ 4611686018427387904) : capM n = (n.natAbs : Int) := by unfold capM; split <;> omega
set_option maxHeartbeats 1000000 in
theorem rscale_any (s : Sp) (k : Int) (w : World) (hs : Vld s) (k1 : -9223372036854775808 ≤ k) (k2 : k ≤ 9223372036854775807) :
    Calls Try.prog 30 #[spv s, .int .i64 k] w fun e w' => e = .returned (spe (scaleM s k)) ∧ Below w.heap.size w w' := by
  have h0 := hs.st0; have h1 := hs.stle; have h2 := hs.lo; have h3 := hs.le; have h4 := hs.hi
  cases hf1 : fitsB s.lo k
  · have hD := Lib.hid (show scaleM s k = ⟨zsp, 2⟩ by simp [scaleM, hf1])
    cases hf2 : fitsB s.hi k
    · go_enter Try.func30, Try.ntmps30
      go_wp2_with (first | (go_at_call 50; (with_reducible refine (times_any s.lo k _ (by omega) (by omega) k1 k2).mono ?_); rw [hf1]; rintro e w' ⟨rfl, rfl⟩) | (go_at_call 50; (with_reducible refine (times_any s.hi k _ (by omega) (by omega) k1 k2).mono ?_); rw [hf2]; rintro e w' ⟨rfl, rfl⟩))
      exact bodyPost_ret (v := .agg #[.int .i64 0, .int .i64 0, .int .i64 0, .int .i64 2]) (by simp [results, Try.results30, go_sem]) rfl ⟨by rw [hD.out]; rfl, by (repeat' (first | (with_reducible exact Below.refl _ _) | (with_reducible assumption) | (with_reducible refine Below.alloc ?_ ?_ _) | (with_reducible refine Below.drew ?_) | (with_reducible refine bdn ?_ _) | (with_reducible refine Below.setCell ?_ ?_ _) | go_size))⟩
    · go_enter Try.func30, Try.ntmps30
      go_wp2_with (first | (go_at_call 50; (with_reducible refine (times_any s.lo k _ (by omega) (by omega) k1 k2).mono ?_); rw [hf1]; rintro e w' ⟨rfl, rfl⟩) | (go_at_call 50; (with_reducible refine (times_any s.hi k _ (by omega) (by omega) k1 k2).mono ?_); rw [hf2]; rintro e w' ⟨rfl, rfl⟩))
      exact bodyPost_ret (v := .agg #[.int .i64 0, .int .i64 0, .int .i64 0, .int .i64 2]) (by simp [results, Try.results30, go_sem]) rfl ⟨by rw [hD.out]; rfl, by (repeat' (first | (with_reducible exact Below.refl _ _) | (with_reducible assumption) | (with_reducible refine Below.alloc ?_ ?_ _) | (with_reducible refine Below.drew ?_) | (with_reducible refine bdn ?_ _) | (with_reducible refine Below.setCell ?_ ?_ _) | go_size))⟩
  · cases hf2 : fitsB s.hi k
    · have hD := Lib.hid (show scaleM s k = ⟨zsp, 2⟩ by simp [scaleM, hf1, hf2])
      go_enter Try.func30, Try.ntmps30
      go_wp2_with (first | (go_at_call 50; (with_reducible refine (times_any s.lo k _ (by omega) (by omega) k1 k2).mono ?_); rw [hf1]; rintro e w' ⟨rfl, rfl⟩) | (go_at_call 50; (with_reducible refine (times_any s.hi k _ (by omega) (by omega) k1 k2).mono ?_); rw [hf2]; rintro e w' ⟨rfl, rfl⟩))
      exact bodyPost_ret (v := .agg #[.int .i64 0, .int .i64 0, .int .i64 0, .int .i64 2]) (by simp [results, Try.results30, go_sem]) rfl ⟨by rw [hD.out]; rfl, by (repeat' (first | (with_reducible exact Below.refl _ _) | (with_reducible assumption) | (with_reducible refine Below.alloc ?_ ?_ _) | (with_reducible refine Below.drew ?_) | (with_reducible refine bdn ?_ _) | (with_reducible refine Below.setCell ?_ ?_ _) | go_size))⟩
    · obtain ⟨m1, m2⟩ := scale_step h0 h1 (show fits4 s ⟨k, k, 0⟩ = true by rw [fits4_k, hf1, hf2]; rfl)
      obtain ⟨f1, f2⟩ := (fitsB_iff _ _).1 hf1
      obtain ⟨f3, f4⟩ := (fitsB_iff _ _).1 hf2
      have hD := Lib.hid (show scaleM s k = ⟨madeM (min (s.lo * k) (s.hi * k)) (max (s.lo * k) (s.hi * k)) (capM (s.st * k)), 0⟩ by
        rw [cap_small (by omega) (by omega)]; simp [scaleM, hf1, hf2])
      go_enter Try.func30, Try.ntmps30
      go_wp2_with (first | (go_at_call 50; (with_reducible refine (times_any s.lo k _ (by omega) (by omega) k1 k2).mono ?_); rw [hf1]; rintro e w' ⟨rfl, rfl⟩) | (go_at_call 50; (with_reducible refine (times_any s.hi k _ (by omega) (by omega) k1 k2).mono ?_); rw [hf2]; rintro e w' ⟨rfl, rfl⟩) | (go_at_call 51; (with_reducible refine (rcap_any (s.st * k) _ (by omega) (by omega)).mono ?_); rintro e w' ⟨rfl, rfl⟩) | (go_at_call 41; (with_reducible refine (rmade_any (min (s.lo * k) (s.hi * k)) (max (s.lo * k) (s.hi * k)) (capM (s.st * k)) _).mono ?_); rintro e w1 ⟨rfl, hb⟩; obtain ⟨hc, hf⟩ := bcell hb; have hz := hb.size; (try simp at hz); have z0 : w.heap.size < w1.heap.size := (by omega); have c0 := fun o => hc (w.heap.size) o (by go_size); have f0 := fun o => hf (w.heap.size) o (by go_size); have z1 : w.heap.size + 1 < w1.heap.size := (by omega); have c1 := fun o => hc (w.heap.size + 1) o (by go_size); have f1 := fun o => hf (w.heap.size + 1) o (by go_size); clear hc hf; have hB := bup (B := w.heap.size) (w := w) (by (repeat' (first | (with_reducible exact Below.refl _ _) | (with_reducible assumption) | (with_reducible refine Below.alloc ?_ ?_ _) | (with_reducible refine Below.drew ?_) | (with_reducible refine bdn ?_ _) | (with_reducible refine Below.setCell ?_ ?_ _) | go_size))) hb (by go_size); clear hb))
      exact bodyPost_ret (v := spe ⟨madeM (min (s.lo * k) (s.hi * k)) (max (s.lo * k) (s.hi * k)) (capM (s.st * k)), 0⟩) (by simp [results, Try.results30, go_sem, *]) rfl ⟨by rw [hD.out], by (repeat' (first | (with_reducible exact Below.refl _ _) | (with_reducible assumption) | (with_reducible refine Below.alloc ?_ ?_ _) | (with_reducible refine Below.drew ?_) | (with_reducible refine bdn ?_ _) | (with_reducible refine Below.setCell ?_ ?_ _) | go_size))⟩

set_option maxHeartbeats 1000000 in
theorem rmod_any (s : Sp) (m : Int) (w : World) (hs : Vld s) :
    Calls Try.prog 31 #[spv s, .int .i64 m] w fun e w' => e = .returned (spe (modM s m)) ∧ Below w.heap.size w w' := by
  have h0 := hs.st0; have h1 := hs.stle; have h2 := hs.lo; have h3 := hs.le; have h4 := hs.hi
  by_cases m1 : 1 ≤ m
  · have d1 : decide (m < 1) = false := by simpa using m1
    by_cases m2 : m ≤ 1099511627776
    · have d2 : decide (1099511627776 < m) = false := by simpa using m2
      by_cases hz : s.st = 0
      · have hz2 : (s.st == 0) = true := by simp [hz]
        obtain ⟨z1, z2, z3, z4, z5⟩ := rest_eq s.lo m1
        have b1 := Int.lt_tmod_of_pos s.lo (b := m) (by omega)
        have b2 := Int.tmod_lt_of_pos s.lo (b := m) (by omega)
        have hD := Lib.hid (show modM s m = ⟨madeM ((s.lo.tmod m + m) % m) ((s.lo.tmod m + m) % m) 0, 0⟩ by
          rw [z1]
          unfold modM
          rw [if_pos ⟨m1, m2⟩, hz]
          have hg : gcdM 0 m = m := gcdM_eq (by omega) (by simp)
          rw [hg]
          have e1 : (m - 1 - s.lo % m) % m = m - 1 - s.lo % m := Int.emod_eq_of_lt (by omega) (by omega)
          rw [e1]
          have e2 : m - 1 - (m - 1 - s.lo % m) = s.lo % m := by omega
          rw [e2]
          simp [madeM])
        have hne : ¬ m = 0 := by omega
        obtain ⟨r, hr⟩ : ∃ r, r = (s.lo.tmod m + m) % m := ⟨_, rfl⟩
        rw [← hr] at hD
        have HR := Lib.hid hr
        clear z1 z4 z5 hz hr
        go_enter Try.func31, Try.ntmps31
        go_upto_region 5 with (first | (go_at_call 24; refine (redge_any _).mono ?_; rintro e w' ⟨rfl, rfl⟩))
        rw [← HR.out]
        go_wp2_with (go_at_call 41; (with_reducible refine (rmade_any r r 0 _).mono ?_); rintro e w1 ⟨rfl, hb⟩; obtain ⟨hc, hf⟩ := bcell hb; have hz := hb.size; (try simp at hz); have z0 : w.heap.size < w1.heap.size := (by omega); have c0 := fun o => hc (w.heap.size) o (by go_size); have f0 := fun o => hf (w.heap.size) o (by go_size); have z1 : w.heap.size + 1 < w1.heap.size := (by omega); have c1 := fun o => hc (w.heap.size + 1) o (by go_size); have f1 := fun o => hf (w.heap.size + 1) o (by go_size); clear hc hf; have hB := bup (B := w.heap.size) (w := w) (by (repeat' (first | (with_reducible exact Below.refl _ _) | (with_reducible assumption) | (with_reducible refine Below.alloc ?_ ?_ _) | (with_reducible refine Below.drew ?_) | (with_reducible refine bdn ?_ _) | (with_reducible refine Below.setCell ?_ ?_ _) | go_size))) hb (by go_size); clear hb)
        exact bodyPost_ret (v := spe ⟨madeM r r 0, 0⟩) (by simp [results, Try.results31, go_sem, *]) rfl ⟨by rw [hD.out], by (repeat' (first | (with_reducible exact Below.refl _ _) | (with_reducible assumption) | (with_reducible refine Below.alloc ?_ ?_ _) | (with_reducible refine Below.drew ?_) | (with_reducible refine bdn ?_ _) | (with_reducible refine Below.setCell ?_ ?_ _) | go_size))⟩
      · have hz2 : (s.st == 0) = false := beq_eq_false_iff_ne.2 hz
        have g1 := gcdM_pos (a := s.st) (b := m) (by omega)
        have g2 := gcdM_le (a := s.st) m1
        have hD0 := Lib.hid (show modM s m = ⟨madeM (s.lo % gcdM s.st m) (m - 1 - (m - 1 - s.lo % gcdM s.st m) % gcdM s.st m) (gcdM s.st m), 0⟩ by simp [modM, m1, m2])
        obtain ⟨g, hg⟩ : ∃ g, g = gcdM s.st m := ⟨_, rfl⟩
        have HG := Lib.hid hg
        rw [← hg] at g1 g2 hD0
        clear hg
        obtain ⟨z1, z2, z3, z4, z5⟩ := rest_eq s.lo g1
        have b1 := Int.lt_tmod_of_pos s.lo (b := g) (by omega)
        have b2 := Int.tmod_lt_of_pos s.lo (b := g) (by omega)
        obtain ⟨r, hr⟩ : ∃ r, r = (s.lo.tmod g + g) % g := ⟨_, rfl⟩
        have HR := Lib.hid hr
        rw [← hr] at z1
        rw [← z1] at z4 z5 hD0
        have e0 := Int.mul_ediv_add_emod (m - 1 - r) g
        have e1 := Int.emod_nonneg (m - 1 - r) (b := g) (by omega)
        have e2 := Int.mul_nonneg (a := g) (b := (m - 1 - r) / g) (by omega) (Int.ediv_nonneg (by omega) (by omega))
        have hD := Lib.hid (show modM s m = ⟨madeM r (r + (m - 1 - r) / g * g) g, 0⟩ by
          rw [hD0.out]
          congr 2
          rw [Int.mul_comm ((m - 1 - r) / g)]
          omega)
        have q1 : 0 ≤ (m - 1 - r) / g * g := by rw [Int.mul_comm]; omega
        have q2 : (m - 1 - r) / g * g ≤ 1099511627776 := by rw [Int.mul_comm]; omega
        have hne : ¬ g = 0 := by omega
        clear z1 e0 e1 e2 hr hz hD0
        go_enter Try.func31, Try.ntmps31
        go_upto_region 8 with (first | (go_at_call 24; refine (redge_any _).mono ?_; rintro e w' ⟨rfl, rfl⟩) | (go_at_call 21; (with_reducible refine (rgcd_any s.st m _ (by omega) (by omega) (by omega) (by omega)).mono ?_); rw [← HG.out]; rintro e w1 ⟨rfl, hb⟩; obtain ⟨hc, hf⟩ := bcell hb; have hz := hb.size; (try simp at hz); have z0 : w.heap.size < w1.heap.size := (by omega); have c0 := fun o => hc (w.heap.size) o (by go_size); have f0 := fun o => hf (w.heap.size) o (by go_size); have z1 : w.heap.size + 1 < w1.heap.size := (by omega); have c1 := fun o => hc (w.heap.size + 1) o (by go_size); have f1 := fun o => hf (w.heap.size + 1) o (by go_size); clear hc hf; have hB := bup (B := w.heap.size) (w := w) (by (repeat' (first | (with_reducible exact Below.refl _ _) | (with_reducible assumption) | (with_reducible refine Below.alloc ?_ ?_ _) | (with_reducible refine Below.drew ?_) | (with_reducible refine bdn ?_ _) | (with_reducible refine Below.setCell ?_ ?_ _) | go_size))) hb (by go_size); clear hb))
        rw [← HR.out]
        go_wp2_with (go_at_call 41; (with_reducible refine (rmade_any r (r + (m - 1 - r) / g * g) g _).mono ?_); rintro e w1 ⟨rfl, hb⟩; obtain ⟨hc, hf⟩ := bcell hb; have hz := hb.size; (try simp at hz); have z0 : w.heap.size < w1.heap.size := (by omega); have c0 := fun o => hc (w.heap.size) o (by go_size); have f0 := fun o => hf (w.heap.size) o (by go_size); have z1 : w.heap.size + 1 < w1.heap.size := (by omega); have c1 := fun o => hc (w.heap.size + 1) o (by go_size); have f1 := fun o => hf (w.heap.size + 1) o (by go_size); clear hc hf; have hB := bup (B := w.heap.size) (w := w) (by (repeat' (first | (with_reducible exact Below.refl _ _) | (with_reducible assumption) | (with_reducible refine Below.alloc ?_ ?_ _) | (with_reducible refine Below.drew ?_) | (with_reducible refine bdn ?_ _) | (with_reducible refine Below.setCell ?_ ?_ _) | go_size))) hb (by go_size); clear hb)
        exact bodyPost_ret (v := spe ⟨madeM r (r + (m - 1 - r) / g * g) g, 0⟩) (by simp [results, Try.results31, go_sem, *]) rfl ⟨by rw [hD.out], by (repeat' (first | (with_reducible exact Below.refl _ _) | (with_reducible assumption) | (with_reducible refine Below.alloc ?_ ?_ _) | (with_reducible refine Below.drew ?_) | (with_reducible refine bdn ?_ _) | (with_reducible refine Below.setCell ?_ ?_ _) | go_size))⟩
    · have hD := Lib.hid (show modM s m = ⟨zsp, 1⟩ by simp [modM, m2])
      have d2 : decide (1099511627776 < m) = true := by simp; omega
      clear m2
      go_enter Try.func31, Try.ntmps31
      go_wp2_with (go_at_call 24; refine (redge_any _).mono ?_; rintro e w' ⟨rfl, rfl⟩)
      exact bodyPost_ret (v := .agg #[.int .i64 0, .int .i64 0, .int .i64 0, .int .i64 1]) (by simp [results, Try.results31, go_sem]) rfl ⟨by rw [hD.out]; rfl, by (repeat' (first | (with_reducible exact Below.refl _ _) | (with_reducible assumption) | (with_reducible refine Below.alloc ?_ ?_ _) | (with_reducible refine Below.drew ?_) | (with_reducible refine bdn ?_ _) | (with_reducible refine Below.setCell ?_ ?_ _) | go_size))⟩
  · have hD := Lib.hid (show modM s m = ⟨zsp, 1⟩ by simp [modM, m1])
    have d1 : decide (m < 1) = true := by simp; omega
    clear m1
    go_enter Try.func31, Try.ntmps31
    go_wp2_with fail
    exact bodyPost_ret (v := .agg #[.int .i64 0, .int .i64 0, .int .i64 0, .int .i64 1]) (by simp [results, Try.results31, go_sem]) rfl ⟨by rw [hD.out]; rfl, by (repeat' (first | (with_reducible exact Below.refl _ _) | (with_reducible assumption) | (with_reducible refine Below.alloc ?_ ?_ _) | (with_reducible refine Below.drew ?_) | (with_reducible refine bdn ?_ _) | (with_reducible refine Below.setCell ?_ ?_ _) | go_size))⟩

set_option maxHeartbeats 2000000 in
set_option maxRecDepth 100000 in
theorem rmul_bad (s t : Sp) (w : World) (hs : Vld s) (ht : Vld t) (hf : fits4 s t = false) :
    Calls Try.prog 37 #[spv s, spv t] w fun e w' => e = .returned (spe (mulM s t)) ∧ Below w.heap.size w w' := by
  have h0 := hs.st0; have h1 := hs.stle; have h2 := hs.lo; have h3 := hs.le; have h4 := hs.hi
  have k0 := ht.st0; have k1 := ht.stle; have k2 := ht.lo; have k3 := ht.le; have k4 := ht.hi
  have hD := Lib.hid (show mulM s t = ⟨zsp, 2⟩ by unfold mulM; rw [if_neg (by rw [hf]; simp)])
  have hf' := hf
  unfold fits4 at hf'
  cases f1 : fitsB s.lo t.lo <;> cases f2 : fitsB s.lo t.hi <;> cases f3 : fitsB s.hi t.lo <;> cases f4 : fitsB s.hi t.hi <;> first | (rw [f1, f2, f3, f4] at hf'; cases hf'; done) | (clear hf hf'; go_enter Try.func37, Try.ntmps37; go_wp2_with (first | (go_at_call 50; (with_reducible refine (times_any s.lo t.lo _ (by omega) (by omega) (by omega) (by omega)).mono ?_); rw [f1]; rintro e w' ⟨rfl, rfl⟩) | (go_at_call 50; (with_reducible refine (times_any s.lo t.hi _ (by omega) (by omega) (by omega) (by omega)).mono ?_); rw [f2]; rintro e w' ⟨rfl, rfl⟩) | (go_at_call 50; (with_reducible refine (times_any s.hi t.lo _ (by omega) (by omega) (by omega) (by omega)).mono ?_); rw [f3]; rintro e w' ⟨rfl, rfl⟩) | (go_at_call 50; (with_reducible refine (times_any s.hi t.hi _ (by omega) (by omega) (by omega) (by omega)).mono ?_); rw [f4]; rintro e w' ⟨rfl, rfl⟩)); exact bodyPost_ret (v := .agg #[.int .i64 0, .int .i64 0, .int .i64 0, .int .i64 2]) (by simp [results, Try.results37, go_sem]) rfl ⟨by rw [hD.out]; rfl, by (repeat' (first | (with_reducible exact Below.refl _ _) | (with_reducible assumption) | (with_reducible refine Below.alloc ?_ ?_ _) | (with_reducible refine Below.drew ?_) | (with_reducible refine bdn ?_ _) | (with_reducible refine Below.setCell ?_ ?_ _) | go_size))⟩)
theorem min4_eq (a b c d : Int) : min4 a b c d = min a (min b (min c d)) := by unfold min4; omega
theorem max4_eq (a b c d : Int) : max4 a b c d = max a (max b (max c d)) := by unfold max4; omega
set_option maxHeartbeats 2000000 in
theorem rmul_good (s t : Sp) (w : World) (hs : Vld s) (ht : Vld t) (hf : fits4 s t = true) :
    Calls Try.prog 37 #[spv s, spv t] w fun e w' => e = .returned (spe (mulM s t)) ∧ Below w.heap.size w w' := by
  have h0 := hs.st0; have h1 := hs.stle; have h2 := hs.lo; have h3 := hs.le; have h4 := hs.hi
  have k0 := ht.st0; have k1 := ht.stle; have k2 := ht.lo; have k3 := ht.le; have k4 := ht.hi
  have hD := Lib.hid (show mulM s t = ⟨madeM (min (s.lo * t.lo) (min (s.lo * t.hi) (min (s.hi * t.lo) (s.hi * t.hi)))) (max (s.lo * t.lo) (max (s.lo * t.hi) (max (s.hi * t.lo) (s.hi * t.hi)))) (gcdM (gcdM (s.lo * t.st) (t.lo * s.st)) (s.st * t.st)), 0⟩ by unfold mulM; rw [if_pos hf, min4_eq, max4_eq])
  obtain ⟨⟨a1, a2⟩, ⟨b1, b2⟩, ⟨c1, c2⟩, d1, d2⟩ := (fits4_iff s t).1 hf
  obtain ⟨⟨m1, m2⟩, ⟨m3, m4⟩, m5, m6⟩ := mul_steps h0 h1 k0 k1 hf
  have f1 := (fitsB_iff s.lo t.lo).2 ⟨a1, a2⟩; have f2 := (fitsB_iff s.lo t.hi).2 ⟨b1, b2⟩; have f3 := (fitsB_iff s.hi t.lo).2 ⟨c1, c2⟩; have f4 := (fitsB_iff s.hi t.hi).2 ⟨d1, d2⟩
  have gb : 0 ≤ gcdM (s.lo * t.st) (t.lo * s.st) ∧ gcdM (s.lo * t.st) (t.lo * s.st) ≤ 4398046511104 := by
    refine ⟨gcdM_nonneg _ _, ?_⟩
    unfold gcdM
    by_cases z : t.lo * s.st = 0
    · rw [z, Int.gcd_zero_right]; omega
    · have := Int.gcd_le_natAbs_right (s.lo * t.st) z
      omega
  obtain ⟨gb1, gb2⟩ := gb
  clear hf
  go_enter Try.func37, Try.ntmps37
  go_wp2_with (first | (go_at_call 50; (with_reducible refine (times_any s.lo t.lo _ (by omega) (by omega) (by omega) (by omega)).mono ?_); rw [f1]; rintro e w' ⟨rfl, rfl⟩) | (go_at_call 50; (with_reducible refine (times_any s.lo t.hi _ (by omega) (by omega) (by omega) (by omega)).mono ?_); rw [f2]; rintro e w' ⟨rfl, rfl⟩) | (go_at_call 50; (with_reducible refine (times_any s.hi t.lo _ (by omega) (by omega) (by omega) (by omega)).mono ?_); rw [f3]; rintro e w' ⟨rfl, rfl⟩) | (go_at_call 50; (with_reducible refine (times_any s.hi t.hi _ (by omega) (by omega) (by omega) (by omega)).mono ?_); rw [f4]; rintro e w' ⟨rfl, rfl⟩))
  refine Mild.region_mild 17 [] (RefC w s t zspe) (by kernel_rfl) 95 (by kernel_rfl) rfl (by simp) RefC.step (refC_start w s t zspe) (by simp) ?H
  apply Exists.intro
  refine ⟨?HW, ?HT⟩
  case HW =>
    intro W hW
    obtain ⟨g0, g1, g2⟩ := hW.fs; obtain ⟨p0, p1, p2⟩ := hW.ft; clear hW
    simp only [List.take_succ_cons, List.take_zero]
    repeat (apply Mild.walkM_q rfl; (go_wp2_with (first | (go_at_call 21; (with_reducible refine (rgcd_any (s.lo * t.st) (t.lo * s.st) _ (by omega) (by omega) (by omega) (by omega)).mono ?_); rintro e w1 ⟨rfl, hb⟩) | (go_at_call 21; (with_reducible refine (rgcd_any (gcdM (s.lo * t.st) (t.lo * s.st)) (s.st * t.st) _ (by omega) (by omega) (by omega) (by omega)).mono ?_); rintro e w1 ⟨rfl, hb⟩))); (first | refine ⟨rfl, rfl, Below.refl _ _, ?_⟩ | refine ⟨rfl, rfl, hb, ?_⟩))
    exact Mild.walkM_end rfl
  case HT =>
    intro F w9 hC u1 u2
    clear u1 u2
    simp only [List.drop_succ_cons, List.drop_zero, Mild.putAll, List.foldl_cons, List.foldl_nil, Mild.ptrTo, Act.put, List.setIfInBounds_toArray, List.set_cons_zero, List.set_cons_succ]
    clear F
    have z1 := Mild.lt_of_block hC.fz
    have c2 := Mild.cell_of_block hC.fz
    have f2 := Mild.free_of_block hC.fz
    have hB := hC.below
    clear hC
    go_wp2_with (go_at_call 41; (with_reducible refine (rmade_any (min (s.lo * t.lo) (min (s.lo * t.hi) (min (s.hi * t.lo) (s.hi * t.hi)))) (max (s.lo * t.lo) (max (s.lo * t.hi) (max (s.hi * t.lo) (s.hi * t.hi)))) (gcdM (gcdM (s.lo * t.st) (t.lo * s.st)) (s.st * t.st)) _).mono ?_); rintro e w1 ⟨rfl, hb⟩; obtain ⟨hc, hf⟩ := bcell hb; have hz := hb.size; have c3 := fun o => hc (w.heap.size + 2) o (by omega); have f3 := fun o => hf (w.heap.size + 2) o (by omega); have hB9 := bup (B := w.heap.size) (w := w) hB hb (by omega); clear hb hc hf hB)
    exact bodyPost_ret (v := spe ⟨madeM (min (s.lo * t.lo) (min (s.lo * t.hi) (min (s.hi * t.lo) (s.hi * t.hi)))) (max (s.lo * t.lo) (max (s.lo * t.hi) (max (s.hi * t.lo) (s.hi * t.hi)))) (gcdM (gcdM (s.lo * t.st) (t.lo * s.st)) (s.st * t.st)), 0⟩) (by simp [results, Try.results37, go_sem, *]) rfl ⟨by rw [hD.out], by (repeat' (first | (with_reducible exact Below.refl _ _) | (with_reducible assumption) | (with_reducible refine Below.alloc ?_ ?_ _) | (with_reducible refine Below.drew ?_) | (with_reducible refine bdn ?_ _) | (with_reducible refine Below.setCell ?_ ?_ _) | go_size))⟩
theorem rmul_any (s t : Sp) (w : World) (hs : Vld s) (ht : Vld t) :
    Calls Try.prog 37 #[spv s, spv t] w fun e w' => e = .returned (spe (mulM s t)) ∧ Below w.heap.size w w' := by
  cases hf : fits4 s t
  · exact rmul_bad s t w hs ht hf
  · exact rmul_good s t w hs ht hf
end Go.Proofs.Ytnihhchgnkfcgaa
