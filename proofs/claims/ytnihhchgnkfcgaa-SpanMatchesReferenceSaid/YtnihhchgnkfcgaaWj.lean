/- The walk of span.Meet where the second span has the greater step; both ways together. -/
import Derived.Test.YtnihhchgnkfcgaaWi
set_option linter.unusedSimpArgs false
set_option linter.unusedVariables false
namespace Go.Proofs.Ytnihhchgnkfcgaa
open Go.ChangeShapes Go.WideShapes Go.ChangeAt Go.RowKit
attribute [local go_sem high] run_min_mm run_max_mm

set_option maxHeartbeats 2000000 in
theorem meet_b (s t : Sp) (w : World) (hs : Vld s) (ht : Vld t) (h3 : s.st ≤ 2147483648) (hsw0 : t.st < s.st) :
    Calls Try.prog 42 #[spv t, spv s] w fun e w' => e = .returned (spm (meetM t s)) ∧ Below w.heap.size w w' := by
  have hsw : t.st ≤ s.st := by omega
  have hM : meetM t s = meetC s t := by unfold meetM; rw [if_pos hsw0]
  have a1 := hs.lo; have a2 := hs.le; have a3 := hs.hi; have a4 := hs.st0
  have b1 := ht.lo; have b2 := ht.le; have b3 := ht.hi; have b4 := ht.st0
  by_cases c1 : mHi s t < mLo s t
  · have hD := Lib.hid (show meetM t s = (zsp, false) by rw [hM]; unfold meetC; rw [if_pos c1])
    have c1' : min s.hi t.hi < max s.lo t.lo := c1
    clear hM c1
    go_enter Try.func42, Try.ntmps42
    go_wp2
    go_quiet (fail)
    go_wp2
    exact bodyPost_ret (v := .tuple #[.agg #[.int .i64 0, .int .i64 0, .int .i64 0], .bool false]) (by simp [results, Try.results42, go_sem, *]) rfl ⟨by rw [hD.out]; rfl, by (repeat' (first | (with_reducible exact Below.refl _ _) | (with_reducible assumption) | (with_reducible refine Below.alloc ?_ ?_ _) | (with_reducible refine Below.drew ?_) | (with_reducible refine bdn ?_ _) | (with_reducible refine Below.setCell ?_ ?_ _) | go_size))⟩
  have c1' : max s.lo t.lo ≤ min s.hi t.hi := by have : ¬ (min s.hi t.hi < max s.lo t.lo) := c1; omega
  by_cases c2 : t.st = 0
  · have hb0 : (t.st == 0) = true := by simp [c2]
    cases hh : hasB s t.lo
    · have hD := Lib.hid (show meetM t s = (zsp, false) by rw [hM]; unfold meetC; rw [if_neg c1, if_pos c2]; simp [hh])
      clear hM c1 c2
      have HP := Lib.hid hs.pos
      go_enter Try.func42, Try.ntmps42
      go_wp2
      go_quiet (fail)
      go_wp2_with (go_at_call 13; refine (has_any s t.lo _ (by omega) HP.out (by omega) (by omega) (by omega)).mono ?_; rintro e w1 ⟨rfl, hb⟩; obtain ⟨hc, hf⟩ := bcell hb; have hz := hb.size; (try simp at hz); have z0 : w.heap.size < w1.heap.size := (by omega); have c0 := fun o => hc (w.heap.size) o (by go_size); have f0 := fun o => hf (w.heap.size) o (by go_size); have z1 : w.heap.size + 1 < w1.heap.size := (by omega); have c1 := fun o => hc (w.heap.size + 1) o (by go_size); have f1 := fun o => hf (w.heap.size + 1) o (by go_size); have z2 : w.heap.size + 2 < w1.heap.size := (by omega); have c2 := fun o => hc (w.heap.size + 2) o (by go_size); have f2 := fun o => hf (w.heap.size + 2) o (by go_size); clear hc hf; have hB := bup (B := w.heap.size) (w := w) (by (repeat' (first | (with_reducible exact Below.refl _ _) | (with_reducible assumption) | (with_reducible refine Below.alloc ?_ ?_ _) | (with_reducible refine Below.drew ?_) | (with_reducible refine bdn ?_ _) | (with_reducible refine Below.setCell ?_ ?_ _) | go_size))) hb (by go_size); clear hb)
      exact bodyPost_ret (v := .tuple #[.agg #[.int .i64 0, .int .i64 0, .int .i64 0], .bool false]) (by simp [results, Try.results42, go_sem, *]) rfl ⟨by rw [hD.out]; rfl, by (repeat' (first | (with_reducible exact Below.refl _ _) | (with_reducible assumption) | (with_reducible refine Below.alloc ?_ ?_ _) | (with_reducible refine Below.drew ?_) | (with_reducible refine bdn ?_ _) | (with_reducible refine Below.setCell ?_ ?_ _) | go_size))⟩
    · have hD := Lib.hid (show meetM t s = (t, true) by rw [hM]; unfold meetC; rw [if_neg c1, if_pos c2]; simp [hh])
      clear hM c1 c2
      have HP := Lib.hid hs.pos
      go_enter Try.func42, Try.ntmps42
      go_wp2
      go_quiet (fail)
      go_wp2_with (go_at_call 13; refine (has_any s t.lo _ (by omega) HP.out (by omega) (by omega) (by omega)).mono ?_; rintro e w1 ⟨rfl, hb⟩; obtain ⟨hc, hf⟩ := bcell hb; have hz := hb.size; (try simp at hz); have z0 : w.heap.size < w1.heap.size := (by omega); have c0 := fun o => hc (w.heap.size) o (by go_size); have f0 := fun o => hf (w.heap.size) o (by go_size); have z1 : w.heap.size + 1 < w1.heap.size := (by omega); have c1 := fun o => hc (w.heap.size + 1) o (by go_size); have f1 := fun o => hf (w.heap.size + 1) o (by go_size); have z2 : w.heap.size + 2 < w1.heap.size := (by omega); have c2 := fun o => hc (w.heap.size + 2) o (by go_size); have f2 := fun o => hf (w.heap.size + 2) o (by go_size); clear hc hf; have hB := bup (B := w.heap.size) (w := w) (by (repeat' (first | (with_reducible exact Below.refl _ _) | (with_reducible assumption) | (with_reducible refine Below.alloc ?_ ?_ _) | (with_reducible refine Below.drew ?_) | (with_reducible refine bdn ?_ _) | (with_reducible refine Below.setCell ?_ ?_ _) | go_size))) hb (by go_size); clear hb)
      exact bodyPost_ret (v := spm (t, true)) (by simp [results, Try.results42, go_sem, *]) rfl ⟨by rw [hD.out], by (repeat' (first | (with_reducible exact Below.refl _ _) | (with_reducible assumption) | (with_reducible refine Below.alloc ?_ ?_ _) | (with_reducible refine Below.drew ?_) | (with_reducible refine bdn ?_ _) | (with_reducible refine Below.setCell ?_ ?_ _) | go_size))⟩
  have hb0 : (t.st == 0) = false := beq_eq_false_iff_ne.2 c2
  have t1 : 1 ≤ t.st := by omega
  obtain ⟨B, hg, -⟩ := mb hs ht t1 hsw h3 (by omega)
  obtain ⟨g, hgn⟩ : ∃ g, g = (egM s t).1 := ⟨_, rfl⟩
  obtain ⟨x, hxn⟩ : ∃ x, x = (egM s t).2.1 := ⟨_, rfl⟩
  obtain ⟨y, hyn⟩ : ∃ y, y = (egM s t).2.2 := ⟨_, rfl⟩
  obtain ⟨m, hmn⟩ : ∃ m, m = mM s t := ⟨_, rfl⟩
  obtain ⟨dg, hdn⟩ : ∃ d, d = (t.lo - s.lo) / (egM s t).1 := ⟨_, rfl⟩
  obtain ⟨k0, hk0n⟩ : ∃ k, k = mK0 s t := ⟨_, rfl⟩
  obtain ⟨f, hfn⟩ : ∃ f, f = mFirst s t := ⟨_, rfl⟩
  obtain ⟨la, hln⟩ : ∃ l, l = mLast s t := ⟨_, rfl⟩
  obtain ⟨k, hkn⟩ : ∃ k, k = mK s t := ⟨_, rfl⟩
  obtain ⟨l, hlln⟩ : ∃ l, l = mL s t := ⟨_, rfl⟩
  have EU := Lib.hid (show ∀ w, Calls Try.prog 58 #[.int .i64 s.st, .int .i64 t.st] w fun e w' => e = .returned (.agg #[.int .i64 g, .int .i64 x, .int .i64 y]) ∧ Below w.heap.size w w' from fun w => by
    rw [hgn, hxn, hyn]; exact euclid_any t.st.toNat s.st t.st w (by omega) (by omega) (by omega) (by omega) (by omega))
  have B1 := B.g1; have B2 := B.g2; have B3 := B.x1; have B4 := B.x2; have B5 := B.m1; have B6 := B.m2; have B7 := B.k1; have B8 := B.k2
  have B9 := B.f1; have B10 := B.f2; have B11 := B.l1; have B12 := B.l2; have B13 := B.k3; have B14 := B.k4; have B15 := B.d1; have B16 := B.d2
  rw [← hgn] at B1 B2
  rw [← hxn] at B3 B4
  rw [← hmn] at B5 B6 B8
  rw [← hk0n] at B7 B8
  rw [← hfn] at B9 B10
  rw [← hln] at B11 B12
  rw [← hkn] at B13 B14
  rw [← hdn] at B15 B16
  by_cases c3 : (t.lo - s.lo) % g ≠ 0
  · have hD := Lib.hid (show meetM t s = (zsp, false) by rw [hM]; unfold meetC; rw [if_neg c1, if_neg c2, if_pos (by rw [← hgn]; exact c3)])
    have c3' : ((t.lo - s.lo).tmod g != 0) = true := by
      rw [bne_iff_ne]; intro h; exact c3 (Int.emod_eq_zero_of_dvd (Int.dvd_of_tmod_eq_zero h))
    clear hM c1 c2 c3 hgn hxn hyn hmn hdn hk0n hfn hln hkn hlln B hg
    go_enter Try.func42, Try.ntmps42
    go_wp2
    go_quiet (fail)
    go_wp2_with (go_at_call 58; refine (EU.out _).mono ?_; rintro e w1 ⟨rfl, hb⟩; obtain ⟨hc, hf⟩ := bcell hb; have hz := hb.size; (try simp at hz); have z0 : w.heap.size < w1.heap.size := (by omega); have c0 := fun o => hc (w.heap.size) o (by go_size); have f0 := fun o => hf (w.heap.size) o (by go_size); have z1 : w.heap.size + 1 < w1.heap.size := (by omega); have c1 := fun o => hc (w.heap.size + 1) o (by go_size); have f1 := fun o => hf (w.heap.size + 1) o (by go_size); have z2 : w.heap.size + 2 < w1.heap.size := (by omega); have c2 := fun o => hc (w.heap.size + 2) o (by go_size); have f2 := fun o => hf (w.heap.size + 2) o (by go_size); clear hc hf; have hB := bup (B := w.heap.size) (w := w) (by (repeat' (first | (with_reducible exact Below.refl _ _) | (with_reducible assumption) | (with_reducible refine Below.alloc ?_ ?_ _) | (with_reducible refine Below.drew ?_) | (with_reducible refine bdn ?_ _) | (with_reducible refine Below.setCell ?_ ?_ _) | go_size))) hb (by go_size); clear hb)
    exact bodyPost_ret (v := .tuple #[.agg #[.int .i64 0, .int .i64 0, .int .i64 0], .bool false]) (by simp [results, Try.results42, go_sem, *]) rfl ⟨by rw [hD.out]; rfl, by (repeat' (first | (with_reducible exact Below.refl _ _) | (with_reducible assumption) | (with_reducible refine Below.alloc ?_ ?_ _) | (with_reducible refine Below.drew ?_) | (with_reducible refine bdn ?_ _) | (with_reducible refine Below.setCell ?_ ?_ _) | go_size))⟩
  have c3' : (t.lo - s.lo).tmod g = 0 := Int.tmod_eq_zero_of_dvd (Int.dvd_of_emod_eq_zero (by simpa using c3))
  have hgdvd : g ∣ t.lo - s.lo := Int.dvd_of_emod_eq_zero (by simpa using c3)
  -- what each statement computes, under its name
  have r1 : t.st.tdiv g = m := by rw [hmn]; unfold mM; rw [← hgn]; exact Int.tdiv_eq_ediv_of_nonneg (by omega)
  have r1' : t.st / g = m := by rw [hmn]; unfold mM; rw [← hgn]
  have gne : ¬ g = 0 := by omega
  have r3 : (t.lo - s.lo).tdiv g = dg := by rw [hdn, ← hgn]; exact Int.tdiv_eq_ediv_of_dvd hgdvd
  have r4 : IntKind.i64.wrap (t.lo - s.lo) = t.lo - s.lo := IntWalk.i64_in _ (by omega)
  have r5 : IntKind.i64.wrap dg = dg := IntWalk.i64_in _ (by omega)
  have MM := Lib.hid (show ∀ w, Calls Try.prog 59 #[.int .i64 dg, .int .i64 x, .int .i64 m] w fun e w' => e = .returned (.int .i64 k0) ∧ Below w.heap.size w w' from fun w => by
    have h := mulmod_any dg x m w (by omega) (by omega) (by omega) (by omega) (by omega) (by omega)
    have e : k0 = dg * x % m := by rw [hk0n, hdn, hxn, hmn]; rfl
    rw [e]; exact h)
  have q1 : IntKind.i64.wrap (s.lo - max s.lo t.lo) = s.lo - max s.lo t.lo := IntWalk.i64_in _ (by omega)
  have q2 : IntKind.i64.wrap (min s.hi t.hi - s.lo) = min s.hi t.hi - s.lo := IntWalk.i64_in _ (by omega)
  have q3 : IntKind.i64.wrap f = f := IntWalk.i64_in _ (by omega)
  have FA := Lib.hid (show ∀ w, Calls Try.prog 60 #[.int .i64 (s.lo - max s.lo t.lo), .int .i64 s.st] w fun e w' => e = .returned (.int .i64 (-f)) ∧ w = w' from fun w => by
    have h := floor_any (s.lo - max s.lo t.lo) s.st w (by omega) (by omega) (by omega) (by omega)
    have e : (s.lo - max s.lo t.lo) / s.st = -f := by rw [hfn]; unfold mFirst mLo; omega
    rw [e] at h; exact h)
  have FL := Lib.hid (show ∀ w, Calls Try.prog 60 #[.int .i64 (min s.hi t.hi - s.lo), .int .i64 s.st] w fun e w' => e = .returned (.int .i64 la) ∧ w = w' from fun w => by
    have h := floor_any (min s.hi t.hi - s.lo) s.st w (by omega) (by omega) (by omega) (by omega)
    have e : (min s.hi t.hi - s.lo) / s.st = la := by rw [hln]; rfl
    rw [e] at h; exact h)
  obtain ⟨c, hcn⟩ : ∃ c, c = (k0 - f) / m := ⟨_, rfl⟩
  have hcb := ediv_bd (a := k0 - f) (b := m) B5
  rw [← hcn] at hcb
  have FC := Lib.hid (show ∀ w, Calls Try.prog 60 #[.int .i64 (k0 - f), .int .i64 m] w fun e w' => e = .returned (.int .i64 c) ∧ w = w' from fun w => by
    have h := floor_any (k0 - f) m w (by omega) (by omega) (by omega) (by omega)
    rw [← hcn] at h; exact h)
  have s0 : k0 + max 0 (-c) * m = k := by rw [hkn, hcn, hk0n, hfn, hmn]; rfl
  have s1 : -4398046511104 ≤ max 0 (-c) * m := by omega
  have s2 : max 0 (-c) * m ≤ 4398046511104 := by omega
  have hcb1 : -4398046511104 ≤ c := by omega
  have hcb2 : c ≤ 4398046511104 := by omega
  clear hcb hcn
  by_cases c4 : la < k
  · have hD := Lib.hid (show meetM t s = (zsp, false) by rw [hM]; unfold meetC; rw [if_neg c1, if_neg c2, if_neg (by rw [← hgn]; exact c3), if_pos (by rw [← hkn, ← hln]; exact c4)])
    clear hM c1 c2 c3 hgn hxn hyn hmn hdn hk0n hfn hln hkn hlln B hg hgdvd
    go_enter Try.func42, Try.ntmps42
    go_wp2
    go_quiet (fail)
    go_wp2_with (go_at_call 58; refine (EU.out _).mono ?_; rintro e w1 ⟨rfl, hb⟩; obtain ⟨hc, hf⟩ := bcell hb; have hz := hb.size; (try simp at hz); have z0 : w.heap.size < w1.heap.size := (by omega); have c0 := fun o => hc (w.heap.size) o (by go_size); have f0 := fun o => hf (w.heap.size) o (by go_size); have z1 : w.heap.size + 1 < w1.heap.size := (by omega); have c1 := fun o => hc (w.heap.size + 1) o (by go_size); have f1 := fun o => hf (w.heap.size + 1) o (by go_size); have z2 : w.heap.size + 2 < w1.heap.size := (by omega); have c2 := fun o => hc (w.heap.size + 2) o (by go_size); have f2 := fun o => hf (w.heap.size + 2) o (by go_size); clear hc hf; have hB := bup (B := w.heap.size) (w := w) (by (repeat' (first | (with_reducible exact Below.refl _ _) | (with_reducible assumption) | (with_reducible refine Below.alloc ?_ ?_ _) | (with_reducible refine Below.drew ?_) | (with_reducible refine bdn ?_ _) | (with_reducible refine Below.setCell ?_ ?_ _) | go_size))) hb (by go_size); clear hb)
    go_region_held3 (fun w' => w'.cell? ⟨w.heap.size, 0, none⟩ = some (.int .i64 s.lo) ∧ w'.cell? ⟨w.heap.size + 1, 0, none⟩ = some (.int .i64 t.lo) ∧ w'.cell? ⟨w1.heap.size, 1, none⟩ = some (.int .i64 x)) ((first | (go_keep; done) | ((repeat apply And.intro) <;> (try simp (disch := omega) only [scf]) <;> simp [*, go_sem])))
      (first | (go_at_call 59; (with_reducible refine (MM.out _).mono ?_); rintro e w1 ⟨rfl, hb⟩; obtain ⟨hc, hf⟩ := bcell hb; have hz := hb.size; (try simp at hz); have z0 : w.heap.size < w1.heap.size := (by omega); have c0 := fun o => hc (w.heap.size) o (by go_size); have f0 := fun o => hf (w.heap.size) o (by go_size); have z1 : w.heap.size + 1 < w1.heap.size := (by omega); have c1 := fun o => hc (w.heap.size + 1) o (by go_size); have f1 := fun o => hf (w.heap.size + 1) o (by go_size); have z2 : w.heap.size + 2 < w1.heap.size := (by omega); have c2 := fun o => hc (w.heap.size + 2) o (by go_size); have f2 := fun o => hf (w.heap.size + 2) o (by go_size); have hB := bup (B := w.heap.size) (w := w) (by (repeat' (first | (with_reducible exact Below.refl _ _) | (with_reducible assumption) | (with_reducible refine Below.alloc ?_ ?_ _) | (with_reducible refine Below.drew ?_) | (with_reducible refine bdn ?_ _) | (with_reducible refine Below.setCell ?_ ?_ _) | go_size))) hb (by go_size); clear hb; have zz : w1.heap.size < w1.heap.size + 1 := (by omega)))
    go_wp2_with fail
    go_region_held3 (fun w' => w'.cell? ⟨w.heap.size, 0, none⟩ = some (.int .i64 s.lo) ∧ w'.cell? ⟨w.heap.size, 2, none⟩ = some (.int .i64 s.st)) ((first | (go_keep; done) | ((repeat apply And.intro) <;> (try simp (disch := omega) only [scf]) <;> simp [*, go_sem])))
      (first | (go_at_call 60; (with_reducible refine (FA.out _).mono ?_); rintro e w' ⟨rfl, rfl⟩) | (go_at_call 60; (with_reducible refine (FL.out _).mono ?_); rintro e w' ⟨rfl, rfl⟩))
    go_wp2_with (go_at_call 60; (with_reducible refine (FC.out _).mono ?_); rintro e w' ⟨rfl, rfl⟩)
    exact bodyPost_ret (v := .tuple #[.agg #[.int .i64 0, .int .i64 0, .int .i64 0], .bool false]) (by simp [results, Try.results42, go_sem, *]) rfl ⟨by rw [hD.out]; rfl, by (repeat' (first | (with_reducible exact Below.refl _ _) | (with_reducible assumption) | (with_reducible refine Below.alloc ?_ ?_ _) | (with_reducible refine Below.drew ?_) | (with_reducible refine bdn ?_ _) | (with_reducible refine Below.setCell ?_ ?_ _) | go_size))⟩
  have c4' : k ≤ la := by omega
  have hDc : meetM t s = (⟨s.lo + s.st * k, s.lo + s.st * l, if k < l then s.st * m else 0⟩, true) := by
    rw [hM]; unfold meetC
    rw [if_neg c1, if_neg c2, if_neg (by rw [← hgn]; exact c3), if_neg (by rw [← hkn, ← hln]; exact c4), ← hkn, ← hlln, ← hmn]
  have hV := ((meetC_spec hs ht hsw h3).1 (by rw [← hM, hDc])).1
  rw [← hM, hDc] at hV
  have v1 : -1099511627776 ≤ s.lo + s.st * k := hV.lo
  have v2 : s.lo + s.st * k ≤ s.lo + s.st * l := hV.le
  have v3 : s.lo + s.st * l ≤ 1099511627776 := hV.hi
  have u1 := Int.emod_nonneg (la - k) (b := m) (by omega)
  have u2 := Int.emod_lt_of_pos (la - k) (b := m) (by omega)
  have u0 : la - (la - k) % m = l := by rw [hlln, hln, hkn, hmn]; rfl
  have w1 : 0 ≤ s.st * m := Int.mul_nonneg (by omega) (by omega)
  have w2 : s.st * m ≤ 2147483648 * 2147483648 := Int.mul_le_mul h3 B6 (by omega) (by omega)
  have MD := Lib.hid (show ∀ w, Calls Try.prog 46 #[.int .i64 (s.lo + s.st * k), .int .i64 (s.lo + s.st * l), .int .i64 0] w fun e w' => e = .returned (.agg #[.int .i64 (s.lo + s.st * k), .int .i64 (s.lo + s.st * l), .int .i64 0]) ∧ Below w.heap.size w w' from fun w => by
    have h := made_any (s.lo + s.st * k) (s.lo + s.st * l) 0 w
    have e : madeM (s.lo + s.st * k) (s.lo + s.st * l) 0 = ⟨s.lo + s.st * k, s.lo + s.st * l, 0⟩ := by unfold madeM; split <;> rfl
    rw [e] at h; exact h)
  by_cases c5 : k < l
  · have hD := Lib.hid (show meetM t s = (⟨s.lo + s.st * k, s.lo + s.st * l, s.st * m⟩, true) by rw [hDc, if_pos c5])
    clear hDc hV c4
    clear hM c1 c2 c3 hgn hxn hyn hmn hdn hk0n hfn hln hkn hlln B hg hgdvd
    go_enter Try.func42, Try.ntmps42
    go_wp2
    go_quiet (fail)
    go_wp2_with (go_at_call 58; refine (EU.out _).mono ?_; rintro e w1 ⟨rfl, hb⟩; obtain ⟨hc, hf⟩ := bcell hb; have hz := hb.size; (try simp at hz); have z0 : w.heap.size < w1.heap.size := (by omega); have c0 := fun o => hc (w.heap.size) o (by go_size); have f0 := fun o => hf (w.heap.size) o (by go_size); have z1 : w.heap.size + 1 < w1.heap.size := (by omega); have c1 := fun o => hc (w.heap.size + 1) o (by go_size); have f1 := fun o => hf (w.heap.size + 1) o (by go_size); have z2 : w.heap.size + 2 < w1.heap.size := (by omega); have c2 := fun o => hc (w.heap.size + 2) o (by go_size); have f2 := fun o => hf (w.heap.size + 2) o (by go_size); clear hc hf; have hB := bup (B := w.heap.size) (w := w) (by (repeat' (first | (with_reducible exact Below.refl _ _) | (with_reducible assumption) | (with_reducible refine Below.alloc ?_ ?_ _) | (with_reducible refine Below.drew ?_) | (with_reducible refine bdn ?_ _) | (with_reducible refine Below.setCell ?_ ?_ _) | go_size))) hb (by go_size); clear hb)
    go_region_held3 (fun w' => w'.cell? ⟨w.heap.size, 0, none⟩ = some (.int .i64 s.lo) ∧ w'.cell? ⟨w.heap.size + 1, 0, none⟩ = some (.int .i64 t.lo) ∧ w'.cell? ⟨w1.heap.size, 1, none⟩ = some (.int .i64 x)) ((first | (go_keep; done) | ((repeat apply And.intro) <;> (try simp (disch := omega) only [scf]) <;> simp [*, go_sem])))
      (first | (go_at_call 59; (with_reducible refine (MM.out _).mono ?_); rintro e w1 ⟨rfl, hb⟩; obtain ⟨hc, hf⟩ := bcell hb; have hz := hb.size; (try simp at hz); have z0 : w.heap.size < w1.heap.size := (by omega); have c0 := fun o => hc (w.heap.size) o (by go_size); have f0 := fun o => hf (w.heap.size) o (by go_size); have z1 : w.heap.size + 1 < w1.heap.size := (by omega); have c1 := fun o => hc (w.heap.size + 1) o (by go_size); have f1 := fun o => hf (w.heap.size + 1) o (by go_size); have z2 : w.heap.size + 2 < w1.heap.size := (by omega); have c2 := fun o => hc (w.heap.size + 2) o (by go_size); have f2 := fun o => hf (w.heap.size + 2) o (by go_size); have hB := bup (B := w.heap.size) (w := w) (by (repeat' (first | (with_reducible exact Below.refl _ _) | (with_reducible assumption) | (with_reducible refine Below.alloc ?_ ?_ _) | (with_reducible refine Below.drew ?_) | (with_reducible refine bdn ?_ _) | (with_reducible refine Below.setCell ?_ ?_ _) | go_size))) hb (by go_size); clear hb; have zz : w1.heap.size < w1.heap.size + 1 := (by omega)))
    go_wp2_with fail
    go_region_held3 (fun w' => w'.cell? ⟨w.heap.size, 0, none⟩ = some (.int .i64 s.lo) ∧ w'.cell? ⟨w.heap.size, 2, none⟩ = some (.int .i64 s.st)) ((first | (go_keep; done) | ((repeat apply And.intro) <;> (try simp (disch := omega) only [scf]) <;> simp [*, go_sem])))
      (first | (go_at_call 60; (with_reducible refine (FA.out _).mono ?_); rintro e w' ⟨rfl, rfl⟩) | (go_at_call 60; (with_reducible refine (FL.out _).mono ?_); rintro e w' ⟨rfl, rfl⟩))
    go_wp2_with (first | (go_at_call 60; (with_reducible refine (FC.out _).mono ?_); rintro e w' ⟨rfl, rfl⟩) | (go_at_call 46; (with_reducible refine (MD.out _).mono ?_); rintro e w1 ⟨rfl, hb⟩; obtain ⟨hc, hf⟩ := bcell hb; have hz := hb.size; (try simp at hz); have z0 : w.heap.size < w1.heap.size := (by omega); have c0 := fun o => hc (w.heap.size) o (by go_size); have f0 := fun o => hf (w.heap.size) o (by go_size); have z1 : w.heap.size + 1 < w1.heap.size := (by omega); have c1 := fun o => hc (w.heap.size + 1) o (by go_size); have f1 := fun o => hf (w.heap.size + 1) o (by go_size); have z2 : w.heap.size + 2 < w1.heap.size := (by omega); have c2 := fun o => hc (w.heap.size + 2) o (by go_size); have f2 := fun o => hf (w.heap.size + 2) o (by go_size); clear hc hf; have hB := bup (B := w.heap.size) (w := w) (by (repeat' (first | (with_reducible exact Below.refl _ _) | (with_reducible assumption) | (with_reducible refine Below.alloc ?_ ?_ _) | (with_reducible refine Below.drew ?_) | (with_reducible refine bdn ?_ _) | (with_reducible refine Below.setCell ?_ ?_ _) | go_size))) hb (by go_size); clear hb))
    exact bodyPost_ret (v := spm (⟨s.lo + s.st * k, s.lo + s.st * l, s.st * m⟩, true)) (by simp [results, Try.results42, go_sem, *]) rfl ⟨by rw [hD.out], by (repeat' (first | (with_reducible exact Below.refl _ _) | (with_reducible assumption) | (with_reducible refine Below.alloc ?_ ?_ _) | (with_reducible refine Below.drew ?_) | (with_reducible refine bdn ?_ _) | (with_reducible refine Below.setCell ?_ ?_ _) | go_size))⟩
  · have hD := Lib.hid (show meetM t s = (⟨s.lo + s.st * k, s.lo + s.st * l, 0⟩, true) by rw [hDc, if_neg c5])
    clear hDc hV c4
    clear hM c1 c2 c3 hgn hxn hyn hmn hdn hk0n hfn hln hkn hlln B hg hgdvd
    go_enter Try.func42, Try.ntmps42
    go_wp2
    go_quiet (fail)
    go_wp2_with (go_at_call 58; refine (EU.out _).mono ?_; rintro e w1 ⟨rfl, hb⟩; obtain ⟨hc, hf⟩ := bcell hb; have hz := hb.size; (try simp at hz); have z0 : w.heap.size < w1.heap.size := (by omega); have c0 := fun o => hc (w.heap.size) o (by go_size); have f0 := fun o => hf (w.heap.size) o (by go_size); have z1 : w.heap.size + 1 < w1.heap.size := (by omega); have c1 := fun o => hc (w.heap.size + 1) o (by go_size); have f1 := fun o => hf (w.heap.size + 1) o (by go_size); have z2 : w.heap.size + 2 < w1.heap.size := (by omega); have c2 := fun o => hc (w.heap.size + 2) o (by go_size); have f2 := fun o => hf (w.heap.size + 2) o (by go_size); clear hc hf; have hB := bup (B := w.heap.size) (w := w) (by (repeat' (first | (with_reducible exact Below.refl _ _) | (with_reducible assumption) | (with_reducible refine Below.alloc ?_ ?_ _) | (with_reducible refine Below.drew ?_) | (with_reducible refine bdn ?_ _) | (with_reducible refine Below.setCell ?_ ?_ _) | go_size))) hb (by go_size); clear hb)
    go_region_held3 (fun w' => w'.cell? ⟨w.heap.size, 0, none⟩ = some (.int .i64 s.lo) ∧ w'.cell? ⟨w.heap.size + 1, 0, none⟩ = some (.int .i64 t.lo) ∧ w'.cell? ⟨w1.heap.size, 1, none⟩ = some (.int .i64 x)) ((first | (go_keep; done) | ((repeat apply And.intro) <;> (try simp (disch := omega) only [scf]) <;> simp [*, go_sem])))
      (first | (go_at_call 59; (with_reducible refine (MM.out _).mono ?_); rintro e w1 ⟨rfl, hb⟩; obtain ⟨hc, hf⟩ := bcell hb; have hz := hb.size; (try simp at hz); have z0 : w.heap.size < w1.heap.size := (by omega); have c0 := fun o => hc (w.heap.size) o (by go_size); have f0 := fun o => hf (w.heap.size) o (by go_size); have z1 : w.heap.size + 1 < w1.heap.size := (by omega); have c1 := fun o => hc (w.heap.size + 1) o (by go_size); have f1 := fun o => hf (w.heap.size + 1) o (by go_size); have z2 : w.heap.size + 2 < w1.heap.size := (by omega); have c2 := fun o => hc (w.heap.size + 2) o (by go_size); have f2 := fun o => hf (w.heap.size + 2) o (by go_size); have hB := bup (B := w.heap.size) (w := w) (by (repeat' (first | (with_reducible exact Below.refl _ _) | (with_reducible assumption) | (with_reducible refine Below.alloc ?_ ?_ _) | (with_reducible refine Below.drew ?_) | (with_reducible refine bdn ?_ _) | (with_reducible refine Below.setCell ?_ ?_ _) | go_size))) hb (by go_size); clear hb; have zz : w1.heap.size < w1.heap.size + 1 := (by omega)))
    go_wp2_with fail
    go_region_held3 (fun w' => w'.cell? ⟨w.heap.size, 0, none⟩ = some (.int .i64 s.lo) ∧ w'.cell? ⟨w.heap.size, 2, none⟩ = some (.int .i64 s.st)) ((first | (go_keep; done) | ((repeat apply And.intro) <;> (try simp (disch := omega) only [scf]) <;> simp [*, go_sem])))
      (first | (go_at_call 60; (with_reducible refine (FA.out _).mono ?_); rintro e w' ⟨rfl, rfl⟩) | (go_at_call 60; (with_reducible refine (FL.out _).mono ?_); rintro e w' ⟨rfl, rfl⟩))
    go_wp2_with (first | (go_at_call 60; (with_reducible refine (FC.out _).mono ?_); rintro e w' ⟨rfl, rfl⟩) | (go_at_call 46; (with_reducible refine (MD.out _).mono ?_); rintro e w1 ⟨rfl, hb⟩; obtain ⟨hc, hf⟩ := bcell hb; have hz := hb.size; (try simp at hz); have z0 : w.heap.size < w1.heap.size := (by omega); have c0 := fun o => hc (w.heap.size) o (by go_size); have f0 := fun o => hf (w.heap.size) o (by go_size); have z1 : w.heap.size + 1 < w1.heap.size := (by omega); have c1 := fun o => hc (w.heap.size + 1) o (by go_size); have f1 := fun o => hf (w.heap.size + 1) o (by go_size); have z2 : w.heap.size + 2 < w1.heap.size := (by omega); have c2 := fun o => hc (w.heap.size + 2) o (by go_size); have f2 := fun o => hf (w.heap.size + 2) o (by go_size); clear hc hf; have hB := bup (B := w.heap.size) (w := w) (by (repeat' (first | (with_reducible exact Below.refl _ _) | (with_reducible assumption) | (with_reducible refine Below.alloc ?_ ?_ _) | (with_reducible refine Below.drew ?_) | (with_reducible refine bdn ?_ _) | (with_reducible refine Below.setCell ?_ ?_ _) | go_size))) hb (by go_size); clear hb))
    exact bodyPost_ret (v := spm (⟨s.lo + s.st * k, s.lo + s.st * l, 0⟩, true)) (by simp [results, Try.results42, go_sem, *]) rfl ⟨by rw [hD.out], by (repeat' (first | (with_reducible exact Below.refl _ _) | (with_reducible assumption) | (with_reducible refine Below.alloc ?_ ?_ _) | (with_reducible refine Below.drew ?_) | (with_reducible refine bdn ?_ _) | (with_reducible refine Below.setCell ?_ ?_ _) | go_size))⟩

theorem meet_any (s t : Sp) (w : World) (hs : Vld s) (ht : Vld t) (h3 : s.st ≤ 2147483648) (h4 : t.st ≤ 2147483648) :
    Calls Try.prog 42 #[spv s, spv t] w fun e w' => e = .returned (spm (meetM s t)) ∧ Below w.heap.size w w' := by
  by_cases h : s.st < t.st
  · exact meet_b t s w ht hs h4 h
  · exact meet_a s t w hs ht h3 (by omega)
end Go.Proofs.Ytnihhchgnkfcgaa
