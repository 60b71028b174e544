/- The walks of scaling, joining, remainders, of Euclid's algorithm and of a product modulo a number. -/
import Derived.Test.YtnihhchgnkfcgaaWf
import Derived.Test.YtnihhchgnkfcgaaPc
set_option linter.unusedSimpArgs false
set_option linter.unusedVariables false
namespace Go.Proofs.Ytnihhchgnkfcgaa
open Go.ChangeShapes Go.WideShapes Go.ChangeAt Go.RowKit
attribute [local go_sem high] run_min_mm run_max_mm

set_option maxHeartbeats 1000000 in
theorem scale_any (s : Sp) (k : Int) (w : World) (hs : Bd s) (hs2 : s.st ≤ s.hi - s.lo) (k1 : -9223372036854775808 ≤ k) (k2 : k ≤ 9223372036854775807) :
    Calls Try.prog 49 #[spv s, .int .i64 k] w fun e w' => e = .returned (spt (scaleM s k)) ∧ Below w.heap.size w w' := by
  obtain ⟨h0, h1, h2, h3, h4⟩ := hs
  cases hf : fits4 s ⟨k, k, 0⟩
  · have hD := Lib.hid (show scaleM s k = ⟨zsp, 2⟩ by rw [fits4_k] at hf; simp [scaleM, hf])
    go_enter Try.func49, Try.ntmps49
    go_wp2_with (go_at_call 62; refine (products_any s ⟨k, k, 0⟩ _ (by omega) (by omega) (by omega) (by omega) k1 k2 k1 k2).mono ?_; rintro e w1 ⟨rfl, hb⟩; obtain ⟨hc, hf⟩ := bcell hb; have hz := hb.size; (try simp at hz); have z0 : w.heap.size < w1.heap.size := (by omega); have c0 := fun o => hc (w.heap.size) o (by go_size); have f0 := fun o => hf (w.heap.size) o (by go_size); have z1 : w.heap.size + 1 < w1.heap.size := (by omega); have c1 := fun o => hc (w.heap.size + 1) o (by go_size); have f1 := fun o => hf (w.heap.size + 1) o (by go_size); clear hc hf; have hB := bup (B := w.heap.size) (w := w) (by go_grown) hb (by go_size); clear hb)
    exact bodyPost_ret (v := .tuple #[.agg #[.int .i64 0, .int .i64 0, .int .i64 0], .int .i64 2]) (by simp [results, Try.results49, go_sem, *]) rfl ⟨by rw [hD.out]; rfl, by go_grown⟩
  · obtain ⟨m1, m2⟩ := scale_step h0 hs2 hf
    obtain ⟨p1, p2⟩ := p_fit hf
    have hD := Lib.hid (show scaleM s k = ⟨madeM (pLo s ⟨k, k, 0⟩) (pHi s ⟨k, k, 0⟩) (s.st * k).natAbs, 0⟩ by
      rw [p1, p2]
      rw [fits4_k] at hf
      simp only [scaleM, hf, if_true, min4, max4]
      congr 2 <;> omega)
    clear p1 p2
    go_enter Try.func49, Try.ntmps49
    go_wp2_with (first | (go_at_call 62; refine (products_any s ⟨k, k, 0⟩ _ (by omega) (by omega) (by omega) (by omega) k1 k2 k1 k2).mono ?_; rintro e w1 ⟨rfl, hb⟩; obtain ⟨hc, hf⟩ := bcell hb; have hz := hb.size; (try simp at hz); have z0 : w.heap.size < w1.heap.size := (by omega); have c0 := fun o => hc (w.heap.size) o (by go_size); have f0 := fun o => hf (w.heap.size) o (by go_size); have z1 : w.heap.size + 1 < w1.heap.size := (by omega); have c1 := fun o => hc (w.heap.size + 1) o (by go_size); have f1 := fun o => hf (w.heap.size + 1) o (by go_size); clear hc hf; have hB := bup (B := w.heap.size) (w := w) (by go_grown) hb (by go_size); clear hb) | (go_at_call 47; refine (gcd1_any (s.st * k) _ _ (by simp [go_sem]) (by omega)).mono ?_; rintro e w1 ⟨rfl, hb⟩; obtain ⟨hc, hf⟩ := bcell hb; have hz := hb.size; (try simp at hz); have z0 : w.heap.size < w1.heap.size := (by omega); have c0 := fun o => hc (w.heap.size) o (by go_size); have f0 := fun o => hf (w.heap.size) o (by go_size); have z1 : w.heap.size + 1 < w1.heap.size := (by omega); have c1 := fun o => hc (w.heap.size + 1) o (by go_size); have f1 := fun o => hf (w.heap.size + 1) o (by go_size); clear hc hf; have hB := bup (B := w.heap.size) (w := w) (by go_grown) hb (by go_size); clear hb) | (go_at_call 46; refine (made_any _ _ _ _).mono ?_; rintro e w1 ⟨rfl, hb⟩; obtain ⟨hc, hf⟩ := bcell hb; have hz := hb.size; (try simp at hz); have z0 : w.heap.size < w1.heap.size := (by omega); have c0 := fun o => hc (w.heap.size) o (by go_size); have f0 := fun o => hf (w.heap.size) o (by go_size); have z1 : w.heap.size + 1 < w1.heap.size := (by omega); have c1 := fun o => hc (w.heap.size + 1) o (by go_size); have f1 := fun o => hf (w.heap.size + 1) o (by go_size); clear hc hf; have hB := bup (B := w.heap.size) (w := w) (by go_grown) hb (by go_size); clear hb))
    exact bodyPost_ret (v := spt ⟨madeM (pLo s ⟨k, k, 0⟩) (pHi s ⟨k, k, 0⟩) (s.st * k).natAbs, 0⟩) (by simp [results, Try.results49, go_sem, *]) rfl ⟨by rw [hD.out], by go_grown⟩

set_option maxHeartbeats 1000000 in
theorem join_any (s t : Sp) (w : World) (hs : Bd s) (ht : Bd t) :
    Calls Try.prog 23 #[spv s, spv t] w fun e w' => e = .returned (spv (joinM s t)) ∧ Below w.heap.size w w' := by
  obtain ⟨h0, h1, h2, h3, h4⟩ := hs
  obtain ⟨k0, k1, k2, k3, k4⟩ := ht
  have hD := Lib.hid (show joinM s t = madeM (min s.lo t.lo) (max s.hi t.hi) (gcdM (gcdM s.st t.st) (s.lo - t.lo)) from rfl)
  have e1 : IntKind.i64.wrap (s.lo - t.lo) = s.lo - t.lo := IntWalk.i64_in _ (by omega)
  go_enter Try.func23, Try.ntmps23
  go_wp2_with fail
  go_region_held3 (fun w' => w'.cell? ⟨w.heap.size, 0, none⟩ = some (.int .i64 s.lo) ∧ w'.cell? ⟨w.heap.size, 1, none⟩ = some (.int .i64 s.hi) ∧ w'.cell? ⟨w.heap.size, 2, none⟩ = some (.int .i64 s.st) ∧ w'.cell? ⟨w.heap.size + 1, 0, none⟩ = some (.int .i64 t.lo) ∧ w'.cell? ⟨w.heap.size + 1, 1, none⟩ = some (.int .i64 t.hi) ∧ w'.cell? ⟨w.heap.size + 1, 2, none⟩ = some (.int .i64 t.st)) ((first | (go_keep; done) | ((repeat apply And.intro) <;> (try simp (disch := omega) only [scf]) <;> simp [*, go_sem]))) (first | (go_at_call 47; refine (gcd3_any s.st t.st (s.lo - t.lo) _ _ (by simp [go_sem]) (by simp [go_sem]) (by simp [go_sem]) (by omega) (by omega) (by omega)).mono ?_; rintro e w1 ⟨rfl, hb⟩; obtain ⟨hc, hf⟩ := bcell hb; have hz := hb.size; (try simp at hz); have z0 : w.heap.size < w1.heap.size := (by omega); have c0 := fun o => hc (w.heap.size) o (by go_size); have f0 := fun o => hf (w.heap.size) o (by go_size); have z1 : w.heap.size + 1 < w1.heap.size := (by omega); have c1 := fun o => hc (w.heap.size + 1) o (by go_size); have f1 := fun o => hf (w.heap.size + 1) o (by go_size); have z2 : w.heap.size + 2 < w1.heap.size := (by omega); have c2 := fun o => hc (w.heap.size + 2) o (by go_size); have f2 := fun o => hf (w.heap.size + 2) o (by go_size); clear hc hf; have hB := bup (B := w.heap.size) (w := w) (by go_grown) hb (by go_size); clear hb) | (go_at_call 46; refine (made_any _ _ _ _).mono ?_; rintro e w1 ⟨rfl, hb⟩; obtain ⟨hc, hf⟩ := bcell hb; have hz := hb.size; (try simp at hz); have z0 : w.heap.size < w1.heap.size := (by omega); have c0 := fun o => hc (w.heap.size) o (by go_size); have f0 := fun o => hf (w.heap.size) o (by go_size); have z1 : w.heap.size + 1 < w1.heap.size := (by omega); have c1 := fun o => hc (w.heap.size + 1) o (by go_size); have f1 := fun o => hf (w.heap.size + 1) o (by go_size); have z2 : w.heap.size + 2 < w1.heap.size := (by omega); have c2 := fun o => hc (w.heap.size + 2) o (by go_size); have f2 := fun o => hf (w.heap.size + 2) o (by go_size); clear hc hf; have hB := bup (B := w.heap.size) (w := w) (by go_grown) hb (by go_size); clear hb))
  all_goals
    go_wp2
    exact bodyPost_ret (v := spv (madeM (min s.lo t.lo) (max s.hi t.hi) (gcdM (gcdM s.st t.st) (s.lo - t.lo)))) (by simp [results, Try.results23, go_sem, *]) rfl ⟨by rw [hD.out], by go_grown⟩

theorem mod_any (s : Sp) (m : Int) (w : World) (hs : Bd s) :
    Calls Try.prog 45 #[spv s, .int .i64 m] w fun e w' => e = .returned (spt (modM s m)) ∧ Below w.heap.size w w' := by
  obtain ⟨h0, h1, h2, h3, h4⟩ := hs
  by_cases m1 : 1 ≤ m
  · by_cases m2 : m ≤ 1099511627776
    · have hD := Lib.hid (show modM s m = ⟨madeM (s.lo % gcdM s.st m) (m - 1 - (m - 1 - s.lo % gcdM s.st m) % gcdM s.st m) (gcdM s.st m), 0⟩ by simp [modM, m1, m2])
      have g1 := gcdM_pos (a := s.st) (b := m) (by omega)
      have g2 := gcdM_le (a := s.st) m1
      obtain ⟨g, hg⟩ : ∃ g, g = gcdM s.st m := ⟨_, rfl⟩
      have HG := Lib.hid hg
      rw [← hg] at g1 g2 hD
      clear hg
      have r1 := Int.emod_nonneg s.lo (b := g) (by omega)
      have r2 := Int.emod_lt_of_pos s.lo (b := g) (by omega)
      have r3 := Int.emod_nonneg (m - 1 - s.lo % g) (b := g) (by omega)
      have r4 := Int.emod_lt_of_pos (m - 1 - s.lo % g) (b := g) (by omega)
      have r5 := Int.emod_nonneg (m - 1 - s.lo) (b := g) (by omega)
      have r6 := Int.emod_lt_of_pos (m - 1 - s.lo) (b := g) (by omega)
      go_enter Try.func45, Try.ntmps45
      go_wp2_with (first | (go_at_call 47; refine (gcd2_any s.st m _ _ (by simp [go_sem]) (by simp [go_sem]) (by omega) (by omega)).mono ?_; rw [← HG.out]; rintro e w1 ⟨rfl, hb⟩; obtain ⟨hc, hf⟩ := bcell hb; have hz := hb.size; (try simp at hz); have z0 : w.heap.size < w1.heap.size := (by omega); have c0 := fun o => hc (w.heap.size) o (by go_size); have f0 := fun o => hf (w.heap.size) o (by go_size); have z1 : w.heap.size + 1 < w1.heap.size := (by omega); have c1 := fun o => hc (w.heap.size + 1) o (by go_size); have f1 := fun o => hf (w.heap.size + 1) o (by go_size); clear hc hf; have hB := bup (B := w.heap.size) (w := w) (by go_grown) hb (by go_size); clear hb) | (go_at_call 61; refine (rest_any _ _ _ (by omega) (by omega) (by omega) (by omega)).mono ?_; rintro e w' ⟨rfl, rfl⟩) | (go_at_call 46; refine (made_any _ _ _ _).mono ?_; rintro e w1 ⟨rfl, hb⟩; obtain ⟨hc, hf⟩ := bcell hb; have hz := hb.size; (try simp at hz); have z0 : w.heap.size < w1.heap.size := (by omega); have c0 := fun o => hc (w.heap.size) o (by go_size); have f0 := fun o => hf (w.heap.size) o (by go_size); have z1 : w.heap.size + 1 < w1.heap.size := (by omega); have c1 := fun o => hc (w.heap.size + 1) o (by go_size); have f1 := fun o => hf (w.heap.size + 1) o (by go_size); clear hc hf; have hB := bup (B := w.heap.size) (w := w) (by go_grown) hb (by go_size); clear hb))
      exact bodyPost_ret (v := spt ⟨madeM (s.lo % g) (m - 1 - (m - 1 - s.lo % g) % g) g, 0⟩) (by simp [results, Try.results45, go_sem, *]) rfl ⟨by rw [hD.out], by go_grown⟩
    · have hD := Lib.hid (show modM s m = ⟨zsp, 1⟩ by simp [modM, m2])
      go_enter Try.func45, Try.ntmps45
      go_wp2
      exact bodyPost_ret (v := .tuple #[.agg #[.int .i64 0, .int .i64 0, .int .i64 0], .int .i64 1]) (by simp [results, Try.results45, go_sem]) rfl ⟨by rw [hD.out]; rfl, by go_grown⟩
  · have hD := Lib.hid (show modM s m = ⟨zsp, 1⟩ by simp [modM, m1])
    go_enter Try.func45, Try.ntmps45
    go_wp2
    exact bodyPost_ret (v := .tuple #[.agg #[.int .i64 0, .int .i64 0, .int .i64 0], .int .i64 1]) (by simp [results, Try.results45, go_sem]) rfl ⟨by rw [hD.out]; rfl, by go_grown⟩
end Go.Proofs.Ytnihhchgnkfcgaa
