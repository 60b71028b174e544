/- The walks of sums, differences, products, joins and remainders of layer 25. -/
import Derived.Test.YtnihhchgnkfcgaaWe
set_option linter.unusedSimpArgs false
set_option linter.unusedVariables false
namespace Go.Proofs.Ytnihhchgnkfcgaa
open Go.ChangeShapes Go.WideShapes Go.ChangeAt Go.RowKit

theorem scf {w : World} {b o b' o' : Nat} {v : Value} (h : b ≠ b') : (w.setCell ⟨b', o', none⟩ v).cell? ⟨b, o, none⟩ = w.cell? ⟨b, o, none⟩ :=
  World.cell?_of_block (w := w) (Below.heap_setCell w ⟨b', o', none⟩ v b h)

/-- The bounds that the walks want of two spans. -/
structure Bd (s : Sp) : Prop where
  st0 : 0 ≤ s.st
  st1 : s.st ≤ 2305843009213693952
  lo0 : -1152921504606846976 ≤ s.lo
  le : s.lo ≤ s.hi
  hi1 : s.hi ≤ 1152921504606846976
theorem Vld.bd {s : Sp} (h : Vld s) : Bd s := ⟨h.st0, by have := h.stle; have := h.lo; have := h.hi; omega, by have := h.lo; omega, h.le, by have := h.hi; omega⟩

set_option maxHeartbeats 1000000 in
theorem add_any (s t : Sp) (w : World) (hs : Bd s) (ht : Bd t) :
    Calls Try.prog 52 #[spv s, spv t] w fun e w' => e = .returned (spt (addM s t)) ∧ Below w.heap.size w w' := by
  obtain ⟨h0, h1, h2, h3, h4⟩ := hs
  obtain ⟨k0, k1, k2, k3, k4⟩ := ht
  have hD := Lib.hid (show addM s t = boundedM (s.lo + t.lo) (s.hi + t.hi) (gcdM s.st t.st) from rfl)
  have e1 : IntKind.i64.wrap (s.lo + t.lo) = s.lo + t.lo := IntWalk.i64_in _ (by omega)
  have e2 : IntKind.i64.wrap (s.hi + t.hi) = s.hi + t.hi := IntWalk.i64_in _ (by omega)
  go_enter Try.func52, Try.ntmps52
  go_wp2_with fail
  go_region_held3 (fun w' => w'.cell? ⟨w.heap.size, 0, none⟩ = some (.int .i64 s.lo) ∧ w'.cell? ⟨w.heap.size, 1, none⟩ = some (.int .i64 s.hi) ∧ w'.cell? ⟨w.heap.size, 2, none⟩ = some (.int .i64 s.st) ∧ w'.cell? ⟨w.heap.size + 1, 0, none⟩ = some (.int .i64 t.lo) ∧ w'.cell? ⟨w.heap.size + 1, 1, none⟩ = some (.int .i64 t.hi) ∧ w'.cell? ⟨w.heap.size + 1, 2, none⟩ = some (.int .i64 t.st)) ((first | (go_keep; done) | ((repeat apply And.intro) <;> (try simp (disch := omega) only [scf]) <;> simp [*, go_sem]))) (first | (go_at_call 47; refine (gcd2_any s.st t.st _ _ (by simp [go_sem]) (by simp [go_sem]) (by omega) (by omega)).mono ?_; rintro e w1 ⟨rfl, hb⟩; obtain ⟨hc, hf⟩ := bcell hb; have hz := hb.size; (try simp at hz); have z0 : w.heap.size < w1.heap.size := (by omega); have c0 := fun o => hc (w.heap.size) o (by go_size); have f0 := fun o => hf (w.heap.size) o (by go_size); have z1 : w.heap.size + 1 < w1.heap.size := (by omega); have c1 := fun o => hc (w.heap.size + 1) o (by go_size); have f1 := fun o => hf (w.heap.size + 1) o (by go_size); have z2 : w.heap.size + 2 < w1.heap.size := (by omega); have c2 := fun o => hc (w.heap.size + 2) o (by go_size); have f2 := fun o => hf (w.heap.size + 2) o (by go_size); clear hc hf; have hB := bup (B := w.heap.size) (w := w) (by go_grown) hb (by go_size); clear hb) | (go_at_call 63; refine (bounded_any _ _ _ _).mono ?_; rintro e w1 ⟨rfl, hb⟩; obtain ⟨hc, hf⟩ := bcell hb; have hz := hb.size; (try simp at hz); have z0 : w.heap.size < w1.heap.size := (by omega); have c0 := fun o => hc (w.heap.size) o (by go_size); have f0 := fun o => hf (w.heap.size) o (by go_size); have z1 : w.heap.size + 1 < w1.heap.size := (by omega); have c1 := fun o => hc (w.heap.size + 1) o (by go_size); have f1 := fun o => hf (w.heap.size + 1) o (by go_size); have z2 : w.heap.size + 2 < w1.heap.size := (by omega); have c2 := fun o => hc (w.heap.size + 2) o (by go_size); have f2 := fun o => hf (w.heap.size + 2) o (by go_size); clear hc hf; have hB := bup (B := w.heap.size) (w := w) (by go_grown) hb (by go_size); clear hb))
  go_wp2
  exact bodyPost_ret (v := spt (boundedM (s.lo + t.lo) (s.hi + t.hi) (gcdM s.st t.st))) (by simp [results, Try.results52, go_sem, *]) rfl ⟨by rw [hD.out], by go_grown⟩

set_option maxHeartbeats 1000000 in
theorem sub_any (s t : Sp) (w : World) (hs : Bd s) (ht : Bd t) :
    Calls Try.prog 54 #[spv s, spv t] w fun e w' => e = .returned (spt (subM s t)) ∧ Below w.heap.size w w' := by
  obtain ⟨h0, h1, h2, h3, h4⟩ := hs
  obtain ⟨k0, k1, k2, k3, k4⟩ := ht
  have hD := Lib.hid (show subM s t = boundedM (s.lo - t.hi) (s.hi - t.lo) (gcdM s.st t.st) from rfl)
  have e1 : IntKind.i64.wrap (s.lo - t.hi) = s.lo - t.hi := IntWalk.i64_in _ (by omega)
  have e2 : IntKind.i64.wrap (s.hi - t.lo) = s.hi - t.lo := IntWalk.i64_in _ (by omega)
  go_enter Try.func54, Try.ntmps54
  go_wp2_with fail
  go_region_held3 (fun w' => w'.cell? ⟨w.heap.size, 0, none⟩ = some (.int .i64 s.lo) ∧ w'.cell? ⟨w.heap.size, 1, none⟩ = some (.int .i64 s.hi) ∧ w'.cell? ⟨w.heap.size, 2, none⟩ = some (.int .i64 s.st) ∧ w'.cell? ⟨w.heap.size + 1, 0, none⟩ = some (.int .i64 t.lo) ∧ w'.cell? ⟨w.heap.size + 1, 1, none⟩ = some (.int .i64 t.hi) ∧ w'.cell? ⟨w.heap.size + 1, 2, none⟩ = some (.int .i64 t.st)) ((first | (go_keep; done) | ((repeat apply And.intro) <;> (try simp (disch := omega) only [scf]) <;> simp [*, go_sem]))) (first | (go_at_call 47; refine (gcd2_any s.st t.st _ _ (by simp [go_sem]) (by simp [go_sem]) (by omega) (by omega)).mono ?_; rintro e w1 ⟨rfl, hb⟩; obtain ⟨hc, hf⟩ := bcell hb; have hz := hb.size; (try simp at hz); have z0 : w.heap.size < w1.heap.size := (by omega); have c0 := fun o => hc (w.heap.size) o (by go_size); have f0 := fun o => hf (w.heap.size) o (by go_size); have z1 : w.heap.size + 1 < w1.heap.size := (by omega); have c1 := fun o => hc (w.heap.size + 1) o (by go_size); have f1 := fun o => hf (w.heap.size + 1) o (by go_size); have z2 : w.heap.size + 2 < w1.heap.size := (by omega); have c2 := fun o => hc (w.heap.size + 2) o (by go_size); have f2 := fun o => hf (w.heap.size + 2) o (by go_size); clear hc hf; have hB := bup (B := w.heap.size) (w := w) (by go_grown) hb (by go_size); clear hb) | (go_at_call 63; refine (bounded_any _ _ _ _).mono ?_; rintro e w1 ⟨rfl, hb⟩; obtain ⟨hc, hf⟩ := bcell hb; have hz := hb.size; (try simp at hz); have z0 : w.heap.size < w1.heap.size := (by omega); have c0 := fun o => hc (w.heap.size) o (by go_size); have f0 := fun o => hf (w.heap.size) o (by go_size); have z1 : w.heap.size + 1 < w1.heap.size := (by omega); have c1 := fun o => hc (w.heap.size + 1) o (by go_size); have f1 := fun o => hf (w.heap.size + 1) o (by go_size); have z2 : w.heap.size + 2 < w1.heap.size := (by omega); have c2 := fun o => hc (w.heap.size + 2) o (by go_size); have f2 := fun o => hf (w.heap.size + 2) o (by go_size); clear hc hf; have hB := bup (B := w.heap.size) (w := w) (by go_grown) hb (by go_size); clear hb))
  go_wp2
  exact bodyPost_ret (v := spt (boundedM (s.lo - t.hi) (s.hi - t.lo) (gcdM s.st t.st))) (by simp [results, Try.results54, go_sem, *]) rfl ⟨by rw [hD.out], by go_grown⟩

set_option maxHeartbeats 1000000 in
theorem mul_any (s t : Sp) (w : World) (hs : Bd s) (ht : Bd t) (hs2 : s.st ≤ s.hi - s.lo) (ht2 : t.st ≤ t.hi - t.lo) :
    Calls Try.prog 55 #[spv s, spv t] w fun e w' => e = .returned (spt (mulM s t)) ∧ Below w.heap.size w w' := by
  obtain ⟨h0, h1, h2, h3, h4⟩ := hs
  obtain ⟨k0, k1, k2, k3, k4⟩ := ht
  cases hf : fits4 s t
  · have hD := Lib.hid (show mulM s t = ⟨zsp, 2⟩ by simp [mulM, hf])
    go_enter Try.func55, Try.ntmps55
    go_wp2_with (go_at_call 62; refine (products_any s t _ (by omega) (by omega) (by omega) (by omega) (by omega) (by omega) (by omega) (by omega)).mono ?_; rintro e w1 ⟨rfl, hb⟩; obtain ⟨hc, hf⟩ := bcell hb; have hz := hb.size; (try simp at hz); have z0 : w.heap.size < w1.heap.size := (by omega); have c0 := fun o => hc (w.heap.size) o (by go_size); have f0 := fun o => hf (w.heap.size) o (by go_size); have z1 : w.heap.size + 1 < w1.heap.size := (by omega); have c1 := fun o => hc (w.heap.size + 1) o (by go_size); have f1 := fun o => hf (w.heap.size + 1) o (by go_size); have z2 : w.heap.size + 2 < w1.heap.size := (by omega); have c2 := fun o => hc (w.heap.size + 2) o (by go_size); have f2 := fun o => hf (w.heap.size + 2) o (by go_size); clear hc hf; have hB := bup (B := w.heap.size) (w := w) (by go_grown) hb (by go_size); clear hb)
    exact bodyPost_ret (v := .tuple #[.agg #[.int .i64 0, .int .i64 0, .int .i64 0], .int .i64 2]) (by simp [results, Try.results55, go_sem, *]) rfl ⟨by rw [hD.out]; rfl, by go_grown⟩
  · obtain ⟨⟨m1, m2⟩, ⟨m3, m4⟩, ⟨m5, m6⟩⟩ := mul_steps h0 hs2 k0 ht2 hf
    obtain ⟨p1, p2⟩ := p_fit hf
    have hD := Lib.hid (show mulM s t = ⟨madeM (pLo s t) (pHi s t) (gcdM (gcdM (s.lo * t.st) (t.lo * s.st)) (s.st * t.st)), 0⟩ by simp [mulM, hf, p1, p2])
    clear p1 p2
    go_enter Try.func55, Try.ntmps55
    go_wp2_with (first | (go_at_call 62; refine (products_any s t _ (by omega) (by omega) (by omega) (by omega) (by omega) (by omega) (by omega) (by omega)).mono ?_; rintro e w1 ⟨rfl, hb⟩; obtain ⟨hc, hf⟩ := bcell hb; have hz := hb.size; (try simp at hz); have z0 : w.heap.size < w1.heap.size := (by omega); have c0 := fun o => hc (w.heap.size) o (by go_size); have f0 := fun o => hf (w.heap.size) o (by go_size); have z1 : w.heap.size + 1 < w1.heap.size := (by omega); have c1 := fun o => hc (w.heap.size + 1) o (by go_size); have f1 := fun o => hf (w.heap.size + 1) o (by go_size); have z2 : w.heap.size + 2 < w1.heap.size := (by omega); have c2 := fun o => hc (w.heap.size + 2) o (by go_size); have f2 := fun o => hf (w.heap.size + 2) o (by go_size); clear hc hf; have hB := bup (B := w.heap.size) (w := w) (by go_grown) hb (by go_size); clear hb) | (go_at_call 47; refine (gcd3_any (s.lo * t.st) (t.lo * s.st) (s.st * t.st) _ _ (by simp [go_sem]) (by simp [go_sem]) (by simp [go_sem]) (by omega) (by omega) (by omega)).mono ?_; rintro e w1 ⟨rfl, hb⟩; obtain ⟨hc, hf⟩ := bcell hb; have hz := hb.size; (try simp at hz); have z0 : w.heap.size < w1.heap.size := (by omega); have c0 := fun o => hc (w.heap.size) o (by go_size); have f0 := fun o => hf (w.heap.size) o (by go_size); have z1 : w.heap.size + 1 < w1.heap.size := (by omega); have c1 := fun o => hc (w.heap.size + 1) o (by go_size); have f1 := fun o => hf (w.heap.size + 1) o (by go_size); have z2 : w.heap.size + 2 < w1.heap.size := (by omega); have c2 := fun o => hc (w.heap.size + 2) o (by go_size); have f2 := fun o => hf (w.heap.size + 2) o (by go_size); clear hc hf; have hB := bup (B := w.heap.size) (w := w) (by go_grown) hb (by go_size); clear hb) | (go_at_call 46; refine (made_any _ _ _ _).mono ?_; rintro e w1 ⟨rfl, hb⟩; obtain ⟨hc, hf⟩ := bcell hb; have hz := hb.size; (try simp at hz); have z0 : w.heap.size < w1.heap.size := (by omega); have c0 := fun o => hc (w.heap.size) o (by go_size); have f0 := fun o => hf (w.heap.size) o (by go_size); have z1 : w.heap.size + 1 < w1.heap.size := (by omega); have c1 := fun o => hc (w.heap.size + 1) o (by go_size); have f1 := fun o => hf (w.heap.size + 1) o (by go_size); have z2 : w.heap.size + 2 < w1.heap.size := (by omega); have c2 := fun o => hc (w.heap.size + 2) o (by go_size); have f2 := fun o => hf (w.heap.size + 2) o (by go_size); clear hc hf; have hB := bup (B := w.heap.size) (w := w) (by go_grown) hb (by go_size); clear hb))
    exact bodyPost_ret (v := spt ⟨madeM (pLo s t) (pHi s t) (gcdM (gcdM (s.lo * t.st) (t.lo * s.st)) (s.st * t.st)), 0⟩) (by simp [results, Try.results55, go_sem, *]) rfl ⟨by rw [hD.out], by go_grown⟩
end Go.Proofs.Ytnihhchgnkfcgaa
