/- The walks of the functions of layer 25, of its statements and of its reference that make a span of three numbers, pick an element, or compare two spans. -/
import Derived.Test.YtnihhchgnkfcgaaWc
import Derived.Deep.RegionHeld3
set_option linter.unusedSimpArgs false
set_option linter.unusedVariables false
namespace Go.Proofs.Ytnihhchgnkfcgaa
open Go.ChangeShapes Go.WideShapes Go.ChangeAt Go.RowKit

abbrev spe (x : Spe) : Value := .agg #[.int .i64 x.s.lo, .int .i64 x.s.hi, .int .i64 x.s.st, .int .i64 x.e]
abbrev spt (x : Spe) : Value := .tuple #[.agg #[.int .i64 x.s.lo, .int .i64 x.s.hi, .int .i64 x.s.st], .int .i64 x.e]

theorem bcell {W w1 : World} (hb : Below W.heap.size W w1) : (∀ b o, b < W.heap.size → w1.cell? ⟨b, o, none⟩ = W.cell? ⟨b, o, none⟩) ∧ (∀ b o, b < W.heap.size → w1.frozen? ⟨b, o, none⟩ = W.frozen? ⟨b, o, none⟩) :=
  ⟨fun b o h => hb.cell (p := ⟨b, o, none⟩) h, fun b o h => hb.frozen (p := ⟨b, o, none⟩) h⟩
theorem bup {B : Nat} {w w1 w' : World} (h : Below B w w1) (hb : Below w1.heap.size w1 w') (hB : B ≤ w1.heap.size) : Below B w w' := h.trans (hb.mono hB)
theorem bl2 (w : World) (o p : Obj) : Below w.heap.size w ((w.alloc o).alloc p) := (bl1 w o).alloc (by simp) _
theorem bl3 (w : World) (o p q : Obj) : Below w.heap.size w (((w.alloc o).alloc p).alloc q) := (bl2 w o p).alloc (by simp; omega) _

theorem rest_any (a b : Int) (w : World) (hb : 1 ≤ b) (hb2 : b ≤ 4611686018427387904) (ha : -4611686018427387904 ≤ a) (ha2 : a ≤ 4611686018427387904) :
    Calls Try.prog 61 #[.int .i64 a, .int .i64 b] w fun e w' => e = .returned (.int .i64 (a % b)) ∧ w = w' := by
  have h1 := Int.mul_ediv_add_emod a b
  have h2 := Int.emod_nonneg a (b := b) (by omega)
  have h3 := Int.emod_lt_of_pos a (b := b) (by omega)
  have hD := Lib.hid (show a - a / b * b = a % b by rw [Int.mul_comm]; omega)
  have h4 : -9223372036854775808 ≤ a / b * b := by rw [Int.mul_comm]; omega
  have h5 : a / b * b ≤ 9223372036854775807 := by rw [Int.mul_comm]; omega
  have h6 : -9223372036854775808 ≤ a - a / b * b := by rw [Int.mul_comm]; omega
  have h7 : a - a / b * b ≤ 9223372036854775807 := by rw [Int.mul_comm]; omega
  clear h1 h2 h3
  go_enter Try.func61, Try.ntmps61
  go_wp2_with (go_at_call 60; refine (floor_any _ _ _ (by omega) (by omega) (by omega) (by omega)).mono ?_; rintro e w' ⟨rfl, rfl⟩)
  go_ret
  exact ⟨ret_int hD.out, rfl⟩

theorem is_any (lo hi st : Int) (w : World) :
    Calls Try.prog 40 #[.int .i64 lo, .int .i64 hi, .int .i64 st] w fun e w' => e = .returned (spe ⟨⟨lo, hi, st⟩, 0⟩) ∧ Below w.heap.size w w' := by
  go_enter Try.func40, Try.ntmps40
  go_wp2
  exact bodyPost_ret (v := .agg #[.int .i64 lo, .int .i64 hi, .int .i64 st, .int .i64 0]) (by simp [results, Try.results40, go_sem]) rfl ⟨rfl, bl1 _ _⟩

theorem bounded_any (lo hi st : Int) (w : World) :
    Calls Try.prog 63 #[.int .i64 lo, .int .i64 hi, .int .i64 st] w fun e w' => e = .returned (spt (boundedM lo hi st)) ∧ Below w.heap.size w w' := by
  cases hA : nearB lo
  · have hD := Lib.hid (show boundedM lo hi st = ⟨zsp, 2⟩ by simp [boundedM, hA])
    go_enter Try.func63, Try.ntmps63
    go_wp2_with (go_at_call 43; refine (near_any _ _).mono ?_; rintro e w' ⟨rfl, rfl⟩)
    exact bodyPost_ret (v := .tuple #[.agg #[.int .i64 0, .int .i64 0, .int .i64 0], .int .i64 2]) (by simp [results, Try.results63, go_sem]) rfl ⟨by rw [hD.out]; rfl, bl1 _ _⟩
  · cases hB : nearB hi
    · have hD := Lib.hid (show boundedM lo hi st = ⟨zsp, 2⟩ by simp [boundedM, hB])
      go_enter Try.func63, Try.ntmps63
      go_wp2_with (go_at_call 43; refine (near_any _ _).mono ?_; rintro e w' ⟨rfl, rfl⟩)
      exact bodyPost_ret (v := .tuple #[.agg #[.int .i64 0, .int .i64 0, .int .i64 0], .int .i64 2]) (by simp [results, Try.results63, go_sem]) rfl ⟨by rw [hD.out]; rfl, bl1 _ _⟩
    · have hD := Lib.hid (show boundedM lo hi st = ⟨madeM lo hi st, 0⟩ by simp [boundedM, hA, hB])
      go_enter Try.func63, Try.ntmps63
      go_wp2_with (first | (go_at_call 43; refine (near_any _ _).mono ?_; rintro e w' ⟨rfl, rfl⟩) | (go_at_call 46; refine (made_any _ _ _ _).mono ?_; rintro e w1 ⟨rfl, hb⟩; obtain ⟨hc, hf⟩ := bcell hb; have hz := hb.size; (try simp at hz); have z0 : w.heap.size < w1.heap.size := (by omega); have hB := bup (B := w.heap.size) (w := w) (by go_grown) hb (by go_size); clear hb))
      exact bodyPost_ret (v := spt ⟨madeM lo hi st, 0⟩) (by simp [results, Try.results63, go_sem, hc, hz]) rfl ⟨by rw [hD.out], by go_grown⟩

theorem inside_any (s t : Sp) (w : World) (h0 : 0 ≤ t.st) (hz : t.lo < t.hi → 1 ≤ t.st) (h1 : -2305843009213693952 ≤ t.lo) (h2 : t.hi ≤ 2305843009213693952) (h3 : t.st ≤ 2305843009213693952)
    (k1 : -2305843009213693952 ≤ s.lo) (k2 : s.lo ≤ 2305843009213693952) (k3 : 0 ≤ s.st) (k4 : s.st ≤ 2305843009213693952) :
    Calls Try.prog 20 #[spv s, spv t] w fun e w' => e = .returned (.bool (insideB s t)) ∧ Below w.heap.size w w' := by
  have HZ := Lib.hid hz; clear hz
  cases hA : hasB t s.lo
  · have hD := Lib.hid (show insideB s t = false by simp [insideB, hA])
    go_enter Try.func20, Try.ntmps20
    go_wp2_with (go_at_call 27; refine (rhas_any t _ _ (by omega) HZ.out (by omega) (by omega) (by omega)).mono ?_; rintro e w1 ⟨rfl, hb⟩; obtain ⟨hc, hf⟩ := bcell hb; have hz := hb.size; (try simp at hz); have z0 : w.heap.size < w1.heap.size := (by omega); have z1 : w.heap.size + 1 < w1.heap.size := (by omega); have hB := bup (B := w.heap.size) (w := w) (by go_grown) hb (by go_size); clear hb)
    go_ret
    exact ⟨ret_bool hD.out.symm, by go_grown⟩
  · have k5 : -2305843009213693952 ≤ s.lo + s.st := by omega
    cases hB : hasB t s.hi
    · have hD := Lib.hid (show insideB s t = false by simp [insideB, hB])
      go_enter Try.func20, Try.ntmps20
      go_wp2_with (go_at_call 27; refine (rhas_any t _ _ (by omega) HZ.out (by omega) (by omega) (by omega)).mono ?_; rintro e w1 ⟨rfl, hb⟩; obtain ⟨hc, hf⟩ := bcell hb; have hz := hb.size; (try simp at hz); have z0 : w.heap.size < w1.heap.size := (by omega); have z1 : w.heap.size + 1 < w1.heap.size := (by omega); have hB := bup (B := w.heap.size) (w := w) (by go_grown) hb (by go_size); clear hb)
      go_ret
      exact ⟨ret_bool hD.out.symm, by go_grown⟩
    · have hD := Lib.hid (show insideB s t = hasB t (s.lo + s.st) by simp [insideB, hA, hB])
      go_enter Try.func20, Try.ntmps20
      go_wp2_with (go_at_call 27; refine (rhas_any t _ _ (by omega) HZ.out (by omega) (by omega) (by omega)).mono ?_; rintro e w1 ⟨rfl, hb⟩; obtain ⟨hc, hf⟩ := bcell hb; have hz := hb.size; (try simp at hz); have z0 : w.heap.size < w1.heap.size := (by omega); have z1 : w.heap.size + 1 < w1.heap.size := (by omega); have hB := bup (B := w.heap.size) (w := w) (by go_grown) hb (by go_size); clear hb)
      go_ret
      exact ⟨ret_bool hD.out.symm, by go_grown⟩

theorem of_any (lo hi st : Int) (w : World) (b1 : st ≤ 9223372036854775807) :
    Calls Try.prog 48 #[.int .i64 lo, .int .i64 hi, .int .i64 st] w fun e w' => e = .returned (spt (ofM lo hi st)) ∧ Below w.heap.size w w' := by
  by_cases hh : nearB lo = true ∧ nearB hi = true ∧ lo ≤ hi ∧ 1 ≤ st
  · obtain ⟨hA, hB, h1, h2⟩ := hh
    obtain ⟨a1, a2⟩ := (nearB_iff lo).1 hA
    obtain ⟨b1, b2⟩ := (nearB_iff hi).1 hB
    have hD := Lib.hid (show ofM lo hi st = ⟨madeM lo (hi - (hi - lo) % st) st, 0⟩ by simp [ofM, hA, hB, h1, h2])
    have r1 := Int.emod_nonneg (hi - lo) (b := st) (by omega)
    have r2 := Int.emod_lt_of_pos (hi - lo) (b := st) (by omega)
    have r3 : (hi - lo) % st ≤ hi - lo := by
      have := Int.mul_ediv_add_emod (hi - lo) st
      have := Int.mul_nonneg (a := st) (b := (hi - lo) / st) (by omega) (Int.ediv_nonneg (by omega) (by omega))
      omega
    clear a2
    go_enter Try.func48, Try.ntmps48
    go_wp2_with (first | (go_at_call 43; refine (near_any _ _).mono ?_; rintro e w' ⟨rfl, rfl⟩) | (go_at_call 46; refine (made_any _ _ _ _).mono ?_; rintro e w1 ⟨rfl, hb⟩; obtain ⟨hc, hf⟩ := bcell hb; have hz := hb.size; (try simp at hz); have z0 : w.heap.size < w1.heap.size := (by omega); have hB := bup (B := w.heap.size) (w := w) (by go_grown) hb (by go_size); clear hb))
    exact bodyPost_ret (v := spt ⟨madeM lo (hi - (hi - lo) % st) st, 0⟩) (by simp [results, Try.results48, go_sem, hc, hz]) rfl ⟨by rw [hD.out], by go_grown⟩
  · have hD := Lib.hid (show ofM lo hi st = ⟨zsp, 1⟩ by
      unfold ofM
      rw [if_neg]
      simpa [and_assoc] using hh)
    have HH := Lib.hid hh; clear hh
    cases hA : nearB lo
    · go_enter Try.func48, Try.ntmps48
      go_wp2_with (go_at_call 43; refine (near_any _ _).mono ?_; rintro e w' ⟨rfl, rfl⟩)
      exact bodyPost_ret (v := .tuple #[.agg #[.int .i64 0, .int .i64 0, .int .i64 0], .int .i64 1]) (by simp [results, Try.results48, go_sem]) rfl ⟨by rw [hD.out]; rfl, bl1 _ _⟩
    · cases hB : nearB hi
      · go_enter Try.func48, Try.ntmps48
        go_wp2_with (go_at_call 43; refine (near_any _ _).mono ?_; rintro e w' ⟨rfl, rfl⟩)
        exact bodyPost_ret (v := .tuple #[.agg #[.int .i64 0, .int .i64 0, .int .i64 0], .int .i64 1]) (by simp [results, Try.results48, go_sem]) rfl ⟨by rw [hD.out]; rfl, bl1 _ _⟩
      · by_cases h1 : lo ≤ hi
        · have h2 : st < 1 := by
            have := HH.out
            simp only [hA, hB, h1, true_and] at this
            omega
          go_enter Try.func48, Try.ntmps48
          go_wp2_with (go_at_call 43; refine (near_any _ _).mono ?_; rintro e w' ⟨rfl, rfl⟩)
          exact bodyPost_ret (v := .tuple #[.agg #[.int .i64 0, .int .i64 0, .int .i64 0], .int .i64 1]) (by simp [results, Try.results48, go_sem]) rfl ⟨by rw [hD.out]; rfl, bl1 _ _⟩
        · go_enter Try.func48, Try.ntmps48
          go_wp2_with (go_at_call 43; refine (near_any _ _).mono ?_; rintro e w' ⟨rfl, rfl⟩)
          exact bodyPost_ret (v := .tuple #[.agg #[.int .i64 0, .int .i64 0, .int .i64 0], .int .i64 1]) (by simp [results, Try.results48, go_sem]) rfl ⟨by rw [hD.out]; rfl, bl1 _ _⟩

theorem pick_any (s : Sp) (i : Int) (w : World) (i0 : 0 ≤ i) (i1 : i ≤ 65535) (h0 : 0 ≤ s.st) (h : s.lo ≤ s.hi) (h1 : -2305843009213693952 ≤ s.lo) (h2 : s.hi ≤ 2305843009213693952) (h3 : s.st ≤ 2305843009213693952) :
    Calls Try.prog 18 #[spv s, .int .u16 i] w fun e w' => e = .returned (.int .i64 (pickM s i)) ∧ Below w.heap.size w w' := by
  obtain ⟨p1, p2, p3, p4⟩ := pick_bd i h0 h
  have hs := size_pos h0 h
  have hD := Lib.hid (show pickM s i = s.lo + s.st * (i % sizeM s) from rfl)
  have hn : ¬ sizeM s = 0 := by omega
  have e0 : IntKind.i64.wrap i = i := IntWalk.i64_in _ (by omega)
  have et : i.tmod (sizeM s) = i % sizeM s := Int.tmod_eq_emod_of_nonneg i0
  have e1 : IntKind.i64.wrap (s.st * (i % sizeM s)) = s.st * (i % sizeM s) := IntWalk.i64_in _ (by omega)
  have e2 : IntKind.i64.wrap (s.lo + s.st * (i % sizeM s)) = s.lo + s.st * (i % sizeM s) := IntWalk.i64_in _ (by omega)
  go_enter Try.func18, Try.ntmps18
  go_wp2_with fail
  go_region_held3 (fun w' => w'.cell? ⟨w.heap.size, 0, none⟩ = some (.int .i64 s.lo) ∧ w'.cell? ⟨w.heap.size, 1, none⟩ = some (.int .i64 s.hi) ∧ w'.cell? ⟨w.heap.size, 2, none⟩ = some (.int .i64 s.st))
    (go_keep) (first | (go_at_call 28; refine (rsize_any s _ h0 h h1 h2 h3).mono ?_; rintro e w1 ⟨rfl, hb⟩; obtain ⟨hc, hf⟩ := bcell hb; have hz := hb.size; (try simp at hz); have z0 : w.heap.size < w1.heap.size := (by omega); have hB := bup (B := w.heap.size) (w := w) (by go_grown) hb (by go_size); clear hb))
  go_wp2
  go_ret
  exact ⟨ret_int hD.out.symm, by go_grown⟩

end Go.Proofs.Ytnihhchgnkfcgaa
