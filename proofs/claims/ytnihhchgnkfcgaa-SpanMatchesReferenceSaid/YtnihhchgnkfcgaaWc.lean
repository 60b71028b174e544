/- The walks of the functions of layer 25 and of its reference that compute with one span or with three numbers. -/
import Derived.Test.YtnihhchgnkfcgaaWb
set_option linter.unusedSimpArgs false
set_option linter.unusedVariables false
namespace Go.Proofs.Ytnihhchgnkfcgaa
open Go.ChangeShapes Go.WideShapes Go.ChangeAt Go.RowKit

theorem bl1 (w : World) (o : Obj) : Below w.heap.size w (w.alloc o) := (Below.refl _ _).alloc (Nat.le_refl _) _

set_option maxHeartbeats 800000 in
theorem valid_any (s : Sp) (w : World) :
    Calls Try.prog 15 #[spv s] w fun e w' => e = .returned (.bool (vldB s)) ∧ Below w.heap.size w w' := by
  obtain ⟨lo, hi, st⟩ := s
  cases hA : nearB lo
  · have hD := Lib.hid (show vldB ⟨lo, hi, st⟩ = false by simp [vldB, hA])
    go_enter Try.func15, Try.ntmps15
    go_wp2_with (go_at_call 43; refine (near_any _ _).mono ?_; rintro e w' ⟨rfl, rfl⟩)
    go_ret
    exact ⟨ret_bool hD.out.symm, bl1 _ _⟩
  · cases hB : nearB hi
    · have hD := Lib.hid (show vldB ⟨lo, hi, st⟩ = false by simp [vldB, hB])
      go_enter Try.func15, Try.ntmps15
      go_wp2_with (go_at_call 43; refine (near_any _ _).mono ?_; rintro e w' ⟨rfl, rfl⟩)
      go_ret
      exact ⟨ret_bool hD.out.symm, bl1 _ _⟩
    · obtain ⟨a1, a2⟩ := (nearB_iff lo).1 hA
      obtain ⟨b1, b2⟩ := (nearB_iff hi).1 hB
      by_cases h1 : lo ≤ hi
      · by_cases h2 : lo = hi
        · subst h2
          have hD := Lib.hid (show vldB ⟨lo, lo, st⟩ = (st == 0) by simp [vldB, hA]; rfl)
          go_enter Try.func15, Try.ntmps15
          go_wp2_with (go_at_call 43; refine (near_any _ _).mono ?_; rintro e w' ⟨rfl, rfl⟩)
          go_ret
          exact ⟨ret_bool hD.out.symm, bl1 _ _⟩
        · by_cases h3 : 0 < st
          · have hD := Lib.hid (show vldB ⟨lo, hi, st⟩ = ((hi - lo) % st == 0) by simp [vldB, hA, hB, h1, h2, h3]; rfl)
            have hb : (lo == hi) = false := beq_eq_false_iff_ne.2 h2
            go_enter Try.func15, Try.ntmps15
            go_wp2_with (go_at_call 43; refine (near_any _ _).mono ?_; rintro e w' ⟨rfl, rfl⟩)
            go_ret
            exact ⟨ret_bool hD.out.symm, bl1 _ _⟩
          · have hD := Lib.hid (show vldB ⟨lo, hi, st⟩ = false by simp [vldB, h2, h3])
            have hb : (lo == hi) = false := beq_eq_false_iff_ne.2 h2
            go_enter Try.func15, Try.ntmps15
            go_wp2_with (go_at_call 43; refine (near_any _ _).mono ?_; rintro e w' ⟨rfl, rfl⟩)
            go_ret
            exact ⟨ret_bool hD.out.symm, bl1 _ _⟩
      · have hD := Lib.hid (show vldB ⟨lo, hi, st⟩ = false by simp [vldB, h1])
        go_enter Try.func15, Try.ntmps15
        go_wp2_with (go_at_call 43; refine (near_any _ _).mono ?_; rintro e w' ⟨rfl, rfl⟩)
        go_ret
        exact ⟨ret_bool hD.out.symm, bl1 _ _⟩

set_option maxHeartbeats 800000 in
theorem rvalid_any (s : Sp) (w : World) :
    Calls Try.prog 19 #[spv s] w fun e w' => e = .returned (.bool (vldB s)) ∧ Below w.heap.size w w' := by
  obtain ⟨lo, hi, st⟩ := s
  cases hA : nearB lo
  · have hD := Lib.hid (show vldB ⟨lo, hi, st⟩ = false by simp [vldB, hA])
    go_enter Try.func19, Try.ntmps19
    go_wp2_with (go_at_call 44; refine (rnear_any _ _).mono ?_; rintro e w' ⟨rfl, rfl⟩)
    go_ret
    exact ⟨ret_bool hD.out.symm, bl1 _ _⟩
  · cases hB : nearB hi
    · have hD := Lib.hid (show vldB ⟨lo, hi, st⟩ = false by simp [vldB, hB])
      go_enter Try.func19, Try.ntmps19
      go_wp2_with (go_at_call 44; refine (rnear_any _ _).mono ?_; rintro e w' ⟨rfl, rfl⟩)
      go_ret
      exact ⟨ret_bool hD.out.symm, bl1 _ _⟩
    · obtain ⟨a1, a2⟩ := (nearB_iff lo).1 hA
      obtain ⟨b1, b2⟩ := (nearB_iff hi).1 hB
      by_cases h1 : lo ≤ hi
      · by_cases h2 : lo = hi
        · subst h2
          have hD := Lib.hid (show vldB ⟨lo, lo, st⟩ = (st == 0) by simp [vldB, hA]; rfl)
          go_enter Try.func19, Try.ntmps19
          go_wp2_with (go_at_call 44; refine (rnear_any _ _).mono ?_; rintro e w' ⟨rfl, rfl⟩)
          go_ret
          exact ⟨ret_bool hD.out.symm, bl1 _ _⟩
        · by_cases h3 : 1 ≤ st
          · have hD := Lib.hid (show vldB ⟨lo, hi, st⟩ = ((hi - lo) % st == 0) by simp [vldB, hA, hB, h1, h2, show 0 < st by omega]; rfl)
            have hb : (lo == hi) = false := beq_eq_false_iff_ne.2 h2
            go_enter Try.func19, Try.ntmps19
            go_wp2_with (go_at_call 44; refine (rnear_any _ _).mono ?_; rintro e w' ⟨rfl, rfl⟩)
            go_ret
            exact ⟨ret_bool hD.out.symm, bl1 _ _⟩
          · have hD := Lib.hid (show vldB ⟨lo, hi, st⟩ = false by simp [vldB, h2, show ¬ 0 < st by omega])
            have hb : (lo == hi) = false := beq_eq_false_iff_ne.2 h2
            go_enter Try.func19, Try.ntmps19
            go_wp2_with (go_at_call 44; refine (rnear_any _ _).mono ?_; rintro e w' ⟨rfl, rfl⟩)
            go_ret
            exact ⟨ret_bool hD.out.symm, bl1 _ _⟩
      · have hD := Lib.hid (show vldB ⟨lo, hi, st⟩ = false by simp [vldB, h1])
        go_enter Try.func19, Try.ntmps19
        go_wp2_with (go_at_call 44; refine (rnear_any _ _).mono ?_; rintro e w' ⟨rfl, rfl⟩)
        go_ret
        exact ⟨ret_bool hD.out.symm, bl1 _ _⟩

theorem size_any (s : Sp) (w : World) (h0 : 0 ≤ s.st) (h : s.lo ≤ s.hi) (h1 : -2305843009213693952 ≤ s.lo) (h2 : s.hi ≤ 2305843009213693952) (h3 : s.st ≤ 2305843009213693952) :
    Calls Try.prog 16 #[spv s] w fun e w' => e = .returned (.int .i64 (sizeM s)) ∧ Below w.heap.size w w' := by
  obtain ⟨lo, hi, st⟩ := s
  dsimp only at *
  by_cases hz : st = 0
  · subst hz
    have hD := Lib.hid (show sizeM ⟨lo, hi, 0⟩ = 1 by simp [sizeM])
    go_enter Try.func16, Try.ntmps16
    go_wp2
    go_ret
    exact ⟨ret_int hD.out.symm, bl1 _ _⟩
  · have hD := Lib.hid (show sizeM ⟨lo, hi, st⟩ = (hi - lo) / st + 1 by simp [sizeM, hz])
    have hb : (st == 0) = false := beq_eq_false_iff_ne.2 hz
    have hp : 1 ≤ st := by omega
    obtain ⟨q1, q2⟩ := (ediv_bd (a := hi - lo) hp).1 (by omega)
    go_enter Try.func16, Try.ntmps16
    go_wp2
    go_ret
    exact ⟨ret_int hD.out.symm, bl1 _ _⟩

theorem rsize_any (s : Sp) (w : World) (h0 : 0 ≤ s.st) (h : s.lo ≤ s.hi) (h1 : -2305843009213693952 ≤ s.lo) (h2 : s.hi ≤ 2305843009213693952) (h3 : s.st ≤ 2305843009213693952) :
    Calls Try.prog 28 #[spv s] w fun e w' => e = .returned (.int .i64 (sizeM s)) ∧ Below w.heap.size w w' := by
  obtain ⟨lo, hi, st⟩ := s
  dsimp only at *
  by_cases hz : st = 0
  · subst hz
    have hD := Lib.hid (show sizeM ⟨lo, hi, 0⟩ = 1 by simp [sizeM])
    go_enter Try.func28, Try.ntmps28
    go_wp2
    go_ret
    exact ⟨ret_int hD.out.symm, bl1 _ _⟩
  · have hD := Lib.hid (show sizeM ⟨lo, hi, st⟩ = (hi - lo) / st + 1 by simp [sizeM, hz])
    have hb : (st == 0) = false := beq_eq_false_iff_ne.2 hz
    have hp : 1 ≤ st := by omega
    obtain ⟨q1, q2⟩ := (ediv_bd (a := hi - lo) hp).1 (by omega)
    go_enter Try.func28, Try.ntmps28
    go_wp2
    go_ret
    exact ⟨ret_int hD.out.symm, bl1 _ _⟩

theorem rhas_any (s : Sp) (n : Int) (w : World) (h0 : 0 ≤ s.st) (hz : s.lo < s.hi → 1 ≤ s.st) (h1 : -2305843009213693952 ≤ s.lo) (h2 : s.hi ≤ 2305843009213693952) (h3 : s.st ≤ 2305843009213693952) :
    Calls Try.prog 27 #[spv s, .int .i64 n] w fun e w' => e = .returned (.bool (hasB s n)) ∧ Below w.heap.size w w' := by
  obtain ⟨lo, hi, st⟩ := s
  dsimp only at *
  by_cases a1 : lo ≤ n
  · by_cases a2 : n ≤ hi
    · by_cases a3 : st = 0
      · subst a3
        have hD := Lib.hid (show hasB ⟨lo, hi, 0⟩ n = true by
          have : n = lo := by
            by_cases h : lo < hi
            · have := hz h; omega
            · omega
          simp [hasB, this]; omega)
        clear hz
        go_enter Try.func27, Try.ntmps27
        go_wp2
        go_ret
        exact ⟨ret_bool hD.out.symm, bl1 _ _⟩
      · have hp : 1 ≤ st := by omega
        have hD := Lib.hid (show hasB ⟨lo, hi, st⟩ n = ((n - lo) % st == 0) by simp [hasB, a1, a2]; rfl)
        have hb : (st == 0) = false := beq_eq_false_iff_ne.2 a3
        clear hz
        go_enter Try.func27, Try.ntmps27
        go_wp2
        go_ret
        exact ⟨ret_bool hD.out.symm, bl1 _ _⟩
    · have hD := Lib.hid (show hasB ⟨lo, hi, st⟩ n = false by simp [hasB, a2])
      clear hz
      go_enter Try.func27, Try.ntmps27
      go_wp2
      go_ret
      exact ⟨ret_bool hD.out.symm, bl1 _ _⟩
  · have hD := Lib.hid (show hasB ⟨lo, hi, st⟩ n = false by simp [hasB, a1])
    clear hz
    go_enter Try.func27, Try.ntmps27
    go_wp2
    go_ret
    exact ⟨ret_bool hD.out.symm, bl1 _ _⟩
end Go.Proofs.Ytnihhchgnkfcgaa
