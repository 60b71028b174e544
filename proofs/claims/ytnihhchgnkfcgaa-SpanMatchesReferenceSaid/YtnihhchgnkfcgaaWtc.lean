/- The walks of the reference's product modulo a number, and of its inverse. -/
import Derived.Test.YtnihhchgnkfcgaaWta
import Derived.Test.YtnihhchgnkfcgaaPm
import Derived.Lib.SmallJoins
-- USEBDN
set_option linter.unusedSimpArgs false
set_option linter.unusedVariables false
namespace Go.Proofs.Ytnihhchgnkfcgaa
open Go.ChangeShapes Go.WideShapes Go.ChangeAt Go.RowKit
set_option maxHeartbeats 1000000 in
theorem rmulmod_any (a b m : Int) (w : World) (a0 : 0 ≤ a) (a1 : a < m) (b0 : 0 ≤ b) (m1 : 1 ≤ m) (m2 : m ≤ 4294967296) (b1 : b ≤ 4611686018427387904) :
    Calls Try.prog 56 #[.int .i64 a, .int .i64 b, .int .i64 m] w fun e w' => e = .returned (.int .i64 (a * b % m)) ∧ w = w' := by
  have hne : ¬ m = 0 := by omega
  have hA : Hid ((0 + a * b) % m = a * b % m) := Lib.hid (by rw [Int.zero_add])
  obtain ⟨A, hAn⟩ : ∃ A, A = a * b % m := ⟨_, rfl⟩
  rw [← hAn] at hA
  have HR := Lib.hid hAn; clear hAn
  go_enter Try.func56, Try.ntmps56
  go_wp2
  go_loop [0, 1, 7] (fun x y o => ∃ (x' y' o' : Int), x = .int .i64 x' ∧ y = .int .i64 y' ∧ o = .int .i64 o' ∧ Hid ((o' + x' * y') % m = A) ∧ 0 ≤ x' ∧ x' < m ∧ 0 ≤ y' ∧ y' ≤ 4611686018427387904 ∧ 0 ≤ o' ∧ o' < m) (fun _ y _ => (intOf y).toNat)
  case atStart => exact ⟨a, b, 0, rfl, rfl, rfl, hA, a0, a1, b0, b1, by omega, by omega⟩
  case round =>
    clear hA a0 a1 b0 b1
    obtain ⟨x, y, o, rfl, rfl, rfl, hA, x0, x1, y0, y1, o0, o1⟩ := hrel
    have s1 := Int.emod_nonneg (x + x) (b := m) (by omega)
    have s2 := Int.emod_lt_of_pos (x + x) (b := m) (by omega)
    have s3 := Int.emod_nonneg (o + x) (b := m) (by omega)
    have s4 := Int.emod_lt_of_pos (o + x) (b := m) (by omega)
    have st := dbl_step m1 hA.out
    by_cases hy : 0 < y
    · by_cases hp : y % 2 = 1
      · have hp1 : (y % 2 == 1) = true := by simp [hp]
        have S := Lib.hid (st.1 hp); clear st hp hA
        go_wp2
        go_round
        case rel => exact ⟨(x + x) % m, y / 2, (o + x) % m, rfl, rfl, rfl, S, s1, s2, by omega, by omega, s3, s4⟩
        case measure => simp [intOf]; omega
      · have hp1 : (y % 2 == 1) = false := by simp [hp]
        have S := Lib.hid (st.2 (by omega)); clear st hp hA
        go_wp2
        go_round
        case rel => exact ⟨(x + x) % m, y / 2, o, rfl, rfl, rfl, S, s1, s2, by omega, by omega, o0, o1⟩
        case measure => simp [intOf]; omega
    · have hy0 : y = 0 := by omega
      subst hy0
      have hE := hA.out
      rw [Int.mul_zero, Int.add_zero, Int.emod_eq_of_lt o0 o1] at hE
      have HE := Lib.hid hE
      clear hE hA st
      go_wp2
      go_ret
      exact ⟨ret_int (by rw [HE.out, HR.out]), rfl⟩

set_option maxHeartbeats 1000000 in
theorem rinv_any (a m : Int) (w : World) (a0 : 0 ≤ a) (a1 : a ≤ 4294967296) (m1 : 1 ≤ m) (m2 : m ≤ 4294967296) (hg : gcdM a m = 1) :
    Calls Try.prog 57 #[.int .i64 a, .int .i64 m] w fun e w' => e = .returned (.int .i64 (invM a m)) ∧ Below w.heap.size w w' := by
  have hne : ¬ m = 0 := by omega
  have H0 := Lib.hid (inv_start m1 hg)
  have e1 := Int.emod_nonneg a (b := m) (by omega)
  have e2 := Int.emod_lt_of_pos a (b := m) (by omega)
  clear hg
  go_enter Try.func57, Try.ntmps57
  go_wp2
  go_quiet (fail)
  go_wp2
  go_loop [5, 6, 7, 8] (fun r s u v => ∃ (c d x y U V : Int), r = .int .i64 c ∧ s = .int .i64 d ∧ u = .int .i64 x ∧ v = .int .i64 y ∧ Hid (InvR a m c d x y U V) ∧ 1 ≤ c ∧ c ≤ m ∧ 0 ≤ d ∧ d ≤ m ∧ -m ≤ x ∧ x ≤ m ∧ -m ≤ y ∧ y ≤ m) (fun _ s _ _ => (intOf s).toNat)
  case atStart => exact ⟨m, a % m, 0, 1, 0, 1, rfl, rfl, rfl, rfl, H0, by omega, by omega, by omega, by omega, by omega, by omega, by omega, by omega⟩
  case round =>
    clear H0 e1 e2
    obtain ⟨c, d, x, y, U, V, rfl, rfl, rfl, rfl, H, c1, c2, d1, d2, x1, x2, y1, y2⟩ := hrel
    by_cases hd : 0 < d
    · obtain ⟨R2, f1, f2, f3, f4, f5, f6, f7⟩ := inv_step H.out (by omega)
      have e1 := Int.emod_nonneg c (b := d) (by omega)
      have e2 := Int.emod_lt_of_pos c (b := d) (by omega)
      have q1 : 0 ≤ c / d * d := Int.mul_nonneg f2 d1
      have U0 := H.out.U0
      have q2 : c / d * d ≤ m := by omega
      have q3 : c / d ≤ c := Int.ediv_le_self _ (by omega)
      have sg : (y = V ∨ y = -V) := by rcases H.out.sg with ⟨_, h⟩ | ⟨_, h⟩ <;> omega
      have q4 : -m ≤ c / d * y ∧ c / d * y ≤ m := by
        rcases sg with h | h
        · rw [h]; omega
        · rw [h, Int.mul_neg]; omega
      obtain ⟨q5, q6⟩ := q4
      have sg2 := R2.sg
      have q7 : -m ≤ x - c / d * y ∧ x - c / d * y ≤ m := by omega
      obtain ⟨q8, q9⟩ := q7
      have R3 := Lib.hid R2
      have w1 : 0 ≤ c - c / d * d := by omega
      have w2 : c - c / d * d < d := by omega
      clear R2 sg sg2 H f1 f3 f4 f5 f6 f7 U0
      have dne : ¬ d = 0 := by omega
      go_wp2
      go_round
      case rel => exact ⟨d, c - c / d * d, y, x - c / d * y, V, U + c / d * V, rfl, rfl, rfl, rfl, R3, by omega, by omega, w1, by omega, y1, y2, q8, q9⟩
      case measure => simp [intOf]; omega
    · have hd0 : d = 0 := by omega
      subst hd0
      have hE := Lib.hid (inv_done H.out m1)
      obtain ⟨z1, z2, z3, z4, z5⟩ := rest_eq x m1
      have b1 := Int.lt_tmod_of_pos x (b := m) (by omega)
      have b2 := Int.tmod_lt_of_pos x (b := m) (by omega)
      clear z1 H
      go_wp2
      go_ret
      exact ⟨ret_int (by first | exact hE.out | (rw [← hE.out, Int.add_emod_right])), Joins.below_draws _ _ _⟩
end Go.Proofs.Ytnihhchgnkfcgaa
