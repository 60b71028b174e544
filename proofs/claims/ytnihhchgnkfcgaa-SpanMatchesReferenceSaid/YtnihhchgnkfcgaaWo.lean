/- The walk of the reference's greatest common divisor. -/
import Derived.Test.YtnihhchgnkfcgaaWd
import Derived.Test.YtnihhchgnkfcgaaPc
import Derived.Lib.SmallJoins
set_option linter.unusedSimpArgs false
set_option linter.unusedVariables false
namespace Go.Proofs.Ytnihhchgnkfcgaa
open Go.ChangeShapes Go.WideShapes Go.ChangeAt Go.RowKit
theorem gcdM_abs (a b : Int) : gcdM (a.natAbs : Int) (b.natAbs : Int) = gcdM a b := by unfold gcdM; simp [Int.gcd]
set_option maxHeartbeats 1000000 in
theorem rgcd_any (a b : Int) (w : World) (ha : -4611686018427387904 ≤ a) (ha2 : a ≤ 4611686018427387904) (hb : -4611686018427387904 ≤ b) (hb2 : b ≤ 4611686018427387904) :
    Calls Try.prog 21 #[.int .i64 a, .int .i64 b] w fun e w' => e = .returned (.int .i64 (gcdM a b)) ∧ Below w.heap.size w w' := by
  by_cases h1 : a < 0
  · by_cases h2 : b < 0
    · go_enter Try.func21, Try.ntmps21
      go_wp2
      go_loopw [0, 1] (fun g n wr => ∃ (c d : Int) (q : Nat), g = .int .i64 c ∧ n = .int .i64 d ∧ Hid (gcdM c d = gcdM a b) ∧ 0 ≤ c ∧ 0 ≤ d ∧ c ≤ 4611686018427387904 ∧ d ≤ 4611686018427387904 ∧ wr = w.drewN q) (fun _ n _ => (intOf n).natAbs)
      case atStart => exact ⟨-a, -b, 0, rfl, rfl, Lib.hid (by unfold gcdM; simp [Int.gcd]), by omega, by omega, by omega, by omega, rfl⟩
      case round =>
        obtain ⟨c, d, q, rfl, rfl, hg, hc0, hd0, hc1, hd1, rfl⟩ := hrel
        by_cases hd : d = 0
        · subst hd
          have := hg.out
          rw [gcdM_zero hc0] at this
          have HD := Lib.hid this
          go_wp2
          · go_ret
            exact ⟨ret_int HD.out, Joins.below_draws _ _ _⟩
        · have hne : (d == 0) = false := beq_eq_false_iff_ne.2 hd
          have hne2 : (d != 0) = true := by simp [hd]
          have t1 := Int.emod_nonneg c hd
          have t2 := Int.emod_lt_of_pos c (b := d) (by omega)
          have H1 : Hid (gcdM d (c % d) = gcdM a b) := Lib.hid (by rw [gcdM_mod]; exact hg.out)
          go_wp2
          go_quiet (fail)
          go_wp2
          go_roundw
          case rel => exact ⟨d, c % d, _, rfl, rfl, H1, hd0, t1, hd1, by omega, by rw [World.drewN_drewN]⟩
          case measure => simp [intOf]; omega
    · go_enter Try.func21, Try.ntmps21
      go_wp2
      go_loopw [0, 1] (fun g n wr => ∃ (c d : Int) (q : Nat), g = .int .i64 c ∧ n = .int .i64 d ∧ Hid (gcdM c d = gcdM a b) ∧ 0 ≤ c ∧ 0 ≤ d ∧ c ≤ 4611686018427387904 ∧ d ≤ 4611686018427387904 ∧ wr = w.drewN q) (fun _ n _ => (intOf n).natAbs)
      case atStart => exact ⟨-a, b, 0, rfl, rfl, Lib.hid (by unfold gcdM; simp [Int.gcd]), by omega, by omega, by omega, by omega, rfl⟩
      case round =>
        obtain ⟨c, d, q, rfl, rfl, hg, hc0, hd0, hc1, hd1, rfl⟩ := hrel
        by_cases hd : d = 0
        · subst hd
          have := hg.out
          rw [gcdM_zero hc0] at this
          have HD := Lib.hid this
          go_wp2
          · go_ret
            exact ⟨ret_int HD.out, Joins.below_draws _ _ _⟩
        · have hne : (d == 0) = false := beq_eq_false_iff_ne.2 hd
          have hne2 : (d != 0) = true := by simp [hd]
          have t1 := Int.emod_nonneg c hd
          have t2 := Int.emod_lt_of_pos c (b := d) (by omega)
          have H1 : Hid (gcdM d (c % d) = gcdM a b) := Lib.hid (by rw [gcdM_mod]; exact hg.out)
          go_wp2
          go_quiet (fail)
          go_wp2
          go_roundw
          case rel => exact ⟨d, c % d, _, rfl, rfl, H1, hd0, t1, hd1, by omega, by rw [World.drewN_drewN]⟩
          case measure => simp [intOf]; omega
  · by_cases h2 : b < 0
    · go_enter Try.func21, Try.ntmps21
      go_wp2
      go_loopw [0, 1] (fun g n wr => ∃ (c d : Int) (q : Nat), g = .int .i64 c ∧ n = .int .i64 d ∧ Hid (gcdM c d = gcdM a b) ∧ 0 ≤ c ∧ 0 ≤ d ∧ c ≤ 4611686018427387904 ∧ d ≤ 4611686018427387904 ∧ wr = w.drewN q) (fun _ n _ => (intOf n).natAbs)
      case atStart => exact ⟨a, -b, 0, rfl, rfl, Lib.hid (by unfold gcdM; simp [Int.gcd]), by omega, by omega, by omega, by omega, rfl⟩
      case round =>
        obtain ⟨c, d, q, rfl, rfl, hg, hc0, hd0, hc1, hd1, rfl⟩ := hrel
        by_cases hd : d = 0
        · subst hd
          have := hg.out
          rw [gcdM_zero hc0] at this
          have HD := Lib.hid this
          go_wp2
          · go_ret
            exact ⟨ret_int HD.out, Joins.below_draws _ _ _⟩
        · have hne : (d == 0) = false := beq_eq_false_iff_ne.2 hd
          have hne2 : (d != 0) = true := by simp [hd]
          have t1 := Int.emod_nonneg c hd
          have t2 := Int.emod_lt_of_pos c (b := d) (by omega)
          have H1 : Hid (gcdM d (c % d) = gcdM a b) := Lib.hid (by rw [gcdM_mod]; exact hg.out)
          go_wp2
          go_quiet (fail)
          go_wp2
          go_roundw
          case rel => exact ⟨d, c % d, _, rfl, rfl, H1, hd0, t1, hd1, by omega, by rw [World.drewN_drewN]⟩
          case measure => simp [intOf]; omega
    · go_enter Try.func21, Try.ntmps21
      go_wp2
      go_loopw [0, 1] (fun g n wr => ∃ (c d : Int) (q : Nat), g = .int .i64 c ∧ n = .int .i64 d ∧ Hid (gcdM c d = gcdM a b) ∧ 0 ≤ c ∧ 0 ≤ d ∧ c ≤ 4611686018427387904 ∧ d ≤ 4611686018427387904 ∧ wr = w.drewN q) (fun _ n _ => (intOf n).natAbs)
      case atStart => exact ⟨a, b, 0, rfl, rfl, Lib.hid rfl, by omega, by omega, by omega, by omega, rfl⟩
      case round =>
        obtain ⟨c, d, q, rfl, rfl, hg, hc0, hd0, hc1, hd1, rfl⟩ := hrel
        by_cases hd : d = 0
        · subst hd
          have := hg.out
          rw [gcdM_zero hc0] at this
          have HD := Lib.hid this
          go_wp2
          · go_ret
            exact ⟨ret_int HD.out, Joins.below_draws _ _ _⟩
        · have hne : (d == 0) = false := beq_eq_false_iff_ne.2 hd
          have hne2 : (d != 0) = true := by simp [hd]
          have t1 := Int.emod_nonneg c hd
          have t2 := Int.emod_lt_of_pos c (b := d) (by omega)
          have H1 : Hid (gcdM d (c % d) = gcdM a b) := Lib.hid (by rw [gcdM_mod]; exact hg.out)
          go_wp2
          go_quiet (fail)
          go_wp2
          go_roundw
          case rel => exact ⟨d, c % d, _, rfl, rfl, H1, hd0, t1, hd1, by omega, by rw [World.drewN_drewN]⟩
          case measure => simp [intOf]; omega
end Go.Proofs.Ytnihhchgnkfcgaa
