/- The walks of the reference's sums, differences, joins, and of its smaller functions. -/
import Derived.Test.YtnihhchgnkfcgaaWqc
import Derived.Test.YtnihhchgnkfcgaaWo
import Derived.Test.YtnihhchgnkfcgaaWd
-- USEBDN
set_option linter.unusedSimpArgs false
set_option linter.unusedVariables false
namespace Go.Proofs.Ytnihhchgnkfcgaa
open Go.ChangeShapes Go.WideShapes Go.ChangeAt Go.RowKit
attribute [local go_sem high] run_min_mm run_max_mm

/-- The size of a number, at most 2^62. -/
def capM (n : Int) : Int := if n < 0 then -(max n (-4611686018427387904)) else min n 4611686018427387904
theorem rcap_any (n : Int) (w : World) (h1 : -9223372036854775808 ≤ n) (h2 : n ≤ 9223372036854775807) :
    Calls Try.prog 51 #[.int .i64 n] w fun e w' => e = .returned (.int .i64 (capM n)) ∧ w = w' := by
  by_cases h : n < 0
  · have hD := Lib.hid (show capM n = -(max n (-4611686018427387904)) by unfold capM; rw [if_pos h])
    have b1 : -4611686018427387904 ≤ max n (-4611686018427387904) := by omega
    have b2 : max n (-4611686018427387904) ≤ 0 := by omega
    go_enter Try.func51, Try.ntmps51
    go_wp2
    go_ret
    exact ⟨ret_int hD.out.symm, rfl⟩
  · have hD := Lib.hid (show capM n = min n 4611686018427387904 by unfold capM; rw [if_neg h])
    go_enter Try.func51, Try.ntmps51
    go_wp2
    go_ret
    exact ⟨ret_int hD.out.symm, rfl⟩

theorem cap_bd (n : Int) : 0 ≤ capM n ∧ capM n ≤ 4611686018427387904 := by unfold capM; split <;> omega
theorem cap_fits {a b : Int} (ha : a ≠ 0) (a1 : -1099511627776 ≤ a) (a2 : a ≤ 1099511627776) : (decide (1099511627776 / capM a < capM b)) = !fitsB a b := by
  have e : capM a = (a.natAbs : Int) := by unfold capM; split <;> omega
  have hp : 1 ≤ (a.natAbs : Int) := by omega
  rw [e]
  have h1 : fitsB a b = decide ((a.natAbs : Int) * (b.natAbs : Int) ≤ 1099511627776) := by
    have := Int.natAbs_mul a b
    unfold fitsB
    rw [← Int.natCast_mul, ← this, Bool.eq_iff_iff]
    simp only [Bool.and_eq_true, decide_eq_true_eq]
    omega
  rw [h1, ← decide_not]
  congr 1
  have h2 : (b.natAbs : Int) ≤ 1099511627776 / (a.natAbs : Int) ↔ (a.natAbs : Int) * (b.natAbs : Int) ≤ 1099511627776 := by
    rw [Int.le_ediv_iff_mul_le (by omega), Int.mul_comm]
  have h3 : 1099511627776 / (a.natAbs : Int) ≤ 1099511627776 := Int.ediv_le_self _ (by omega)
  have h4 : capM b ≤ 1099511627776 / (a.natAbs : Int) ↔ (b.natAbs : Int) ≤ 1099511627776 / (a.natAbs : Int) := by
    have : 0 ≤ 1099511627776 / (a.natAbs : Int) := Int.ediv_nonneg (by omega) (by omega)
    unfold capM
    split <;> omega
  rw [eq_iff_iff, ← Int.not_le, h4, h2]

theorem times_any (a b : Int) (w : World) (a1 : -1099511627776 ≤ a) (a2 : a ≤ 1099511627776) (b1 : -9223372036854775808 ≤ b) (b2 : b ≤ 9223372036854775807) :
    Calls Try.prog 50 #[.int .i64 a, .int .i64 b] w fun e w' => e = .returned (.tuple #[.int .i64 (if fitsB a b = true then a * b else 0), .bool (fitsB a b)]) ∧ w = w' := by
  by_cases h0 : a = 0
  · subst h0
    have hf : fitsB 0 b = true := by unfold fitsB; simp
    rw [hf]
    go_enter Try.func50, Try.ntmps50
    go_wp2
    go_ret2
    exact ⟨by simp, rfl⟩
  · have hne : (a == 0) = false := beq_eq_false_iff_ne.2 h0
    have hne2 : (a != 0) = true := by simp [h0]
    obtain ⟨ca1, ca2⟩ := cap_bd a
    obtain ⟨cb1, cb2⟩ := cap_bd b
    have ca0 : 1 ≤ capM a := by unfold capM; split <;> omega
    have hq : (1099511627776 : Int).tdiv (capM a) = 1099511627776 / capM a := Int.tdiv_eq_ediv_of_nonneg (by omega)
    have q1 : 0 ≤ 1099511627776 / capM a := Int.ediv_nonneg (by omega) (by omega)
    have q2 : 1099511627776 / capM a ≤ 1099511627776 := Int.ediv_le_self _ (by omega)
    have key := cap_fits (b := b) h0 a1 a2
    cases hf : fitsB a b
    · rw [hf] at key
      have key2 : decide (1099511627776 / capM a < capM b) = true := key
      clear key h0
      go_enter Try.func50, Try.ntmps50
      go_wp2_with (first | (go_at_call 51; (with_reducible refine (rcap_any b _ b1 b2).mono ?_); rintro e w' ⟨rfl, rfl⟩) | (go_at_call 51; (with_reducible refine (rcap_any a _ (by omega) (by omega)).mono ?_); rintro e w' ⟨rfl, rfl⟩) | (go_at_call 24; refine (redge_any _).mono ?_; rintro e w' ⟨rfl, rfl⟩))
      go_ret2
      exact ⟨rfl, rfl⟩
    · rw [hf] at key
      have key2 : decide (1099511627776 / capM a < capM b) = false := key
      obtain ⟨f1, f2⟩ := (fitsB_iff a b).1 hf
      clear key h0 hf
      go_enter Try.func50, Try.ntmps50
      go_wp2_with (first | (go_at_call 51; (with_reducible refine (rcap_any b _ b1 b2).mono ?_); rintro e w' ⟨rfl, rfl⟩) | (go_at_call 51; (with_reducible refine (rcap_any a _ (by omega) (by omega)).mono ?_); rintro e w' ⟨rfl, rfl⟩) | (go_at_call 24; refine (redge_any _).mono ?_; rintro e w' ⟨rfl, rfl⟩))
      go_ret2
      exact ⟨rfl, rfl⟩
theorem below_touch {B b : Nat} {w W W' : World} (h : Below B w W) (hb : B ≤ b) (ht : Mild2.Touch b W W') : Below B w W' :=
  ⟨ht.os.trans h.os, ht.tape.trans h.tape, ht.output.trans h.output, by rw [ht.size]; exact h.size, fun k hk => (ht.block k (by omega)).trans (h.block k hk)⟩

theorem rbounded_any (lo hi st : Int) (w : World) :
    Calls Try.prog 53 #[.int .i64 lo, .int .i64 hi, .int .i64 st] w fun e w' => e = .returned (spe (boundedM lo hi st)) ∧ Below w.heap.size w w' := by
  cases hA : nearB lo
  · have hD := Lib.hid (show boundedM lo hi st = ⟨zsp, 2⟩ by simp [boundedM, hA])
    go_enter Try.func53, Try.ntmps53
    go_wp2_with (go_at_call 44; refine (rnear_any _ _).mono ?_; rintro e w' ⟨rfl, rfl⟩)
    exact bodyPost_ret (v := .agg #[.int .i64 0, .int .i64 0, .int .i64 0, .int .i64 2]) (by simp [results, Try.results53, go_sem]) rfl ⟨by rw [hD.out]; rfl, bl1 _ _⟩
  · cases hB : nearB hi
    · have hD := Lib.hid (show boundedM lo hi st = ⟨zsp, 2⟩ by simp [boundedM, hB])
      go_enter Try.func53, Try.ntmps53
      go_wp2_with (go_at_call 44; refine (rnear_any _ _).mono ?_; rintro e w' ⟨rfl, rfl⟩)
      exact bodyPost_ret (v := .agg #[.int .i64 0, .int .i64 0, .int .i64 0, .int .i64 2]) (by simp [results, Try.results53, go_sem]) rfl ⟨by rw [hD.out]; rfl, bl1 _ _⟩
    · have hD := Lib.hid (show boundedM lo hi st = ⟨madeM lo hi st, 0⟩ by simp [boundedM, hA, hB])
      go_enter Try.func53, Try.ntmps53
      go_wp2_with (first | (go_at_call 44; refine (rnear_any _ _).mono ?_; rintro e w' ⟨rfl, rfl⟩) | (go_at_call 41; refine (rmade_any _ _ _ _).mono ?_; rintro e w1 ⟨rfl, hb⟩; obtain ⟨hc, hf⟩ := bcell hb; have hz := hb.size; (try simp at hz); have z0 : w.heap.size < w1.heap.size := (by omega); have c0 := fun o => hc (w.heap.size) o (by go_size); have f0 := fun o => hf (w.heap.size) o (by go_size); have hB := bup (B := w.heap.size) (w := w) (by (repeat' (first | (with_reducible exact Below.refl _ _) | (with_reducible assumption) | (with_reducible refine Below.alloc ?_ ?_ _) | (with_reducible refine Below.drew ?_) | (with_reducible refine bdn ?_ _) | (with_reducible refine Below.setCell ?_ ?_ _) | go_size))) hb (by go_size); clear hb))
      exact bodyPost_ret (v := spe ⟨madeM lo hi st, 0⟩) (by simp [results, Try.results53, go_sem, *]) rfl ⟨by rw [hD.out], by (repeat' (first | (with_reducible exact Below.refl _ _) | (with_reducible assumption) | (with_reducible refine Below.alloc ?_ ?_ _) | (with_reducible refine Below.drew ?_) | (with_reducible refine bdn ?_ _) | (with_reducible refine Below.setCell ?_ ?_ _) | go_size))⟩
end Go.Proofs.Ytnihhchgnkfcgaa
