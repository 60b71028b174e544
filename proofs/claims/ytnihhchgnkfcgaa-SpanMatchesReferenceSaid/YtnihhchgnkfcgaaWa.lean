/- The walks of the small functions of layer 25: each returns what its plain Lean function gives. -/
import Derived.Test.YtnihhchgnkfcgaaRows
import Derived.Test.YtnihhchgnkfcgaaPlain
import Derived.WalkKit
import Derived.ProofKit
import Derived.OpenShut
import Derived.Outline
import Derived.Handy
import Derived.Lib.Hide
import Derived.WalkLawsBesides
import Derived.WalkSpells
import Derived.BigQuiet
import Derived.Deep.QuietTactic
set_option linter.unusedSimpArgs false
set_option linter.unusedVariables false
namespace Go.Proofs.Ytnihhchgnkfcgaa
open Go.ChangeShapes Go.WideShapes Go.ChangeAt Go.RowKit

abbrev iv (n : Int) : Value := .int .i64 n
abbrev spv (s : Sp) : Value := .agg #[.int .i64 s.lo, .int .i64 s.hi, .int .i64 s.st]

theorem ret_bool {a b : Bool} (h : a = b) : Ending.returned (.bool a) = .returned (.bool b) := by rw [h]
theorem ret_int {a b : Int} (h : a = b) : Ending.returned (.int .i64 a) = .returned (.int .i64 b) := by rw [h]

theorem near_any (n : Int) (w : World) :
    Calls Try.prog 43 #[.int .i64 n] w fun e w' => e = .returned (.bool (nearB n)) ∧ w = w' := by
  by_cases h1 : -1099511627776 ≤ n
  · have hd : (nearB n) = decide (n ≤ 1099511627776) := by simp [nearB, h1]
    have hD := Lib.hid hd; clear hd
    go_enter Try.func43, Try.ntmps43
    go_wp2
    go_ret
    exact ⟨ret_bool hD.out.symm, rfl⟩
  · have hd : (nearB n) = false := by simp [nearB, h1]
    have hD := Lib.hid hd; clear hd
    go_enter Try.func43, Try.ntmps43
    go_wp2
    go_ret
    exact ⟨ret_bool hD.out.symm, rfl⟩

theorem rnear_any (n : Int) (w : World) :
    Calls Try.prog 44 #[.int .i64 n] w fun e w' => e = .returned (.bool (nearB n)) ∧ w = w' := by
  by_cases h1 : -1099511627776 ≤ n
  · have hd : (nearB n) = decide (n ≤ 1099511627776) := by simp [nearB, h1]
    have hD := Lib.hid hd; clear hd
    go_enter Try.func44, Try.ntmps44
    go_wp2
    go_ret
    exact ⟨ret_bool hD.out.symm, rfl⟩
  · have hd : (nearB n) = false := by simp [nearB, h1]
    have hD := Lib.hid hd; clear hd
    go_enter Try.func44, Try.ntmps44
    go_wp2
    go_ret
    exact ⟨ret_bool hD.out.symm, rfl⟩

theorem redge_any (w : World) :
    Calls Try.prog 24 #[] w fun e w' => e = .returned (.int .i64 1099511627776) ∧ w = w' := by
  go_enter Try.func24, Try.ntmps24
  go_wp2
  go_ret
  exact ⟨rfl, rfl⟩

theorem made_any (lo hi st : Int) (w : World) :
    Calls Try.prog 46 #[.int .i64 lo, .int .i64 hi, .int .i64 st] w fun e w' => e = .returned (spv (madeM lo hi st)) ∧ Below w.heap.size w w' := by
  by_cases h1 : lo = hi
  · subst h1
    have hD := Lib.hid (show madeM lo lo st = ⟨lo, lo, 0⟩ by simp [madeM])
    go_enter Try.func46, Try.ntmps46
    go_wp2
    refine bodyPost_ret (v := .agg #[.int .i64 lo, .int .i64 lo, .int .i64 0]) (by simp [results, Try.results46, go_sem]) rfl ⟨by rw [hD.out], (Below.refl _ _).alloc (Nat.le_refl _) _⟩
  · have hD := Lib.hid (show madeM lo hi st = ⟨lo, hi, st⟩ by simp [madeM, h1])
    go_enter Try.func46, Try.ntmps46
    go_wp2
    refine bodyPost_ret (v := .agg #[.int .i64 lo, .int .i64 hi, .int .i64 st]) (by simp [results, Try.results46, go_sem]) rfl ⟨by rw [hD.out], (Below.refl _ _).alloc (Nat.le_refl _) _⟩

theorem rmade_any (lo hi st : Int) (w : World) :
    Calls Try.prog 41 #[.int .i64 lo, .int .i64 hi, .int .i64 st] w fun e w' => e = .returned (spv (madeM lo hi st)) ∧ Below w.heap.size w w' := by
  by_cases h1 : lo = hi
  · subst h1
    have hD := Lib.hid (show madeM lo lo st = ⟨lo, lo, 0⟩ by simp [madeM])
    go_enter Try.func41, Try.ntmps41
    go_wp2
    refine bodyPost_ret (v := .agg #[.int .i64 lo, .int .i64 lo, .int .i64 0]) (by simp [results, Try.results41, go_sem]) rfl ⟨by rw [hD.out], (Below.refl _ _).alloc (Nat.le_refl _) _⟩
  · have hD := Lib.hid (show madeM lo hi st = ⟨lo, hi, st⟩ by simp [madeM, h1])
    go_enter Try.func41, Try.ntmps41
    go_wp2
    refine bodyPost_ret (v := .agg #[.int .i64 lo, .int .i64 hi, .int .i64 st]) (by simp [results, Try.results41, go_sem]) rfl ⟨by rw [hD.out], (Below.refl _ _).alloc (Nat.le_refl _) _⟩

theorem floor_any (a b : Int) (w : World) (hb : 1 ≤ b) (hb2 : b ≤ 9223372036854775807) (ha : -9223372036854775808 ≤ a) (ha2 : a ≤ 9223372036854775807) :
    Calls Try.prog 60 #[.int .i64 a, .int .i64 b] w fun e w' => e = .returned (.int .i64 (a / b)) ∧ w = w' := by
  have H := Lib.hid (ediv_bd (a := a) hb)
  go_enter Try.func60, Try.ntmps60
  go_wp2
  · have hm : a.tmod b < 0 := by assumption
    go_ret
    refine ⟨ret_int ?_, rfl⟩
    have h1 := tdiv_floor_neg hb hm
    rw [h1]
    have h2 := H.out
    exact IntWalk.wrap64_in _ (by omega)
  · have hm : 0 ≤ a.tmod b := by assumption
    go_ret
    exact ⟨ret_int (tdiv_floor_pos hb hm), rfl⟩

theorem has_any (s : Sp) (n : Int) (w : World) (h0 : 0 ≤ s.st) (hz : s.lo < s.hi → 1 ≤ s.st) (h1 : -2305843009213693952 ≤ s.lo) (h2 : s.hi ≤ 2305843009213693952) (h3 : s.st ≤ 2305843009213693952) :
    Calls Try.prog 13 #[spv s, .int .i64 n] w fun e w' => e = .returned (.bool (hasB s n)) ∧ Below w.heap.size w w' := by
  obtain ⟨lo, hi, st⟩ := s
  dsimp only at *
  by_cases a1 : lo ≤ n
  · by_cases a2 : n ≤ hi
    · by_cases a3 : n = lo
      · subst a3
        have hD := Lib.hid (show hasB ⟨n, hi, st⟩ n = true by simp [hasB, a2])
        go_enter Try.func13, Try.ntmps13
        go_wp2
        go_ret
        exact ⟨ret_bool hD.out.symm, (Below.refl _ _).alloc (Nat.le_refl _) _⟩
      · have hp : 1 ≤ st := hz (by omega)
        have hD := Lib.hid (show hasB ⟨lo, hi, st⟩ n = ((n - lo) % st == 0) by simp [hasB, a1, a2]; rfl)
        have hb : (n == lo) = false := beq_eq_false_iff_ne.2 a3
        clear hz
        go_enter Try.func13, Try.ntmps13
        go_wp2
        go_ret
        exact ⟨ret_bool hD.out.symm, (Below.refl _ _).alloc (Nat.le_refl _) _⟩
    · have hD := Lib.hid (show hasB ⟨lo, hi, st⟩ n = false by simp [hasB, a2])
      go_enter Try.func13, Try.ntmps13
      go_wp2
      go_ret
      exact ⟨ret_bool hD.out.symm, (Below.refl _ _).alloc (Nat.le_refl _) _⟩
  · have hD := Lib.hid (show hasB ⟨lo, hi, st⟩ n = false by simp [hasB, a1])
    go_enter Try.func13, Try.ntmps13
    go_wp2
    go_ret
    exact ⟨ret_bool hD.out.symm, (Below.refl _ _).alloc (Nat.le_refl _) _⟩
end Go.Proofs.Ytnihhchgnkfcgaa
