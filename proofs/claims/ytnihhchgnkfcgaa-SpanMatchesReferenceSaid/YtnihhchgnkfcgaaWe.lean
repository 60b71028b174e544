/- The walks of the products of layer 25. -/
import Derived.Test.YtnihhchgnkfcgaaWd
import Derived.Test.YtnihhchgnkfcgaaShelf
import Derived.Test.YtnihhchgnkfcgaaPb
set_option linter.unusedSimpArgs false
set_option linter.unusedVariables false
namespace Go.Proofs.Ytnihhchgnkfcgaa
open Go.ChangeShapes Go.WideShapes Go.ChangeAt Go.RowKit

theorem run_min_mm {P : Program} {w : World} (ts : Array TypeId) (t : TypeId) (k k' : IntKind) (x y : Int) : (Builtin.min_ ts t #[.int k x, .int k' y]).run P w = .ok (.int k (min x y)) w := by
  rw [run_min_int2]
  have : (if y < x then y else x) = min x y := by rw [Int.min_def]; split <;> split <;> omega
  rw [this]
theorem run_max_mm {P : Program} {w : World} (ts : Array TypeId) (t : TypeId) (k k' : IntKind) (x y : Int) : (Builtin.max_ ts t #[.int k x, .int k' y]).run P w = .ok (.int k (max x y)) w := by
  rw [run_max_int2]
  have : (if y > x then y else x) = max x y := by rw [Int.max_def]; split <;> split <;> omega
  rw [this]
attribute [local go_sem high] run_min_mm run_max_mm

theorem ret_u64 {a b : Int} (h : a = b) : Ending.returned (.int .u64 a) = .returned (.int .u64 b) := by rw [h]
theorem ret_ib {a c : Int} {b d : Bool} (h : a = c) (h2 : b = d) : Ending.returned (.tuple #[.int .i64 a, .bool b]) = .returned (.tuple #[.int .i64 c, .bool d]) := by rw [h, h2]

theorem abs_any (n : Int) (w : World) (h1 : -9223372036854775808 ≤ n) (h2 : n ≤ 9223372036854775807) :
    Calls Try.prog 68 #[.int .i64 n] w fun e w' => e = .returned (.int .u64 (n.natAbs : Nat)) ∧ w = w' := by
  by_cases h : n < 0
  · have e1 : IntKind.u64.wrap n = n + 18446744073709551616 := by rw [IntKind.wrap_u64]; omega
    have e2 : IntKind.u64.wrap (-(n + 18446744073709551616)) = (n.natAbs : Nat) := by rw [IntKind.wrap_u64]; omega
    go_enter Try.func68, Try.ntmps68
    go_wp2
    go_ret
    exact ⟨rfl, rfl⟩
  · go_enter Try.func68, Try.ntmps68
    go_wp2
    go_ret
    exact ⟨ret_u64 (by omega), rfl⟩

theorem product_any (a b : Int) (w : World) (h1 : -9223372036854775808 ≤ a) (h2 : a ≤ 9223372036854775807) (h3 : -9223372036854775808 ≤ b) (h4 : b ≤ 9223372036854775807) :
    Calls Try.prog 66 #[.int .i64 a, .int .i64 b] w fun e w' => e = .returned (.tuple #[.int .i64 (wrap64 (a * b)), .bool (fitsB a b)]) ∧ w = w' := by
  go_enter Try.func66, Try.ntmps66
  go_wp2_with (first | (go_at_call 68; refine (abs_any _ _ (by omega) (by omega)).mono ?_; rintro e w' ⟨rfl, rfl⟩) | (go_at_call 64; refine (Try.bits_Mul64 a.natAbs b.natAbs (by omega) (by omega) _).mono ?_; rintro e w' ⟨rfl, rfl⟩))
  · have hh : (a.natAbs : Int) * (b.natAbs : Int) / 18446744073709551616 = 0 := by assumption
    go_ret2
    exact ⟨ret_ib rfl (fits_hi0 hh), rfl⟩
  · have hh : ¬ (a.natAbs : Int) * (b.natAbs : Int) / 18446744073709551616 = 0 := by assumption
    go_ret2
    exact ⟨ret_ib rfl (fits_hi1 hh), rfl⟩

theorem ix0 (x y : Int) (w : World) : (Instr.index 82 (.agg #[.int .i64 x, .int .i64 y]) (.int .i64 0)).run Try.prog w = .ok (.int .i64 x) w := by kernel_rfl
theorem ix1 (x y : Int) (w : World) : (Instr.index 82 (.agg #[.int .i64 x, .int .i64 y]) (.int .i64 1)).run Try.prog w = .ok (.int .i64 y) w := by kernel_rfl

def pLo (s t : Sp) : Int := min (min (min (min 1099511627776 (wrap64 (s.lo * t.lo))) (wrap64 (s.lo * t.hi))) (wrap64 (s.hi * t.lo))) (wrap64 (s.hi * t.hi))
def pHi (s t : Sp) : Int := max (max (max (max (-1099511627776) (wrap64 (s.lo * t.lo))) (wrap64 (s.lo * t.hi))) (wrap64 (s.hi * t.lo))) (wrap64 (s.hi * t.hi))
theorem ret_iib {a c a2 c2 : Int} {b d : Bool} (h : a = c) (h1 : a2 = c2) (h2 : b = d) : Ending.returned (.tuple #[.int .i64 a, .int .i64 a2, .bool b]) = .returned (.tuple #[.int .i64 c, .int .i64 c2, .bool d]) := by rw [h, h1, h2]
theorem four_cases (a b c d : Bool) : (a = false ∧ (a && b && c && d) = false) ∨ (a = true ∧ b = false ∧ (a && b && c && d) = false) ∨ (a = true ∧ b = true ∧ c = false ∧ (a && b && c && d) = false) ∨ (a = true ∧ b = true ∧ c = true ∧ (a && b && c && d) = d) := by
  cases a <;> cases b <;> cases c <;> cases d <;> simp

set_option maxHeartbeats 1000000 in
theorem products_any (s t : Sp) (w : World) (h1 : -9223372036854775808 ≤ s.lo) (h2 : s.lo ≤ 9223372036854775807) (h3 : -9223372036854775808 ≤ s.hi) (h4 : s.hi ≤ 9223372036854775807)
    (k1 : -9223372036854775808 ≤ t.lo) (k2 : t.lo ≤ 9223372036854775807) (k3 : -9223372036854775808 ≤ t.hi) (k4 : t.hi ≤ 9223372036854775807) :
    Calls Try.prog 62 #[spv s, spv t] w fun e w' => e = .returned (.tuple #[.int .i64 (pLo s t), .int .i64 (pHi s t), .bool (fits4 s t)]) ∧ Below w.heap.size w w' := by
  have i0 := ix0
  have i1 := ix1
  have hD := Lib.hid (show fits4 s t = (fitsB s.lo t.lo && fitsB s.lo t.hi && fitsB s.hi t.lo && fitsB s.hi t.hi) from rfl)
  rcases four_cases (fitsB s.lo t.lo) (fitsB s.lo t.hi) (fitsB s.hi t.lo) (fitsB s.hi t.hi) with ⟨f1, ff⟩ | ⟨f1, f2, ff⟩ | ⟨f1, f2, f3, ff⟩ | ⟨f1, f2, f3, ff⟩
  all_goals
    have hF := Lib.hid ff; clear ff
    go_enter Try.func62, Try.ntmps62
    go_wp2
    refine wp_loop_rounds 3 ?_; rw [rounds_succ]
    go_wp2
    refine wp_loop_rounds 3 ?_; rw [rounds_succ]
    go_wp2_with (go_at_call 66; refine (product_any _ _ _ (by omega) (by omega) (by omega) (by omega)).mono ?_; rintro e w' ⟨rfl, rfl⟩)
    rw [rounds_succ]
    go_wp2_with (go_at_call 66; refine (product_any _ _ _ (by omega) (by omega) (by omega) (by omega)).mono ?_; rintro e w' ⟨rfl, rfl⟩)
    rw [rounds_succ]
    go_wp2_with (go_at_call 66; refine (product_any _ _ _ (by omega) (by omega) (by omega) (by omega)).mono ?_; rintro e w' ⟨rfl, rfl⟩)
    rw [rounds_succ]
    go_wp2_with (go_at_call 66; refine (product_any _ _ _ (by omega) (by omega) (by omega) (by omega)).mono ?_; rintro e w' ⟨rfl, rfl⟩)
    refine wp_loop_rounds 3 ?_; rw [rounds_succ]
    go_wp2_with (go_at_call 66; refine (product_any _ _ _ (by omega) (by omega) (by omega) (by omega)).mono ?_; rintro e w' ⟨rfl, rfl⟩)
    rw [rounds_succ]
    go_wp2_with (go_at_call 66; refine (product_any _ _ _ (by omega) (by omega) (by omega) (by omega)).mono ?_; rintro e w' ⟨rfl, rfl⟩)
    rw [rounds_succ]
    go_wp2_with fail
    rw [rounds_succ]
    go_wp2_with fail
    go_ret3
    exact ⟨ret_iib (by unfold pLo; omega) (by unfold pHi; omega) (by rw [hD.out, hF.out]), by go_grown⟩

theorem p_fit {s t : Sp} (h : fits4 s t = true) : pLo s t = min4 (s.lo * t.lo) (s.lo * t.hi) (s.hi * t.lo) (s.hi * t.hi) ∧ pHi s t = max4 (s.lo * t.lo) (s.lo * t.hi) (s.hi * t.lo) (s.hi * t.hi) := by
  obtain ⟨a, b, c, d⟩ := (fits4_iff s t).1 h
  unfold pLo pHi min4 max4
  rw [IntWalk.wrap64_in _ (by omega), IntWalk.wrap64_in _ (by omega), IntWalk.wrap64_in _ (by omega), IntWalk.wrap64_in _ (by omega)]
  omega

theorem cells1 (b : Nat) (w : World) (a : Int) (h : w.cell? ⟨b, 0, none⟩ = some (.int .i64 a)) : ∀ k, k < [a].length → w.cell? ⟨b, k, none⟩ = some (.int .i64 ([a].getD k 0)) := by
  intro k hk
  match k, hk with
  | 0, _ => exact h
theorem cells2 (b : Nat) (w : World) (a c : Int) (h : w.cell? ⟨b, 0, none⟩ = some (.int .i64 a)) (h1 : w.cell? ⟨b, 1, none⟩ = some (.int .i64 c)) : ∀ k, k < [a, c].length → w.cell? ⟨b, k, none⟩ = some (.int .i64 ([a, c].getD k 0)) := by
  intro k hk
  match k, hk with
  | 0, _ => exact h
  | 1, _ => exact h1
theorem cells3 (b : Nat) (w : World) (a c d : Int) (h : w.cell? ⟨b, 0, none⟩ = some (.int .i64 a)) (h1 : w.cell? ⟨b, 1, none⟩ = some (.int .i64 c)) (h2 : w.cell? ⟨b, 2, none⟩ = some (.int .i64 d)) : ∀ k, k < [a, c, d].length → w.cell? ⟨b, k, none⟩ = some (.int .i64 ([a, c, d].getD k 0)) := by
  intro k hk
  match k, hk with
  | 0, _ => exact h
  | 1, _ => exact h1
  | 2, _ => exact h2
theorem bd_all1 (a : Int) (h : -4611686018427387904 ≤ a ∧ a ≤ 4611686018427387904) : ∀ k, k < [a].length → -4611686018427387904 ≤ [a].getD k 0 ∧ [a].getD k 0 ≤ 4611686018427387904 := by
  intro k hk
  match k, hk with
  | 0, _ => exact h
theorem bd_all2 (a c : Int) (h : -4611686018427387904 ≤ a ∧ a ≤ 4611686018427387904) (h1 : -4611686018427387904 ≤ c ∧ c ≤ 4611686018427387904) : ∀ k, k < [a, c].length → -4611686018427387904 ≤ [a, c].getD k 0 ∧ [a, c].getD k 0 ≤ 4611686018427387904 := by
  intro k hk
  match k, hk with
  | 0, _ => exact h
  | 1, _ => exact h1
theorem bd_all3 (a c d : Int) (h : -4611686018427387904 ≤ a ∧ a ≤ 4611686018427387904) (h1 : -4611686018427387904 ≤ c ∧ c ≤ 4611686018427387904) (h2 : -4611686018427387904 ≤ d ∧ d ≤ 4611686018427387904) :
    ∀ k, k < [a, c, d].length → -4611686018427387904 ≤ [a, c, d].getD k 0 ∧ [a, c, d].getD k 0 ≤ 4611686018427387904 := by
  intro k hk
  match k, hk with
  | 0, _ => exact h
  | 1, _ => exact h1
  | 2, _ => exact h2

/-- gcd of two numbers that lie in a block of the call's own. -/
theorem gcd2_any (a c : Int) (b : Nat) (w : World) (h : w.cell? ⟨b, 0, none⟩ = some (.int .i64 a)) (h1 : w.cell? ⟨b, 1, none⟩ = some (.int .i64 c)) (ha : -4611686018427387904 ≤ a ∧ a ≤ 4611686018427387904) (hc : -4611686018427387904 ≤ c ∧ c ≤ 4611686018427387904) :
    Calls Try.prog 47 #[.slice (some ⟨b, 0, none⟩) 2 2] w fun e w' => e = .returned (.int .i64 (gcdM a c)) ∧ Below w.heap.size w w' :=
  (gcd_any [a, c] b w (cells2 b w a c h h1) (by simp) (bd_all2 a c ha hc)).mono fun _ _ ⟨he, q, hq⟩ => ⟨by rw [he, gcdN_two], by rw [hq]; exact ⟨rfl, rfl, rfl, Nat.le_refl _, fun _ _ => rfl⟩⟩
theorem gcd1_any (a : Int) (b : Nat) (w : World) (h : w.cell? ⟨b, 0, none⟩ = some (.int .i64 a)) (ha : -4611686018427387904 ≤ a ∧ a ≤ 4611686018427387904) :
    Calls Try.prog 47 #[.slice (some ⟨b, 0, none⟩) 1 1] w fun e w' => e = .returned (.int .i64 (a.natAbs : Nat)) ∧ Below w.heap.size w w' :=
  (gcd_any [a] b w (cells1 b w a h) (by simp) (bd_all1 a ha)).mono fun _ _ ⟨he, q, hq⟩ => ⟨by rw [he, gcdN_one], by rw [hq]; exact ⟨rfl, rfl, rfl, Nat.le_refl _, fun _ _ => rfl⟩⟩
theorem gcd3_any (a c d : Int) (b : Nat) (w : World) (h : w.cell? ⟨b, 0, none⟩ = some (.int .i64 a)) (h1 : w.cell? ⟨b, 1, none⟩ = some (.int .i64 c)) (h2 : w.cell? ⟨b, 2, none⟩ = some (.int .i64 d))
    (ha : -4611686018427387904 ≤ a ∧ a ≤ 4611686018427387904) (hc : -4611686018427387904 ≤ c ∧ c ≤ 4611686018427387904) (hd : -4611686018427387904 ≤ d ∧ d ≤ 4611686018427387904) :
    Calls Try.prog 47 #[.slice (some ⟨b, 0, none⟩) 3 3] w fun e w' => e = .returned (.int .i64 (gcdM (gcdM a c) d)) ∧ Below w.heap.size w w' :=
  (gcd_any [a, c, d] b w (cells3 b w a c d h h1 h2) (by simp) (bd_all3 a c d ha hc hd)).mono fun _ _ ⟨he, q, hq⟩ => ⟨by rw [he, gcdN_three], by rw [hq]; exact ⟨rfl, rfl, rfl, Nat.le_refl _, fun _ _ => rfl⟩⟩
end Go.Proofs.Ytnihhchgnkfcgaa
